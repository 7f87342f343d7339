import Derived.Test.YtkmobcaobmchpaaGreatDoorShelf
import Derived.Test.YtkmobcaobmchpaaGreatDoorWSRp2
import Derived.Test.YtkmobcaobmchpaaGreatDoorProg
set_option linter.unusedVariables false
set_option maxRecDepth 10000
set_option maxHeartbeats 2000000
namespace Go.Proofs.YtkmobcaobmchpaaGreatDoor.SR
open Go Go.Proofs.YtkmobcaobmchpaaGreatDoor.Ab
theorem reticentref01_order.ok {a0 : api_Lattice} {r : Bool} (h : reticentref01_order.f a0 = some r) : FnA Tryz.prog 61 [(kR f_api_Lattice).sig a0] (kB.sig r) := by
  refine fnIntro Tryz.func61 rfl (by kernel_rfl) fun H0 w0 => ?_
  unfold reticentref01_order.f at h
  refine wSeq ?_
  refine rg (cp (oBox tm) (s1 rfl) <| cp (oAs cB) trivial <| .nil) (by kernel_rfl) ?_
  refine pSeq ?_
  refine wSeq ?_
  refine wSeq ?_
  refine rg (cp (oFld (fs := f_api_Lattice) (k := 1) rfl o25_1 tm) (s1 rfl) <| cp (oLd t23 tm) (s1 rfl) <| cp (oLenL u23 tm) (s1 rfl) <| cp (oMv (cI (by decide))) trivial <| .nil) (by kernel_rfl) ?_
  refine pSeq ?_
  obtain ⟨o1, h, hk1⟩ := bd h
  refine wK0 (.inr () = o1) ([]) ([]) ?_ ?_
  · refine wBlock (wLoop ?_)
    refine lW (pc1 o1 (fun v315 => [(1, .d (sP (kR f_api_Lattice) a0)), (8, .d ((kI .i64).sig (a0.Up.length : Int))), (9, .d ((kI .i64).sig v315))]) (fun v315 => []) (reticentref01_order.l8.partial_correctness a0) ?_ _ h) ⟨rfl, rfl, rfl, trivial⟩ rfl
    clear h
    intro f' ih v315 h
    refine wSeq ?_
    refine rg (cp (oLt rfl tm tm) (s2 rfl rfl) <| .nil) (by kernel_rfl) ?_
    refine pSeq ?_
    refine wSeq ?_
    rcases ic h with ⟨hp316, h⟩ | ⟨hp316, h⟩
    · refine wCT hp316 tm (s1 rfl) ?_
      refine wSkip ?_
      refine pSeq ?_
      refine wSeq ?_
      refine wBlock ?_
      refine wSeq ?_
      refine rg (cp (oMv tm) (s1 rfl) <| cp (oAs tm) (s1 rfl) <| .nil) (by kernel_rfl) ?_
      refine pSeq ?_
      refine wSeq ?_
      refine wSeq ?_
      obtain ⟨y317, hy317, h⟩ := bd h
      refine rg (cp (oLd t25 tm) (s1 rfl) <| cp (oMv tm) (s1 rfl) <| cp (oMv tm) (s1 rfl) <| cp (oCall rfl (reticentref01_Flows.ok hy317) b136 (opds_cons tm (opds_cons tm (opds_cons tm opds_nil)))) (s3 rfl rfl rfl) <| cp (oNot tm) (s1 rfl) <| .nil) (by kernel_rfl) ?_
      refine pSeq ?_
      rcases ic h with ⟨hp318, h⟩ | ⟨hp318, h⟩
      · refine wBT hp318 tm (s1 rfl) ?_
        refine wSeq ?_
        refine rg (cp (oAs cB) trivial <| .nil) (by kernel_rfl) ?_
        refine pSeq ?_
        refine wRet ?_
        refine pThenR ?_
        refine pBlkR ?_
        refine pThenR ?_
        refine pThenR ?_
        refine pBlkR ?_
        refine pThenR ?_
        obtain rfl := so h
        replace h := hk1
        refine pThenR ?_
        obtain rfl := so h
        exact pR1 (.inl rfl) rfl (.tmp rfl <| .nil)
      · refine wBF hp318 tm (s1 rfl) ?_
        refine wSkip ?_
        refine pSeq ?_
        refine wSeq ?_
        refine rg (cp (oFld (fs := f_api_Lattice) (k := 1) rfl o25_1 tm) (s1 rfl) <| cp (oLd t23 tm) (s1 rfl) <| cp (oLenL u23 tm) (s1 rfl) <| cp (oMv (cI (by decide))) trivial <| .nil) (by kernel_rfl) ?_
        refine pSeq ?_
        obtain ⟨o2, h, hk2⟩ := bd h
        refine wK0 (.inr () = o2) ([(1, .d (sP (kR f_api_Lattice) a0)), (8, .d ((kI .i64).sig (a0.Up.length : Int))), (9, .d ((kI .i64).sig v315))]) ([]) ?_ ?_
        · refine wBlock (wLoop ?_)
          refine lW (pc1 o2 (fun v421 => [(1, .d (sP (kR f_api_Lattice) a0)), (3, .d ((kI .i64).sig v315)), (8, .d ((kI .i64).sig (a0.Up.length : Int))), (9, .d ((kI .i64).sig v315)), (19, .d ((kI .i64).sig (a0.Up.length : Int))), (20, .d ((kI .i64).sig v421))]) (fun v421 => []) (reticentref01_order.l11.partial_correctness a0 v315) ?_ _ h) ⟨rfl, rfl, rfl, rfl, rfl, rfl, trivial⟩ rfl
          clear h
          intro f' ih v421 h
          refine wSeq ?_
          refine rg (cp (oLt rfl tm tm) (s2 rfl rfl) <| .nil) (by kernel_rfl) ?_
          refine pSeq ?_
          refine wSeq ?_
          rcases ic h with ⟨hp422, h⟩ | ⟨hp422, h⟩
          · refine wCT hp422 tm (s1 rfl) ?_
            refine wSkip ?_
            refine pSeq ?_
            refine wSeq ?_
            refine wBlock ?_
            refine wSeq ?_
            refine rg (cp (oMv tm) (s1 rfl) <| cp (oAs tm) (s1 rfl) <| .nil) (by kernel_rfl) ?_
            refine pSeq ?_
            refine wSeq ?_
            obtain ⟨o3, h, hk3⟩ := bd h
            refine wJ1 (fun x427 => x427 = o3) (fun x427 => [(1, .d (sP (kR f_api_Lattice) a0)), (3, .d ((kI .i64).sig v315)), (4, .d ((kI .i64).sig v421)), (8, .d ((kI .i64).sig (a0.Up.length : Int))), (9, .d ((kI .i64).sig v315)), (19, .d ((kI .i64).sig (a0.Up.length : Int))), (20, .d ((kI .i64).sig v421)), (37, .d (kB.sig x427))]) (fun x427 => []) ?_ ?_
            · rcases ic h with ⟨hp428, h⟩ | ⟨hp428, h⟩
              · refine rg (cp (oMv tm) (s1 rfl) <| cp (oMv tm) (s1 rfl) <| cp (oNe rfl tm tm) (s2 rfl rfl) <| cp (oMv tm) (s1 rfl) <| csB (nf hp428) rfl rfl <| csB (nf hp428) rfl rfl <| csB (nf hp428) rfl rfl <| csB (nf hp428) rfl rfl <| cp (oPkF (nf hp428) tm cB) (s1 rfl) <| cp (oMv tm) (s1 rfl) <| csB rfl rfl rfl <| csB rfl rfl rfl <| csB rfl rfl rfl <| csB rfl rfl rfl <| cp (oPkF rfl tm cB) (s1 rfl) <| .nil) (by kernel_rfl) ?_
                exact pJ1 _ (so h) ⟨rfl, rfl, rfl, rfl, rfl, rfl, rfl, rfl, trivial⟩ rfl
              · obtain ⟨y429, hy429, h⟩ := bd h
                rcases ic h with ⟨hp430, h⟩ | ⟨hp430, h⟩
                · obtain ⟨y431, hy431, h⟩ := bd h
                  refine rg (cp (oMv tm) (s1 rfl) <| cp (oMv tm) (s1 rfl) <| cp (oNe rfl tm tm) (s2 rfl rfl) <| cp (oMv tm) (s1 rfl) <| cgB (nt hp428) rfl rfl (oLd t25 tm) (s1 rfl) <| cgB (nt hp428) rfl rfl (oMv tm) (s1 rfl) <| cgB (nt hp428) rfl rfl (oMv tm) (s1 rfl) <| cgB (nt hp428) rfl rfl (oCall rfl (reticentref01_Flows.ok hy429) b136 (opds_cons tm (opds_cons tm (opds_cons tm opds_nil)))) (s3 rfl rfl rfl) <| cp (oPkT (nt hp428) tm tm) (s2 rfl rfl) <| cp (oMv tm) (s1 rfl) <| cgB hp430 rfl rfl (oLd t25 tm) (s1 rfl) <| cgB hp430 rfl rfl (oMv tm) (s1 rfl) <| cgB hp430 rfl rfl (oMv tm) (s1 rfl) <| cgB hp430 rfl rfl (oCall rfl (reticentref01_Flows.ok hy431) b136 (opds_cons tm (opds_cons tm (opds_cons tm opds_nil)))) (s3 rfl rfl rfl) <| cp (oPkT hp430 tm tm) (s2 rfl rfl) <| .nil) (by kernel_rfl) ?_
                  exact pJ1 _ (so h) ⟨rfl, rfl, rfl, rfl, rfl, rfl, rfl, rfl, trivial⟩ rfl
                · refine rg (cp (oMv tm) (s1 rfl) <| cp (oMv tm) (s1 rfl) <| cp (oNe rfl tm tm) (s2 rfl rfl) <| cp (oMv tm) (s1 rfl) <| cgB (nt hp428) rfl rfl (oLd t25 tm) (s1 rfl) <| cgB (nt hp428) rfl rfl (oMv tm) (s1 rfl) <| cgB (nt hp428) rfl rfl (oMv tm) (s1 rfl) <| cgB (nt hp428) rfl rfl (oCall rfl (reticentref01_Flows.ok hy429) b136 (opds_cons tm (opds_cons tm (opds_cons tm opds_nil)))) (s3 rfl rfl rfl) <| cp (oPkT (nt hp428) tm tm) (s2 rfl rfl) <| cp (oMv tm) (s1 rfl) <| csB (nb hp430) rfl rfl <| csB (nb hp430) rfl rfl <| csB (nb hp430) rfl rfl <| csB (nb hp430) rfl rfl <| cp (oPkF (nb hp430) tm cB) (s1 rfl) <| .nil) (by kernel_rfl) ?_
                  exact pJ1 _ (so h) ⟨rfl, rfl, rfl, rfl, rfl, rfl, rfl, rfl, trivial⟩ rfl
            · rintro x427 rfl
              replace h := hk3
              rcases ic h with ⟨hp432, h⟩ | ⟨hp432, h⟩
              · refine wBT hp432 tm (s1 rfl) ?_
                refine wSeq ?_
                refine rg (cp (oAs cB) trivial <| .nil) (by kernel_rfl) ?_
                refine pSeq ?_
                refine wRet ?_
                refine pThenR ?_
                refine pBlkR ?_
                refine pThenR ?_
                refine pThenR ?_
                refine pBlkR ?_
                refine pThenR ?_
                obtain rfl := so h
                replace h := hk2
                refine pBlkR ?_
                refine pThenR ?_
                refine pThenR ?_
                refine pBlkR ?_
                refine pThenR ?_
                obtain rfl := so h
                replace h := hk1
                refine pThenR ?_
                obtain rfl := so h
                exact pR1 (.inl rfl) rfl (.tmp rfl <| .nil)
              · refine wBF hp432 tm (s1 rfl) ?_
                refine wSkip ?_
                refine pSeq ?_
                refine wSeq ?_
                refine rg (cp (oFld (fs := f_api_Lattice) (k := 1) rfl o25_1 tm) (s1 rfl) <| cp (oLd t23 tm) (s1 rfl) <| cp (oLenL u23 tm) (s1 rfl) <| cp (oMv (cI (by decide))) trivial <| .nil) (by kernel_rfl) ?_
                refine pSeq ?_
                obtain ⟨o3, h, hk3⟩ := bd h
                refine wK0 (.inr () = o3) ([(1, .d (sP (kR f_api_Lattice) a0)), (3, .d ((kI .i64).sig v315)), (8, .d ((kI .i64).sig (a0.Up.length : Int))), (9, .d ((kI .i64).sig v315)), (19, .d ((kI .i64).sig (a0.Up.length : Int))), (20, .d ((kI .i64).sig v421))]) ([]) ?_ ?_
                · refine wBlock (wLoop ?_)
                  refine lW (pc1 o3 (fun v459 => [(1, .d (sP (kR f_api_Lattice) a0)), (3, .d ((kI .i64).sig v315)), (4, .d ((kI .i64).sig v421)), (8, .d ((kI .i64).sig (a0.Up.length : Int))), (9, .d ((kI .i64).sig v315)), (19, .d ((kI .i64).sig (a0.Up.length : Int))), (20, .d ((kI .i64).sig v421)), (40, .d ((kI .i64).sig (a0.Up.length : Int))), (41, .d ((kI .i64).sig v459))]) (fun v459 => []) (reticentref01_order.l12.partial_correctness a0 v315 v421) ?_ _ h) ⟨rfl, rfl, rfl, rfl, rfl, rfl, rfl, rfl, rfl, trivial⟩ rfl
                  clear h
                  intro f' ih v459 h
                  refine wSeq ?_
                  refine rg (cp (oLt rfl tm tm) (s2 rfl rfl) <| .nil) (by kernel_rfl) ?_
                  refine pSeq ?_
                  refine wSeq ?_
                  rcases ic h with ⟨hp460, h⟩ | ⟨hp460, h⟩
                  · refine wCT hp460 tm (s1 rfl) ?_
                    refine wSkip ?_
                    refine pSeq ?_
                    refine wSeq ?_
                    refine wBlock ?_
                    refine wSeq ?_
                    refine rg (cp (oMv tm) (s1 rfl) <| cp (oAs tm) (s1 rfl) <| .nil) (by kernel_rfl) ?_
                    refine pSeq ?_
                    obtain ⟨o4, h, hk4⟩ := bd h
                    refine wJ1 (fun x466 => x466 = o4) (fun x466 => [(1, .d (sP (kR f_api_Lattice) a0)), (3, .d ((kI .i64).sig v315)), (4, .d ((kI .i64).sig v421)), (8, .d ((kI .i64).sig (a0.Up.length : Int))), (9, .d ((kI .i64).sig v315)), (19, .d ((kI .i64).sig (a0.Up.length : Int))), (20, .d ((kI .i64).sig v421)), (40, .d ((kI .i64).sig (a0.Up.length : Int))), (41, .d ((kI .i64).sig v459)), (60, .d (kB.sig x466))]) (fun x466 => []) ?_ ?_
                    · obtain ⟨y467, hy467, h⟩ := bd h
                      rcases ic h with ⟨hp468, h⟩ | ⟨hp468, h⟩
                      · obtain ⟨y469, hy469, h⟩ := bd h
                        rcases ic h with ⟨hp470, h⟩ | ⟨hp470, h⟩
                        · obtain ⟨y471, hy471, h⟩ := bd h
                          refine rg (cp (oLd t25 tm) (s1 rfl) <| cp (oMv tm) (s1 rfl) <| cp (oMv tm) (s1 rfl) <| cp (oCall rfl (reticentref01_Flows.ok hy467) b136 (opds_cons tm (opds_cons tm (opds_cons tm opds_nil)))) (s3 rfl rfl rfl) <| cp (oMv tm) (s1 rfl) <| cgB hp468 rfl rfl (oLd t25 tm) (s1 rfl) <| cgB hp468 rfl rfl (oMv tm) (s1 rfl) <| cgB hp468 rfl rfl (oMv tm) (s1 rfl) <| cgB hp468 rfl rfl (oCall rfl (reticentref01_Flows.ok hy469) b136 (opds_cons tm (opds_cons tm (opds_cons tm opds_nil)))) (s3 rfl rfl rfl) <| cp (oPkT hp468 tm tm) (s2 rfl rfl) <| cp (oMv tm) (s1 rfl) <| cgB hp470 rfl rfl (oLd t25 tm) (s1 rfl) <| cgB hp470 rfl rfl (oMv tm) (s1 rfl) <| cgB hp470 rfl rfl (oMv tm) (s1 rfl) <| cgB hp470 rfl rfl (oCall rfl (reticentref01_Flows.ok hy471) b136 (opds_cons tm (opds_cons tm (opds_cons tm opds_nil)))) (s3 rfl rfl rfl) <| cgB hp470 rfl rfl (oNot tm) (s1 rfl) <| cp (oPkT hp470 tm tm) (s2 rfl rfl) <| .nil) (by kernel_rfl) ?_
                          exact pJ1 _ (so h) ⟨rfl, rfl, rfl, rfl, rfl, rfl, rfl, rfl, rfl, rfl, trivial⟩ rfl
                        · refine rg (cp (oLd t25 tm) (s1 rfl) <| cp (oMv tm) (s1 rfl) <| cp (oMv tm) (s1 rfl) <| cp (oCall rfl (reticentref01_Flows.ok hy467) b136 (opds_cons tm (opds_cons tm (opds_cons tm opds_nil)))) (s3 rfl rfl rfl) <| cp (oMv tm) (s1 rfl) <| cgB hp468 rfl rfl (oLd t25 tm) (s1 rfl) <| cgB hp468 rfl rfl (oMv tm) (s1 rfl) <| cgB hp468 rfl rfl (oMv tm) (s1 rfl) <| cgB hp468 rfl rfl (oCall rfl (reticentref01_Flows.ok hy469) b136 (opds_cons tm (opds_cons tm (opds_cons tm opds_nil)))) (s3 rfl rfl rfl) <| cp (oPkT hp468 tm tm) (s2 rfl rfl) <| cp (oMv tm) (s1 rfl) <| csB (nb hp470) rfl rfl <| csB (nb hp470) rfl rfl <| csB (nb hp470) rfl rfl <| csB (nb hp470) rfl rfl <| csB (nb hp470) rfl rfl <| cp (oPkF (nb hp470) tm cB) (s1 rfl) <| .nil) (by kernel_rfl) ?_
                          exact pJ1 _ (so h) ⟨rfl, rfl, rfl, rfl, rfl, rfl, rfl, rfl, rfl, rfl, trivial⟩ rfl
                      · refine rg (cp (oLd t25 tm) (s1 rfl) <| cp (oMv tm) (s1 rfl) <| cp (oMv tm) (s1 rfl) <| cp (oCall rfl (reticentref01_Flows.ok hy467) b136 (opds_cons tm (opds_cons tm (opds_cons tm opds_nil)))) (s3 rfl rfl rfl) <| cp (oMv tm) (s1 rfl) <| csB (nb hp468) rfl rfl <| csB (nb hp468) rfl rfl <| csB (nb hp468) rfl rfl <| csB (nb hp468) rfl rfl <| cp (oPkF (nb hp468) tm cB) (s1 rfl) <| cp (oMv tm) (s1 rfl) <| csB rfl rfl rfl <| csB rfl rfl rfl <| csB rfl rfl rfl <| csB rfl rfl rfl <| csB rfl rfl rfl <| cp (oPkF rfl tm cB) (s1 rfl) <| .nil) (by kernel_rfl) ?_
                        exact pJ1 _ (so h) ⟨rfl, rfl, rfl, rfl, rfl, rfl, rfl, rfl, rfl, rfl, trivial⟩ rfl
                    · rintro x466 rfl
                      replace h := hk4
                      rcases ic h with ⟨hp472, h⟩ | ⟨hp472, h⟩
                      · refine wBT hp472 tm (s1 rfl) ?_
                        refine wSeq ?_
                        refine rg (cp (oAs cB) trivial <| .nil) (by kernel_rfl) ?_
                        refine pSeq ?_
                        refine wRet ?_
                        refine pBlkR ?_
                        refine pThenR ?_
                        refine pThenR ?_
                        refine pBlkR ?_
                        refine pThenR ?_
                        obtain rfl := so h
                        replace h := hk3
                        refine pBlkR ?_
                        refine pThenR ?_
                        refine pThenR ?_
                        refine pBlkR ?_
                        refine pThenR ?_
                        obtain rfl := so h
                        replace h := hk2
                        refine pBlkR ?_
                        refine pThenR ?_
                        refine pThenR ?_
                        refine pBlkR ?_
                        refine pThenR ?_
                        obtain rfl := so h
                        replace h := hk1
                        refine pThenR ?_
                        obtain rfl := so h
                        exact pR1 (.inl rfl) rfl (.tmp rfl <| .nil)
                      · refine wBF hp472 tm (s1 rfl) ?_
                        refine wSkip ?_
                        refine pBlkN ?_
                        refine pSeq ?_
                        refine rg (cp (oAdd tm (cI (by decide))) (s1 rfl) <| cp (oMv tm) (s1 rfl) <| .nil) (by kernel_rfl) ?_
                        exact pLoop (lW (ih _ h) ⟨rfl, rfl, rfl, rfl, rfl, rfl, rfl, rfl, rfl, trivial⟩ rfl)
                  · refine wCF hp460 tm (s1 rfl) ?_
                    refine wExit ?_
                    refine pThenX ?_
                    refine pThenX ?_
                    refine pBlkX ?_
                    exact pJ0 (so h) ⟨rfl, rfl, rfl, rfl, rfl, rfl, trivial⟩ rfl
                · rintro rfl
                  replace h := hk3
                  refine pBlkN ?_
                  refine pSeq ?_
                  refine rg (cp (oAdd tm (cI (by decide))) (s1 rfl) <| cp (oMv tm) (s1 rfl) <| .nil) (by kernel_rfl) ?_
                  exact pLoop (lW (ih _ h) ⟨rfl, rfl, rfl, rfl, rfl, rfl, trivial⟩ rfl)
          · refine wCF hp422 tm (s1 rfl) ?_
            refine wExit ?_
            refine pThenX ?_
            refine pThenX ?_
            refine pBlkX ?_
            exact pJ0 (so h) ⟨rfl, rfl, rfl, trivial⟩ rfl
        · rintro rfl
          replace h := hk2
          refine pBlkN ?_
          refine pSeq ?_
          refine rg (cp (oAdd tm (cI (by decide))) (s1 rfl) <| cp (oMv tm) (s1 rfl) <| .nil) (by kernel_rfl) ?_
          exact pLoop (lW (ih _ h) ⟨rfl, rfl, rfl, trivial⟩ rfl)
    · refine wCF hp316 tm (s1 rfl) ?_
      refine wExit ?_
      refine pThenX ?_
      refine pThenX ?_
      refine pBlkX ?_
      exact pJ0 (so h) trivial rfl
  · rintro rfl
    replace h := hk1
    refine pSeq ?_
    refine wSeq ?_
    refine rg (cp (oAs cB) trivial <| .nil) (by kernel_rfl) ?_
    refine pSeq ?_
    refine wRet ?_
    obtain rfl := so h
    exact pR1 (.inl rfl) rfl (.tmp rfl <| .nil)
theorem reticentref01_Join.ok {a0 : api_Lattice} {a1 : Int} {a2 : Int} {r : Int} (h : reticentref01_Join.f a0 a1 a2 = some r) : FnA Tryz.prog 62 [(kR f_api_Lattice).sig a0, (kI .i64).sig a1, (kI .i64).sig a2] ((kI .i64).sig r) := by
  refine fnIntro Tryz.func62 rfl (by kernel_rfl) fun H0 w0 => ?_
  unfold reticentref01_Join.f at h
  refine wSeq ?_
  refine rg (cp (oBox tm) (s1 rfl) <| cp (oAs (cI (by decide))) trivial <| .nil) (by kernel_rfl) ?_
  refine pSeq ?_
  refine wSeq ?_
  refine wSeq ?_
  refine rg (cp (oFld (fs := f_api_Lattice) (k := 1) rfl o25_1 tm) (s1 rfl) <| cp (oLd t23 tm) (s1 rfl) <| cp (oLenL u23 tm) (s1 rfl) <| cp (oMv (cI (by decide))) trivial <| .nil) (by kernel_rfl) ?_
  refine pSeq ?_
  obtain ⟨o1, h, hk1⟩ := bd h
  refine wK0 (.inr () = o1) ([]) ([]) ?_ ?_
  · refine wBlock (wLoop ?_)
    refine lW (pc1 o1 (fun v181 => [(1, .d ((kI .i64).sig a1)), (2, .d ((kI .i64).sig a2)), (3, .d (sP (kR f_api_Lattice) a0)), (12, .d ((kI .i64).sig (a0.Up.length : Int))), (13, .d ((kI .i64).sig v181))]) (fun v181 => []) (reticentref01_Join.l2.partial_correctness a0 a1 a2) ?_ _ h) ⟨rfl, rfl, rfl, rfl, rfl, trivial⟩ rfl
    clear h
    intro f' ih v181 h
    refine wSeq ?_
    refine rg (cp (oLt rfl tm tm) (s2 rfl rfl) <| .nil) (by kernel_rfl) ?_
    refine pSeq ?_
    refine wSeq ?_
    rcases ic h with ⟨hp182, h⟩ | ⟨hp182, h⟩
    · refine wCT hp182 tm (s1 rfl) ?_
      refine wSkip ?_
      refine pSeq ?_
      refine wSeq ?_
      refine wBlock ?_
      refine wSeq ?_
      refine rg (cp (oMv tm) (s1 rfl) <| cp (oAs tm) (s1 rfl) <| .nil) (by kernel_rfl) ?_
      refine pSeq ?_
      obtain ⟨o2, h, hk2⟩ := bd h
      refine wJ1 (fun x186 => x186 = o2) (fun x186 => [(1, .d ((kI .i64).sig a1)), (2, .d ((kI .i64).sig a2)), (3, .d (sP (kR f_api_Lattice) a0)), (7, .d ((kI .i64).sig v181)), (8, .d (kB.sig x186)), (12, .d ((kI .i64).sig (a0.Up.length : Int))), (13, .d ((kI .i64).sig v181))]) (fun x186 => []) ?_ ?_
      · obtain ⟨y187, hy187, h⟩ := bd h
        rcases ic h with ⟨hp188, h⟩ | ⟨hp188, h⟩
        · obtain ⟨y189, hy189, h⟩ := bd h
          refine rg (cp (oLd t25 tm) (s1 rfl) <| cp (oMv tm) (s1 rfl) <| cp (oMv tm) (s1 rfl) <| cp (oCall rfl (reticentref01_Flows.ok hy187) b136 (opds_cons tm (opds_cons tm (opds_cons tm opds_nil)))) (s3 rfl rfl rfl) <| cp (oMv tm) (s1 rfl) <| cgB hp188 rfl rfl (oLd t25 tm) (s1 rfl) <| cgB hp188 rfl rfl (oMv tm) (s1 rfl) <| cgB hp188 rfl rfl (oMv tm) (s1 rfl) <| cgB hp188 rfl rfl (oCall rfl (reticentref01_Flows.ok hy189) b136 (opds_cons tm (opds_cons tm (opds_cons tm opds_nil)))) (s3 rfl rfl rfl) <| cp (oPkT hp188 tm tm) (s2 rfl rfl) <| cp (oAs tm) (s1 rfl) <| .nil) (by kernel_rfl) ?_
          exact pJ1 _ (so h) ⟨rfl, rfl, rfl, rfl, rfl, rfl, rfl, trivial⟩ rfl
        · refine rg (cp (oLd t25 tm) (s1 rfl) <| cp (oMv tm) (s1 rfl) <| cp (oMv tm) (s1 rfl) <| cp (oCall rfl (reticentref01_Flows.ok hy187) b136 (opds_cons tm (opds_cons tm (opds_cons tm opds_nil)))) (s3 rfl rfl rfl) <| cp (oMv tm) (s1 rfl) <| csB (nb hp188) rfl rfl <| csB (nb hp188) rfl rfl <| csB (nb hp188) rfl rfl <| csB (nb hp188) rfl rfl <| cp (oPkF (nb hp188) tm cB) (s1 rfl) <| cp (oAs tm) (s1 rfl) <| .nil) (by kernel_rfl) ?_
          exact pJ1 _ (so h) ⟨rfl, rfl, rfl, rfl, rfl, rfl, rfl, trivial⟩ rfl
      · rintro x186 rfl
        replace h := hk2
        refine wSeq ?_
        refine wSeq ?_
        refine rg (cp (oFld (fs := f_api_Lattice) (k := 1) rfl o25_1 tm) (s1 rfl) <| cp (oLd t23 tm) (s1 rfl) <| cp (oLenL u23 tm) (s1 rfl) <| cp (oMv (cI (by decide))) trivial <| .nil) (by kernel_rfl) ?_
        refine pSeq ?_
        obtain ⟨o2, h, hk2⟩ := bd h
        refine wK1 (fun x244 => x244 = o2) (fun x244 => [(1, .d ((kI .i64).sig a1)), (2, .d ((kI .i64).sig a2)), (3, .d (sP (kR f_api_Lattice) a0)), (7, .d ((kI .i64).sig v181)), (8, .d (kB.sig x244)), (12, .d ((kI .i64).sig (a0.Up.length : Int))), (13, .d ((kI .i64).sig v181))]) (fun x244 => []) ?_ ?_
        · refine wBlock (wLoop ?_)
          refine lW (pc2 o2 (fun v242 v243 => [(1, .d ((kI .i64).sig a1)), (2, .d ((kI .i64).sig a2)), (3, .d (sP (kR f_api_Lattice) a0)), (7, .d ((kI .i64).sig v181)), (8, .d (kB.sig v243)), (12, .d ((kI .i64).sig (a0.Up.length : Int))), (13, .d ((kI .i64).sig v181)), (28, .d ((kI .i64).sig (a0.Up.length : Int))), (29, .d ((kI .i64).sig v242))]) (fun v242 v243 => []) (reticentref01_Join.l3.partial_correctness a0 a1 a2 v181) ?_ _ _ h) ⟨rfl, rfl, rfl, rfl, rfl, rfl, rfl, rfl, rfl, trivial⟩ rfl
          clear h
          intro f' ih v242 v243 h
          refine wSeq ?_
          refine rg (cp (oLt rfl tm tm) (s2 rfl rfl) <| .nil) (by kernel_rfl) ?_
          refine pSeq ?_
          refine wSeq ?_
          rcases ic h with ⟨hp245, h⟩ | ⟨hp245, h⟩
          · refine wCT hp245 tm (s1 rfl) ?_
            refine wSkip ?_
            refine pSeq ?_
            obtain ⟨o3, h, hk3⟩ := bd h
            refine wJ1 (fun x258 => x258 = o3) (fun x258 => [(1, .d ((kI .i64).sig a1)), (2, .d ((kI .i64).sig a2)), (3, .d (sP (kR f_api_Lattice) a0)), (7, .d ((kI .i64).sig v181)), (8, .d (kB.sig x258)), (12, .d ((kI .i64).sig (a0.Up.length : Int))), (13, .d ((kI .i64).sig v181)), (28, .d ((kI .i64).sig (a0.Up.length : Int))), (29, .d ((kI .i64).sig v242))]) (fun x258 => []) ?_ ?_
            · refine wBlock ?_
              refine wSeq ?_
              refine rg (cp (oMv tm) (s1 rfl) <| cp (oAs tm) (s1 rfl) <| .nil) (by kernel_rfl) ?_
              refine pSeq ?_
              obtain ⟨o4, h, hk4⟩ := bd h
              refine wJ1 (fun x264 => x264 = o4) (fun x264 => [(1, .d ((kI .i64).sig a1)), (2, .d ((kI .i64).sig a2)), (3, .d (sP (kR f_api_Lattice) a0)), (7, .d ((kI .i64).sig v181)), (8, .d (kB.sig v243)), (12, .d ((kI .i64).sig (a0.Up.length : Int))), (13, .d ((kI .i64).sig v181)), (28, .d ((kI .i64).sig (a0.Up.length : Int))), (29, .d ((kI .i64).sig v242)), (48, .d (kB.sig x264))]) (fun x264 => []) ?_ ?_
              · obtain ⟨y265, hy265, h⟩ := bd h
                rcases ic h with ⟨hp266, h⟩ | ⟨hp266, h⟩
                · obtain ⟨y267, hy267, h⟩ := bd h
                  rcases ic h with ⟨hp268, h⟩ | ⟨hp268, h⟩
                  · obtain ⟨y269, hy269, h⟩ := bd h
                    refine rg (cp (oLd t25 tm) (s1 rfl) <| cp (oMv tm) (s1 rfl) <| cp (oMv tm) (s1 rfl) <| cp (oCall rfl (reticentref01_Flows.ok hy265) b136 (opds_cons tm (opds_cons tm (opds_cons tm opds_nil)))) (s3 rfl rfl rfl) <| cp (oMv tm) (s1 rfl) <| cgB hp266 rfl rfl (oLd t25 tm) (s1 rfl) <| cgB hp266 rfl rfl (oMv tm) (s1 rfl) <| cgB hp266 rfl rfl (oMv tm) (s1 rfl) <| cgB hp266 rfl rfl (oCall rfl (reticentref01_Flows.ok hy267) b136 (opds_cons tm (opds_cons tm (opds_cons tm opds_nil)))) (s3 rfl rfl rfl) <| cp (oPkT hp266 tm tm) (s2 rfl rfl) <| cp (oMv tm) (s1 rfl) <| cgB hp268 rfl rfl (oLd t25 tm) (s1 rfl) <| cgB hp268 rfl rfl (oMv tm) (s1 rfl) <| cgB hp268 rfl rfl (oMv tm) (s1 rfl) <| cgB hp268 rfl rfl (oCall rfl (reticentref01_Flows.ok hy269) b136 (opds_cons tm (opds_cons tm (opds_cons tm opds_nil)))) (s3 rfl rfl rfl) <| cgB hp268 rfl rfl (oNot tm) (s1 rfl) <| cp (oPkT hp268 tm tm) (s2 rfl rfl) <| .nil) (by kernel_rfl) ?_
                    exact pJ1 _ (so h) ⟨rfl, rfl, rfl, rfl, rfl, rfl, rfl, rfl, rfl, rfl, trivial⟩ rfl
                  · refine rg (cp (oLd t25 tm) (s1 rfl) <| cp (oMv tm) (s1 rfl) <| cp (oMv tm) (s1 rfl) <| cp (oCall rfl (reticentref01_Flows.ok hy265) b136 (opds_cons tm (opds_cons tm (opds_cons tm opds_nil)))) (s3 rfl rfl rfl) <| cp (oMv tm) (s1 rfl) <| cgB hp266 rfl rfl (oLd t25 tm) (s1 rfl) <| cgB hp266 rfl rfl (oMv tm) (s1 rfl) <| cgB hp266 rfl rfl (oMv tm) (s1 rfl) <| cgB hp266 rfl rfl (oCall rfl (reticentref01_Flows.ok hy267) b136 (opds_cons tm (opds_cons tm (opds_cons tm opds_nil)))) (s3 rfl rfl rfl) <| cp (oPkT hp266 tm tm) (s2 rfl rfl) <| cp (oMv tm) (s1 rfl) <| csB (nb hp268) rfl rfl <| csB (nb hp268) rfl rfl <| csB (nb hp268) rfl rfl <| csB (nb hp268) rfl rfl <| csB (nb hp268) rfl rfl <| cp (oPkF (nb hp268) tm cB) (s1 rfl) <| .nil) (by kernel_rfl) ?_
                    exact pJ1 _ (so h) ⟨rfl, rfl, rfl, rfl, rfl, rfl, rfl, rfl, rfl, rfl, trivial⟩ rfl
                · refine rg (cp (oLd t25 tm) (s1 rfl) <| cp (oMv tm) (s1 rfl) <| cp (oMv tm) (s1 rfl) <| cp (oCall rfl (reticentref01_Flows.ok hy265) b136 (opds_cons tm (opds_cons tm (opds_cons tm opds_nil)))) (s3 rfl rfl rfl) <| cp (oMv tm) (s1 rfl) <| csB (nb hp266) rfl rfl <| csB (nb hp266) rfl rfl <| csB (nb hp266) rfl rfl <| csB (nb hp266) rfl rfl <| cp (oPkF (nb hp266) tm cB) (s1 rfl) <| cp (oMv tm) (s1 rfl) <| csB rfl rfl rfl <| csB rfl rfl rfl <| csB rfl rfl rfl <| csB rfl rfl rfl <| csB rfl rfl rfl <| cp (oPkF rfl tm cB) (s1 rfl) <| .nil) (by kernel_rfl) ?_
                  exact pJ1 _ (so h) ⟨rfl, rfl, rfl, rfl, rfl, rfl, rfl, rfl, rfl, rfl, trivial⟩ rfl
              · rintro x264 rfl
                replace h := hk4
                rcases ic h with ⟨hp270, h⟩ | ⟨hp270, h⟩
                · refine wBT hp270 tm (s1 rfl) ?_
                  refine rg (cp (oAs cB) trivial <| .nil) (by kernel_rfl) ?_
                  refine pBlkN ?_
                  exact pJ1 _ (so h) ⟨rfl, rfl, rfl, rfl, rfl, rfl, rfl, rfl, rfl, trivial⟩ rfl
                · refine wBF hp270 tm (s1 rfl) ?_
                  refine wSkip ?_
                  refine pBlkN ?_
                  exact pJ1 _ (so h) ⟨rfl, rfl, rfl, rfl, rfl, rfl, rfl, rfl, rfl, trivial⟩ rfl
            · rintro x258 rfl
              replace h := hk3
              refine rg (cp (oAdd tm (cI (by decide))) (s1 rfl) <| cp (oMv tm) (s1 rfl) <| .nil) (by kernel_rfl) ?_
              exact pLoop (lW (ih _ _ h) ⟨rfl, rfl, rfl, rfl, rfl, rfl, rfl, rfl, rfl, trivial⟩ rfl)
          · refine wCF hp245 tm (s1 rfl) ?_
            refine wExit ?_
            refine pThenX ?_
            refine pThenX ?_
            refine pBlkX ?_
            exact pJ1 _ (so h) ⟨rfl, rfl, rfl, rfl, rfl, rfl, rfl, trivial⟩ rfl
        · rintro x244 rfl
          replace h := hk2
          refine pSeq ?_
          refine wSeq ?_
          refine rg (cp (oMv tm) (s1 rfl) <| .nil) (by kernel_rfl) ?_
          refine pSeq ?_
          rcases ic h with ⟨hp271, h⟩ | ⟨hp271, h⟩
          · refine wBT hp271 tm (s1 rfl) ?_
            refine wSeq ?_
            refine rg (cp (oMv tm) (s1 rfl) <| cp (oAs tm) (s1 rfl) <| .nil) (by kernel_rfl) ?_
            refine pSeq ?_
            refine wRet ?_
            refine pBlkR ?_
            refine pThenR ?_
            refine pThenR ?_
            refine pBlkR ?_
            refine pThenR ?_
            obtain rfl := so h
            replace h := hk1
            refine pThenR ?_
            obtain rfl := so h
            exact pR1 (.inl rfl) rfl (.tmp rfl <| .nil)
          · refine wBF hp271 tm (s1 rfl) ?_
            refine wSkip ?_
            refine pBlkN ?_
            refine pSeq ?_
            refine rg (cp (oAdd tm (cI (by decide))) (s1 rfl) <| cp (oMv tm) (s1 rfl) <| .nil) (by kernel_rfl) ?_
            exact pLoop (lW (ih _ h) ⟨rfl, rfl, rfl, rfl, rfl, trivial⟩ rfl)
    · refine wCF hp182 tm (s1 rfl) ?_
      refine wExit ?_
      refine pThenX ?_
      refine pThenX ?_
      refine pBlkX ?_
      exact pJ0 (so h) trivial rfl
  · rintro rfl
    replace h := hk1
    refine pSeq ?_
    refine wSeq ?_
    refine rg (cp (oAs (cI (by decide))) trivial <| .nil) (by kernel_rfl) ?_
    refine pSeq ?_
    refine wRet ?_
    obtain rfl := so h
    exact pR1 (.inl rfl) rfl (.tmp rfl <| .nil)
theorem reticentref01_Meet.ok {a0 : api_Lattice} {a1 : Int} {a2 : Int} {r : Int} (h : reticentref01_Meet.f a0 a1 a2 = some r) : FnA Tryz.prog 63 [(kR f_api_Lattice).sig a0, (kI .i64).sig a1, (kI .i64).sig a2] ((kI .i64).sig r) := by
  refine fnIntro Tryz.func63 rfl (by kernel_rfl) fun H0 w0 => ?_
  unfold reticentref01_Meet.f at h
  refine wSeq ?_
  refine rg (cp (oBox tm) (s1 rfl) <| cp (oAs (cI (by decide))) trivial <| .nil) (by kernel_rfl) ?_
  refine pSeq ?_
  refine wSeq ?_
  refine wSeq ?_
  refine rg (cp (oFld (fs := f_api_Lattice) (k := 1) rfl o25_1 tm) (s1 rfl) <| cp (oLd t23 tm) (s1 rfl) <| cp (oLenL u23 tm) (s1 rfl) <| cp (oMv (cI (by decide))) trivial <| .nil) (by kernel_rfl) ?_
  refine pSeq ?_
  obtain ⟨o1, h, hk1⟩ := bd h
  refine wK0 (.inr () = o1) ([]) ([]) ?_ ?_
  · refine wBlock (wLoop ?_)
    refine lW (pc1 o1 (fun v181 => [(1, .d ((kI .i64).sig a1)), (2, .d ((kI .i64).sig a2)), (3, .d (sP (kR f_api_Lattice) a0)), (12, .d ((kI .i64).sig (a0.Up.length : Int))), (13, .d ((kI .i64).sig v181))]) (fun v181 => []) (reticentref01_Meet.l2.partial_correctness a0 a1 a2) ?_ _ h) ⟨rfl, rfl, rfl, rfl, rfl, trivial⟩ rfl
    clear h
    intro f' ih v181 h
    refine wSeq ?_
    refine rg (cp (oLt rfl tm tm) (s2 rfl rfl) <| .nil) (by kernel_rfl) ?_
    refine pSeq ?_
    refine wSeq ?_
    rcases ic h with ⟨hp182, h⟩ | ⟨hp182, h⟩
    · refine wCT hp182 tm (s1 rfl) ?_
      refine wSkip ?_
      refine pSeq ?_
      refine wSeq ?_
      refine wBlock ?_
      refine wSeq ?_
      refine rg (cp (oMv tm) (s1 rfl) <| cp (oAs tm) (s1 rfl) <| .nil) (by kernel_rfl) ?_
      refine pSeq ?_
      obtain ⟨o2, h, hk2⟩ := bd h
      refine wJ1 (fun x186 => x186 = o2) (fun x186 => [(1, .d ((kI .i64).sig a1)), (2, .d ((kI .i64).sig a2)), (3, .d (sP (kR f_api_Lattice) a0)), (7, .d ((kI .i64).sig v181)), (8, .d (kB.sig x186)), (12, .d ((kI .i64).sig (a0.Up.length : Int))), (13, .d ((kI .i64).sig v181))]) (fun x186 => []) ?_ ?_
      · obtain ⟨y187, hy187, h⟩ := bd h
        rcases ic h with ⟨hp188, h⟩ | ⟨hp188, h⟩
        · obtain ⟨y189, hy189, h⟩ := bd h
          refine rg (cp (oLd t25 tm) (s1 rfl) <| cp (oMv tm) (s1 rfl) <| cp (oMv tm) (s1 rfl) <| cp (oCall rfl (reticentref01_Flows.ok hy187) b136 (opds_cons tm (opds_cons tm (opds_cons tm opds_nil)))) (s3 rfl rfl rfl) <| cp (oMv tm) (s1 rfl) <| cgB hp188 rfl rfl (oLd t25 tm) (s1 rfl) <| cgB hp188 rfl rfl (oMv tm) (s1 rfl) <| cgB hp188 rfl rfl (oMv tm) (s1 rfl) <| cgB hp188 rfl rfl (oCall rfl (reticentref01_Flows.ok hy189) b136 (opds_cons tm (opds_cons tm (opds_cons tm opds_nil)))) (s3 rfl rfl rfl) <| cp (oPkT hp188 tm tm) (s2 rfl rfl) <| cp (oAs tm) (s1 rfl) <| .nil) (by kernel_rfl) ?_
          exact pJ1 _ (so h) ⟨rfl, rfl, rfl, rfl, rfl, rfl, rfl, trivial⟩ rfl
        · refine rg (cp (oLd t25 tm) (s1 rfl) <| cp (oMv tm) (s1 rfl) <| cp (oMv tm) (s1 rfl) <| cp (oCall rfl (reticentref01_Flows.ok hy187) b136 (opds_cons tm (opds_cons tm (opds_cons tm opds_nil)))) (s3 rfl rfl rfl) <| cp (oMv tm) (s1 rfl) <| csB (nb hp188) rfl rfl <| csB (nb hp188) rfl rfl <| csB (nb hp188) rfl rfl <| csB (nb hp188) rfl rfl <| cp (oPkF (nb hp188) tm cB) (s1 rfl) <| cp (oAs tm) (s1 rfl) <| .nil) (by kernel_rfl) ?_
          exact pJ1 _ (so h) ⟨rfl, rfl, rfl, rfl, rfl, rfl, rfl, trivial⟩ rfl
      · rintro x186 rfl
        replace h := hk2
        refine wSeq ?_
        refine wSeq ?_
        refine rg (cp (oFld (fs := f_api_Lattice) (k := 1) rfl o25_1 tm) (s1 rfl) <| cp (oLd t23 tm) (s1 rfl) <| cp (oLenL u23 tm) (s1 rfl) <| cp (oMv (cI (by decide))) trivial <| .nil) (by kernel_rfl) ?_
        refine pSeq ?_
        obtain ⟨o2, h, hk2⟩ := bd h
        refine wK1 (fun x244 => x244 = o2) (fun x244 => [(1, .d ((kI .i64).sig a1)), (2, .d ((kI .i64).sig a2)), (3, .d (sP (kR f_api_Lattice) a0)), (7, .d ((kI .i64).sig v181)), (8, .d (kB.sig x244)), (12, .d ((kI .i64).sig (a0.Up.length : Int))), (13, .d ((kI .i64).sig v181))]) (fun x244 => []) ?_ ?_
        · refine wBlock (wLoop ?_)
          refine lW (pc2 o2 (fun v242 v243 => [(1, .d ((kI .i64).sig a1)), (2, .d ((kI .i64).sig a2)), (3, .d (sP (kR f_api_Lattice) a0)), (7, .d ((kI .i64).sig v181)), (8, .d (kB.sig v243)), (12, .d ((kI .i64).sig (a0.Up.length : Int))), (13, .d ((kI .i64).sig v181)), (28, .d ((kI .i64).sig (a0.Up.length : Int))), (29, .d ((kI .i64).sig v242))]) (fun v242 v243 => []) (reticentref01_Meet.l3.partial_correctness a0 a1 a2 v181) ?_ _ _ h) ⟨rfl, rfl, rfl, rfl, rfl, rfl, rfl, rfl, rfl, trivial⟩ rfl
          clear h
          intro f' ih v242 v243 h
          refine wSeq ?_
          refine rg (cp (oLt rfl tm tm) (s2 rfl rfl) <| .nil) (by kernel_rfl) ?_
          refine pSeq ?_
          refine wSeq ?_
          rcases ic h with ⟨hp245, h⟩ | ⟨hp245, h⟩
          · refine wCT hp245 tm (s1 rfl) ?_
            refine wSkip ?_
            refine pSeq ?_
            obtain ⟨o3, h, hk3⟩ := bd h
            refine wJ1 (fun x258 => x258 = o3) (fun x258 => [(1, .d ((kI .i64).sig a1)), (2, .d ((kI .i64).sig a2)), (3, .d (sP (kR f_api_Lattice) a0)), (7, .d ((kI .i64).sig v181)), (8, .d (kB.sig x258)), (12, .d ((kI .i64).sig (a0.Up.length : Int))), (13, .d ((kI .i64).sig v181)), (28, .d ((kI .i64).sig (a0.Up.length : Int))), (29, .d ((kI .i64).sig v242))]) (fun x258 => []) ?_ ?_
            · refine wBlock ?_
              refine wSeq ?_
              refine rg (cp (oMv tm) (s1 rfl) <| cp (oAs tm) (s1 rfl) <| .nil) (by kernel_rfl) ?_
              refine pSeq ?_
              obtain ⟨o4, h, hk4⟩ := bd h
              refine wJ1 (fun x264 => x264 = o4) (fun x264 => [(1, .d ((kI .i64).sig a1)), (2, .d ((kI .i64).sig a2)), (3, .d (sP (kR f_api_Lattice) a0)), (7, .d ((kI .i64).sig v181)), (8, .d (kB.sig v243)), (12, .d ((kI .i64).sig (a0.Up.length : Int))), (13, .d ((kI .i64).sig v181)), (28, .d ((kI .i64).sig (a0.Up.length : Int))), (29, .d ((kI .i64).sig v242)), (48, .d (kB.sig x264))]) (fun x264 => []) ?_ ?_
              · obtain ⟨y265, hy265, h⟩ := bd h
                rcases ic h with ⟨hp266, h⟩ | ⟨hp266, h⟩
                · obtain ⟨y267, hy267, h⟩ := bd h
                  rcases ic h with ⟨hp268, h⟩ | ⟨hp268, h⟩
                  · obtain ⟨y269, hy269, h⟩ := bd h
                    refine rg (cp (oLd t25 tm) (s1 rfl) <| cp (oMv tm) (s1 rfl) <| cp (oMv tm) (s1 rfl) <| cp (oCall rfl (reticentref01_Flows.ok hy265) b136 (opds_cons tm (opds_cons tm (opds_cons tm opds_nil)))) (s3 rfl rfl rfl) <| cp (oMv tm) (s1 rfl) <| cgB hp266 rfl rfl (oLd t25 tm) (s1 rfl) <| cgB hp266 rfl rfl (oMv tm) (s1 rfl) <| cgB hp266 rfl rfl (oMv tm) (s1 rfl) <| cgB hp266 rfl rfl (oCall rfl (reticentref01_Flows.ok hy267) b136 (opds_cons tm (opds_cons tm (opds_cons tm opds_nil)))) (s3 rfl rfl rfl) <| cp (oPkT hp266 tm tm) (s2 rfl rfl) <| cp (oMv tm) (s1 rfl) <| cgB hp268 rfl rfl (oLd t25 tm) (s1 rfl) <| cgB hp268 rfl rfl (oMv tm) (s1 rfl) <| cgB hp268 rfl rfl (oMv tm) (s1 rfl) <| cgB hp268 rfl rfl (oCall rfl (reticentref01_Flows.ok hy269) b136 (opds_cons tm (opds_cons tm (opds_cons tm opds_nil)))) (s3 rfl rfl rfl) <| cgB hp268 rfl rfl (oNot tm) (s1 rfl) <| cp (oPkT hp268 tm tm) (s2 rfl rfl) <| .nil) (by kernel_rfl) ?_
                    exact pJ1 _ (so h) ⟨rfl, rfl, rfl, rfl, rfl, rfl, rfl, rfl, rfl, rfl, trivial⟩ rfl
                  · refine rg (cp (oLd t25 tm) (s1 rfl) <| cp (oMv tm) (s1 rfl) <| cp (oMv tm) (s1 rfl) <| cp (oCall rfl (reticentref01_Flows.ok hy265) b136 (opds_cons tm (opds_cons tm (opds_cons tm opds_nil)))) (s3 rfl rfl rfl) <| cp (oMv tm) (s1 rfl) <| cgB hp266 rfl rfl (oLd t25 tm) (s1 rfl) <| cgB hp266 rfl rfl (oMv tm) (s1 rfl) <| cgB hp266 rfl rfl (oMv tm) (s1 rfl) <| cgB hp266 rfl rfl (oCall rfl (reticentref01_Flows.ok hy267) b136 (opds_cons tm (opds_cons tm (opds_cons tm opds_nil)))) (s3 rfl rfl rfl) <| cp (oPkT hp266 tm tm) (s2 rfl rfl) <| cp (oMv tm) (s1 rfl) <| csB (nb hp268) rfl rfl <| csB (nb hp268) rfl rfl <| csB (nb hp268) rfl rfl <| csB (nb hp268) rfl rfl <| csB (nb hp268) rfl rfl <| cp (oPkF (nb hp268) tm cB) (s1 rfl) <| .nil) (by kernel_rfl) ?_
                    exact pJ1 _ (so h) ⟨rfl, rfl, rfl, rfl, rfl, rfl, rfl, rfl, rfl, rfl, trivial⟩ rfl
                · refine rg (cp (oLd t25 tm) (s1 rfl) <| cp (oMv tm) (s1 rfl) <| cp (oMv tm) (s1 rfl) <| cp (oCall rfl (reticentref01_Flows.ok hy265) b136 (opds_cons tm (opds_cons tm (opds_cons tm opds_nil)))) (s3 rfl rfl rfl) <| cp (oMv tm) (s1 rfl) <| csB (nb hp266) rfl rfl <| csB (nb hp266) rfl rfl <| csB (nb hp266) rfl rfl <| csB (nb hp266) rfl rfl <| cp (oPkF (nb hp266) tm cB) (s1 rfl) <| cp (oMv tm) (s1 rfl) <| csB rfl rfl rfl <| csB rfl rfl rfl <| csB rfl rfl rfl <| csB rfl rfl rfl <| csB rfl rfl rfl <| cp (oPkF rfl tm cB) (s1 rfl) <| .nil) (by kernel_rfl) ?_
                  exact pJ1 _ (so h) ⟨rfl, rfl, rfl, rfl, rfl, rfl, rfl, rfl, rfl, rfl, trivial⟩ rfl
              · rintro x264 rfl
                replace h := hk4
                rcases ic h with ⟨hp270, h⟩ | ⟨hp270, h⟩
                · refine wBT hp270 tm (s1 rfl) ?_
                  refine rg (cp (oAs cB) trivial <| .nil) (by kernel_rfl) ?_
                  refine pBlkN ?_
                  exact pJ1 _ (so h) ⟨rfl, rfl, rfl, rfl, rfl, rfl, rfl, rfl, rfl, trivial⟩ rfl
                · refine wBF hp270 tm (s1 rfl) ?_
                  refine wSkip ?_
                  refine pBlkN ?_
                  exact pJ1 _ (so h) ⟨rfl, rfl, rfl, rfl, rfl, rfl, rfl, rfl, rfl, trivial⟩ rfl
            · rintro x258 rfl
              replace h := hk3
              refine rg (cp (oAdd tm (cI (by decide))) (s1 rfl) <| cp (oMv tm) (s1 rfl) <| .nil) (by kernel_rfl) ?_
              exact pLoop (lW (ih _ _ h) ⟨rfl, rfl, rfl, rfl, rfl, rfl, rfl, rfl, rfl, trivial⟩ rfl)
          · refine wCF hp245 tm (s1 rfl) ?_
            refine wExit ?_
            refine pThenX ?_
            refine pThenX ?_
            refine pBlkX ?_
            exact pJ1 _ (so h) ⟨rfl, rfl, rfl, rfl, rfl, rfl, rfl, trivial⟩ rfl
        · rintro x244 rfl
          replace h := hk2
          refine pSeq ?_
          refine wSeq ?_
          refine rg (cp (oMv tm) (s1 rfl) <| .nil) (by kernel_rfl) ?_
          refine pSeq ?_
          rcases ic h with ⟨hp271, h⟩ | ⟨hp271, h⟩
          · refine wBT hp271 tm (s1 rfl) ?_
            refine wSeq ?_
            refine rg (cp (oMv tm) (s1 rfl) <| cp (oAs tm) (s1 rfl) <| .nil) (by kernel_rfl) ?_
            refine pSeq ?_
            refine wRet ?_
            refine pBlkR ?_
            refine pThenR ?_
            refine pThenR ?_
            refine pBlkR ?_
            refine pThenR ?_
            obtain rfl := so h
            replace h := hk1
            refine pThenR ?_
            obtain rfl := so h
            exact pR1 (.inl rfl) rfl (.tmp rfl <| .nil)
          · refine wBF hp271 tm (s1 rfl) ?_
            refine wSkip ?_
            refine pBlkN ?_
            refine pSeq ?_
            refine rg (cp (oAdd tm (cI (by decide))) (s1 rfl) <| cp (oMv tm) (s1 rfl) <| .nil) (by kernel_rfl) ?_
            exact pLoop (lW (ih _ h) ⟨rfl, rfl, rfl, rfl, rfl, trivial⟩ rfl)
    · refine wCF hp182 tm (s1 rfl) ?_
      refine wExit ?_
      refine pThenX ?_
      refine pThenX ?_
      refine pBlkX ?_
      exact pJ0 (so h) trivial rfl
  · rintro rfl
    replace h := hk1
    refine pSeq ?_
    refine wSeq ?_
    refine rg (cp (oAs (cI (by decide))) trivial <| .nil) (by kernel_rfl) ?_
    refine pSeq ?_
    refine wRet ?_
    obtain rfl := so h
    exact pR1 (.inl rfl) rfl (.tmp rfl <| .nil)
theorem reticentref01_Check.ok {a0 : api_Lattice} {r : Int} (h : reticentref01_Check.f a0 = some r) : FnA Tryz.prog 18 [(kR f_api_Lattice).sig a0] ((kI .i64).sig r) := by
  refine fnIntro Tryz.func18 rfl (by kernel_rfl) fun H0 w0 => ?_
  unfold reticentref01_Check.f at h
  refine wSeq ?_
  refine rg (cp (oBox tm) (s1 rfl) <| cp (oAs (cI (by decide))) trivial <| .nil) (by kernel_rfl) ?_
  refine pSeq ?_
  refine wSeq ?_
  refine wSeq ?_
  obtain ⟨y1, hy1, h⟩ := bd h
  refine rg (cp (oLd t25 tm) (s1 rfl) <| cp (oCall rfl (reticentref01_may.ok hy1) b60 (opds_cons tm opds_nil)) (s1 rfl) <| cp (oNot tm) (s1 rfl) <| .nil) (by kernel_rfl) ?_
  refine pSeq ?_
  rcases ic h with ⟨hp2, h⟩ | ⟨hp2, h⟩
  · refine wBT hp2 tm (s1 rfl) ?_
    refine wSeq ?_
    refine rg (cp (oAs (cI (by decide))) trivial <| .nil) (by kernel_rfl) ?_
    refine pSeq ?_
    refine wRet ?_
    refine pThenR ?_
    obtain rfl := so h
    exact pR1 (.inl rfl) rfl (.tmp rfl <| .nil)
  · refine wBF hp2 tm (s1 rfl) ?_
    refine wSkip ?_
    refine pSeq ?_
    refine wSeq ?_
    refine wSeq ?_
    obtain ⟨y3, hy3, h⟩ := bd h
    refine rg (cp (oLd t25 tm) (s1 rfl) <| cp (oCall rfl (reticentref01_order.ok hy3) b61 (opds_cons tm opds_nil)) (s1 rfl) <| cp (oNot tm) (s1 rfl) <| .nil) (by kernel_rfl) ?_
    refine pSeq ?_
    rcases ic h with ⟨hp4, h⟩ | ⟨hp4, h⟩
    · refine wBT hp4 tm (s1 rfl) ?_
      refine wSeq ?_
      refine rg (cp (oAs (cI (by decide))) trivial <| .nil) (by kernel_rfl) ?_
      refine pSeq ?_
      refine wRet ?_
      refine pThenR ?_
      obtain rfl := so h
      exact pR1 (.inl rfl) rfl (.tmp rfl <| .nil)
    · refine wBF hp4 tm (s1 rfl) ?_
      refine wSkip ?_
      refine pSeq ?_
      refine wSeq ?_
      refine wSeq ?_
      refine rg (cp (oFld (fs := f_api_Lattice) (k := 1) rfl o25_1 tm) (s1 rfl) <| cp (oLd t23 tm) (s1 rfl) <| cp (oLenL u23 tm) (s1 rfl) <| cp (oMv (cI (by decide))) trivial <| .nil) (by kernel_rfl) ?_
      refine pSeq ?_
      obtain ⟨o1, h, hk1⟩ := bd h
      refine wK0 (.inr () = o1) ([]) ([]) ?_ ?_
      · refine wBlock (wLoop ?_)
        refine lW (pc1 o1 (fun v63 => [(1, .d (sP (kR f_api_Lattice) a0)), (13, .d ((kI .i64).sig (a0.Up.length : Int))), (14, .d ((kI .i64).sig v63))]) (fun v63 => []) (reticentref01_Check.l2.partial_correctness a0) ?_ _ h) ⟨rfl, rfl, rfl, trivial⟩ rfl
        clear h
        intro f' ih v63 h
        refine wSeq ?_
        refine rg (cp (oLt rfl tm tm) (s2 rfl rfl) <| .nil) (by kernel_rfl) ?_
        refine pSeq ?_
        refine wSeq ?_
        rcases ic h with ⟨hp64, h⟩ | ⟨hp64, h⟩
        · refine wCT hp64 tm (s1 rfl) ?_
          refine wSkip ?_
          refine pSeq ?_
          refine wSeq ?_
          refine wBlock ?_
          refine wSeq ?_
          refine rg (cp (oMv tm) (s1 rfl) <| cp (oAs tm) (s1 rfl) <| .nil) (by kernel_rfl) ?_
          refine pSeq ?_
          refine wSeq ?_
          refine rg (cp (oFld (fs := f_api_Lattice) (k := 1) rfl o25_1 tm) (s1 rfl) <| cp (oLd t23 tm) (s1 rfl) <| cp (oLenL u23 tm) (s1 rfl) <| cp (oMv (cI (by decide))) trivial <| .nil) (by kernel_rfl) ?_
          refine pSeq ?_
          obtain ⟨o2, h, hk2⟩ := bd h
          refine wK0 (.inr () = o2) ([(1, .d (sP (kR f_api_Lattice) a0)), (13, .d ((kI .i64).sig (a0.Up.length : Int))), (14, .d ((kI .i64).sig v63))]) ([]) ?_ ?_
          · refine wBlock (wLoop ?_)
            refine lW (pc1 o2 (fun v83 => [(1, .d (sP (kR f_api_Lattice) a0)), (3, .d ((kI .i64).sig v63)), (13, .d ((kI .i64).sig (a0.Up.length : Int))), (14, .d ((kI .i64).sig v63)), (19, .d ((kI .i64).sig (a0.Up.length : Int))), (20, .d ((kI .i64).sig v83))]) (fun v83 => []) (reticentref01_Check.l3.partial_correctness a0 v63) ?_ _ h) ⟨rfl, rfl, rfl, rfl, rfl, rfl, trivial⟩ rfl
            clear h
            intro f' ih v83 h
            refine wSeq ?_
            refine rg (cp (oLt rfl tm tm) (s2 rfl rfl) <| .nil) (by kernel_rfl) ?_
            refine pSeq ?_
            refine wSeq ?_
            rcases ic h with ⟨hp84, h⟩ | ⟨hp84, h⟩
            · refine wCT hp84 tm (s1 rfl) ?_
              refine wSkip ?_
              refine pSeq ?_
              refine wSeq ?_
              refine wBlock ?_
              refine wSeq ?_
              refine rg (cp (oMv tm) (s1 rfl) <| cp (oAs tm) (s1 rfl) <| .nil) (by kernel_rfl) ?_
              refine pSeq ?_
              obtain ⟨o3, h, hk3⟩ := bd h
              refine wJ1 (fun x88 => x88 = o3) (fun x88 => [(1, .d (sP (kR f_api_Lattice) a0)), (3, .d ((kI .i64).sig v63)), (13, .d ((kI .i64).sig (a0.Up.length : Int))), (14, .d ((kI .i64).sig v63)), (19, .d ((kI .i64).sig (a0.Up.length : Int))), (20, .d ((kI .i64).sig v83)), (34, .d (kB.sig x88))]) (fun x88 => []) ?_ ?_
              · obtain ⟨y89, hy89, h⟩ := bd h
                rcases ic h with ⟨hp90, h⟩ | ⟨hp90, h⟩
                · refine rg (cp (oLd t25 tm) (s1 rfl) <| cp (oMv tm) (s1 rfl) <| cp (oMv tm) (s1 rfl) <| cp (oCall rfl (reticentref01_Join.ok hy89) b62 (opds_cons tm (opds_cons tm (opds_cons tm opds_nil)))) (s3 rfl rfl rfl) <| cp (oLt rfl tm (cI (by decide))) (s1 rfl) <| cp (oMv tm) (s1 rfl) <| csB (decide_eq_true hp90) rfl rfl <| csB (decide_eq_true hp90) rfl rfl <| csB (decide_eq_true hp90) rfl rfl <| csB (decide_eq_true hp90) rfl rfl <| csB (decide_eq_true hp90) rfl rfl <| cp (oPkT (decide_eq_true hp90) tm cB) (s1 rfl) <| .nil) (by kernel_rfl) ?_
                  exact pJ1 _ (so h) ⟨rfl, rfl, rfl, rfl, rfl, rfl, rfl, trivial⟩ rfl
                · obtain ⟨y91, hy91, h⟩ := bd h
                  refine rg (cp (oLd t25 tm) (s1 rfl) <| cp (oMv tm) (s1 rfl) <| cp (oMv tm) (s1 rfl) <| cp (oCall rfl (reticentref01_Join.ok hy89) b62 (opds_cons tm (opds_cons tm (opds_cons tm opds_nil)))) (s3 rfl rfl rfl) <| cp (oLt rfl tm (cI (by decide))) (s1 rfl) <| cp (oMv tm) (s1 rfl) <| cgB (decide_eq_false hp90) rfl rfl (oLd t25 tm) (s1 rfl) <| cgB (decide_eq_false hp90) rfl rfl (oMv tm) (s1 rfl) <| cgB (decide_eq_false hp90) rfl rfl (oMv tm) (s1 rfl) <| cgB (decide_eq_false hp90) rfl rfl (oCall rfl (reticentref01_Meet.ok hy91) b63 (opds_cons tm (opds_cons tm (opds_cons tm opds_nil)))) (s3 rfl rfl rfl) <| cgB (decide_eq_false hp90) rfl rfl (oLt rfl tm (cI (by decide))) (s1 rfl) <| cp (oPkF (decide_eq_false hp90) tm tm) (s2 rfl rfl) <| .nil) (by kernel_rfl) ?_
                  exact pJ1 _ (so h) ⟨rfl, rfl, rfl, rfl, rfl, rfl, rfl, trivial⟩ rfl
              · rintro x88 rfl
                replace h := hk3
                rcases ic h with ⟨hp92, h⟩ | ⟨hp92, h⟩
                · refine wBT hp92 tm (s1 rfl) ?_
                  refine wSeq ?_
                  refine rg (cp (oAs (cI (by decide))) trivial <| .nil) (by kernel_rfl) ?_
                  refine pSeq ?_
                  refine wRet ?_
                  refine pBlkR ?_
                  refine pThenR ?_
                  refine pThenR ?_
                  refine pBlkR ?_
                  refine pThenR ?_
                  obtain rfl := so h
                  replace h := hk2
                  refine pBlkR ?_
                  refine pThenR ?_
                  refine pThenR ?_
                  refine pBlkR ?_
                  refine pThenR ?_
                  obtain rfl := so h
                  replace h := hk1
                  refine pThenR ?_
                  obtain rfl := so h
                  exact pR1 (.inl rfl) rfl (.tmp rfl <| .nil)
                · refine wBF hp92 tm (s1 rfl) ?_
                  refine wSkip ?_
                  refine pBlkN ?_
                  refine pSeq ?_
                  refine rg (cp (oAdd tm (cI (by decide))) (s1 rfl) <| cp (oMv tm) (s1 rfl) <| .nil) (by kernel_rfl) ?_
                  exact pLoop (lW (ih _ h) ⟨rfl, rfl, rfl, rfl, rfl, rfl, trivial⟩ rfl)
            · refine wCF hp84 tm (s1 rfl) ?_
              refine wExit ?_
              refine pThenX ?_
              refine pThenX ?_
              refine pBlkX ?_
              exact pJ0 (so h) ⟨rfl, rfl, rfl, trivial⟩ rfl
          · rintro rfl
            replace h := hk2
            refine pBlkN ?_
            refine pSeq ?_
            refine rg (cp (oAdd tm (cI (by decide))) (s1 rfl) <| cp (oMv tm) (s1 rfl) <| .nil) (by kernel_rfl) ?_
            exact pLoop (lW (ih _ h) ⟨rfl, rfl, rfl, trivial⟩ rfl)
        · refine wCF hp64 tm (s1 rfl) ?_
          refine wExit ?_
          refine pThenX ?_
          refine pThenX ?_
          refine pBlkX ?_
          exact pJ0 (so h) trivial rfl
      · rintro rfl
        replace h := hk1
        refine pSeq ?_
        refine wSeq ?_
        refine rg (cp (oAs (cI (by decide))) trivial <| .nil) (by kernel_rfl) ?_
        refine pSeq ?_
        refine wRet ?_
        obtain rfl := so h
        exact pR1 (.inl rfl) rfl (.tmp rfl <| .nil)
theorem reticentref03_letter.ok {a0 : Int} {r : Bool} (h : reticentref03_letter.f a0 = some r) : FnA Tryz.prog 219 [(kI .u8).sig a0] (kB.sig r) := by
  refine fnIntro Tryz.func219 rfl (by kernel_rfl) fun H0 w0 => ?_
  unfold reticentref03_letter.f at h
  refine wSeq ?_
  refine rg (cp (oAs cB) trivial <| .nil) (by kernel_rfl) ?_
  refine pSeq ?_
  obtain ⟨o1, h, hk1⟩ := bd h
  refine wJ1 (fun x2 => x2 = o1) (fun x2 => [(2, .d (kB.sig x2))]) (fun x2 => []) ?_ ?_
  · rcases ic h with ⟨hp3, h⟩ | ⟨hp3, h⟩
    · refine rg (cp (oMv tm) (s1 rfl) <| cp (oGe rfl tm (cI (by decide))) (s1 rfl) <| cp (oMv tm) (s1 rfl) <| cgB (decide_eq_true hp3) rfl rfl (oMv tm) (s1 rfl) <| cgB (decide_eq_true hp3) rfl rfl (oLe rfl tm (cI (by decide))) (s1 rfl) <| cp (oPkT (decide_eq_true hp3) tm tm) (s2 rfl rfl) <| cp (oAs tm) (s1 rfl) <| .nil) (by kernel_rfl) ?_
      exact pJ1 _ (so h) ⟨rfl, trivial⟩ rfl
    · refine rg (cp (oMv tm) (s1 rfl) <| cp (oGe rfl tm (cI (by decide))) (s1 rfl) <| cp (oMv tm) (s1 rfl) <| csB (decide_eq_false hp3) rfl rfl <| csB (decide_eq_false hp3) rfl rfl <| cp (oPkF (decide_eq_false hp3) tm cB) (s1 rfl) <| cp (oAs tm) (s1 rfl) <| .nil) (by kernel_rfl) ?_
      exact pJ1 _ (so h) ⟨rfl, trivial⟩ rfl
  · rintro x2 rfl
    replace h := hk1
    refine wRet ?_
    obtain rfl := so h
    exact pR1 (.inl rfl) rfl (.tmp rfl <| .nil)
theorem reticentref03_digit.ok {a0 : Int} {r : Bool} (h : reticentref03_digit.f a0 = some r) : FnA Tryz.prog 220 [(kI .u8).sig a0] (kB.sig r) := by
  refine fnIntro Tryz.func220 rfl (by kernel_rfl) fun H0 w0 => ?_
  unfold reticentref03_digit.f at h
  refine wSeq ?_
  refine rg (cp (oAs cB) trivial <| .nil) (by kernel_rfl) ?_
  refine pSeq ?_
  obtain ⟨o1, h, hk1⟩ := bd h
  refine wJ1 (fun x2 => x2 = o1) (fun x2 => [(2, .d (kB.sig x2))]) (fun x2 => []) ?_ ?_
  · rcases ic h with ⟨hp3, h⟩ | ⟨hp3, h⟩
    · refine rg (cp (oMv tm) (s1 rfl) <| cp (oGe rfl tm (cI (by decide))) (s1 rfl) <| cp (oMv tm) (s1 rfl) <| cgB (decide_eq_true hp3) rfl rfl (oMv tm) (s1 rfl) <| cgB (decide_eq_true hp3) rfl rfl (oLe rfl tm (cI (by decide))) (s1 rfl) <| cp (oPkT (decide_eq_true hp3) tm tm) (s2 rfl rfl) <| cp (oAs tm) (s1 rfl) <| .nil) (by kernel_rfl) ?_
      exact pJ1 _ (so h) ⟨rfl, trivial⟩ rfl
    · refine rg (cp (oMv tm) (s1 rfl) <| cp (oGe rfl tm (cI (by decide))) (s1 rfl) <| cp (oMv tm) (s1 rfl) <| csB (decide_eq_false hp3) rfl rfl <| csB (decide_eq_false hp3) rfl rfl <| cp (oPkF (decide_eq_false hp3) tm cB) (s1 rfl) <| cp (oAs tm) (s1 rfl) <| .nil) (by kernel_rfl) ?_
      exact pJ1 _ (so h) ⟨rfl, trivial⟩ rfl
  · rintro x2 rfl
    replace h := hk1
    refine wRet ?_
    obtain rfl := so h
    exact pR1 (.inl rfl) rfl (.tmp rfl <| .nil)
theorem reticentref03_mark.ok {a0 : Int} {r : Bool} (h : reticentref03_mark.f a0 = some r) : FnA Tryz.prog 221 [(kI .u8).sig a0] (kB.sig r) := by
  refine fnIntro Tryz.func221 rfl (by kernel_rfl) fun H0 w0 => ?_
  unfold reticentref03_mark.f at h
  refine wSeq ?_
  refine rg (cp (oAs cB) trivial <| .nil) (by kernel_rfl) ?_
  refine pSeq ?_
  refine wSeq ?_
  refine wSeq ?_
  refine rg (cp (oLit (d := (kI .u8)) el297 (by decide) rfl rfl rfl (e1 (cI (by decide)) (e1 (cI (by decide)) (e1 (cI (by decide)) (e1 (cI (by decide)) (e1 (cI (by decide)) (e1 (cI (by decide)) (e1 (cI (by decide)) (e1 (cI (by decide)) (e1 (cI (by decide)) (e1 (cI (by decide)) (e1 (cI (by decide)) (e1 (cI (by decide)) e0))))))))))))) trivial <| cp (oLenL u297 tm) (s1 rfl) <| cp (oMv (cI (by decide))) trivial <| .nil) (by kernel_rfl) ?_
  refine pSeq ?_
  obtain ⟨o1, h, hk1⟩ := bd h
  refine wK0 (.inr () = o1) ([]) ([]) ?_ ?_
  · refine wBlock (wLoop ?_)
    refine lW (pc1 o1 (fun v7 => [(0, .d ((kI .u8).sig a0)), (5, .d ((kL (kI .u8)).sig ([40, 41, 91, 93, 59, 58, 44, 60, 62, 64, 45, 61] : List Int))), (6, .d ((kI .i64).sig (([40, 41, 91, 93, 59, 58, 44, 60, 62, 64, 45, 61] : List Int).length : Int))), (7, .d ((kI .i64).sig v7))]) (fun v7 => []) (reticentref03_mark.l0.partial_correctness a0) ?_ _ h) ⟨rfl, rfl, rfl, rfl, trivial⟩ rfl
    clear h
    intro f' ih v7 h
    refine wSeq ?_
    refine rg (cp (oLt rfl tm tm) (s2 rfl rfl) <| .nil) (by kernel_rfl) ?_
    refine pSeq ?_
    refine wSeq ?_
    rcases ic h with ⟨hp8, h⟩ | ⟨hp8, h⟩
    · refine wCT hp8 tm (s1 rfl) ?_
      refine wSkip ?_
      refine pSeq ?_
      refine wSeq ?_
      refine wBlock ?_
      refine wSeq ?_
      obtain ⟨y9, hy9, h⟩ := bd h
      refine rg (cp (oIdx u297 z5 hy9 tm tm) (s2 rfl rfl) <| cp (oLd t5 tm) (s1 rfl) <| cp (oAs tm) (s1 rfl) <| .nil) (by kernel_rfl) ?_
      refine pSeq ?_
      refine wSeq ?_
      refine rg (cp (oMv tm) (s1 rfl) <| cp (oMv tm) (s1 rfl) <| cp (oEq rfl tm tm) (s2 rfl rfl) <| .nil) (by kernel_rfl) ?_
      refine pSeq ?_
      rcases ic h with ⟨hp10, h⟩ | ⟨hp10, h⟩
      · refine wCT hp10 tm (s1 rfl) ?_
        refine wSeq ?_
        refine rg (cp (oAs cB) trivial <| .nil) (by kernel_rfl) ?_
        refine pSeq ?_
        refine wRet ?_
        refine pBlkR ?_
        refine pThenR ?_
        refine pThenR ?_
        refine pBlkR ?_
        refine pThenR ?_
        obtain rfl := so h
        replace h := hk1
        refine pThenR ?_
        obtain rfl := so h
        exact pR1 (.inl rfl) rfl (.tmp rfl <| .nil)
      · refine wCF hp10 tm (s1 rfl) ?_
        refine wSkip ?_
        refine pBlkN ?_
        refine pSeq ?_
        refine rg (cp (oAdd tm (cI (by decide))) (s1 rfl) <| cp (oMv tm) (s1 rfl) <| .nil) (by kernel_rfl) ?_
        exact pLoop (lW (ih _ h) ⟨rfl, rfl, rfl, rfl, trivial⟩ rfl)
    · refine wCF hp8 tm (s1 rfl) ?_
      refine wExit ?_
      refine pThenX ?_
      refine pThenX ?_
      refine pBlkX ?_
      exact pJ0 (so h) trivial rfl
  · rintro rfl
    replace h := hk1
    refine pSeq ?_
    refine wSeq ?_
    refine rg (cp (oAs cB) trivial <| .nil) (by kernel_rfl) ?_
    refine pSeq ?_
    refine wRet ?_
    obtain rfl := so h
    exact pR1 (.inl rfl) rfl (.tmp rfl <| .nil)
theorem reticentref03_end.ok {a0 : Str} {a1 : Int} {r : Int} (h : reticentref03_end.f a0 a1 = some r) : FnA Tryz.prog 122 [kS.sig a0, (kI .i64).sig a1] ((kI .i64).sig r) := by
  refine fnIntro Tryz.func122 rfl (by kernel_rfl) fun H0 w0 => ?_
  unfold reticentref03_end.f at h
  refine wSeq ?_
  refine rg (cp (oAs (cI (by decide))) trivial <| .nil) (by kernel_rfl) ?_
  refine pSeq ?_
  refine wSeq ?_
  refine rg (cp (oMv tm) (s1 rfl) <| cp (oAs tm) (s1 rfl) <| .nil) (by kernel_rfl) ?_
  refine pSeq ?_
  refine wSeq ?_
  refine wSeq ?_
  obtain ⟨hc1, h⟩ := ib h
  obtain ⟨y2, hy2, h⟩ := bd h
  refine rg (cp (oMv tm) (s1 rfl) <| cp (oMv tm) (s1 rfl) <| cp (oIdxS u9 hc1.1 hc1.2 tm tm) (s2 rfl rfl) <| cp (oCall rfl (reticentref03_letter.ok hy2) b219 (opds_cons tm opds_nil)) (s1 rfl) <| .nil) (by kernel_rfl) ?_
  refine pSeq ?_
  rcases ic h with ⟨hp3, h⟩ | ⟨hp3, h⟩
  · refine wBT hp3 tm (s1 rfl) ?_
    obtain ⟨o1, h, hk1⟩ := bd h
    refine wJ1 (fun x21 => x21 = o1) (fun x21 => [(5, .d ((kI .i64).sig x21))]) (fun x21 => []) ?_ ?_
    · refine wBlock (wLoop ?_)
      refine lW (pc1 o1 (fun v20 => [(0, .d (kS.sig a0)), (5, .d ((kI .i64).sig v20))]) (fun v20 => []) (reticentref03_end.l0.partial_correctness a0) ?_ _ h) ⟨rfl, rfl, trivial⟩ rfl
      clear h
      intro f' ih v20 h
      refine wSeq ?_
      obtain ⟨o2, h, hk2⟩ := bd h
      refine wJ1 (fun x25 => x25 = o2) (fun x25 => [(0, .d (kS.sig a0)), (5, .d ((kI .i64).sig v20)), (20, .d (kB.sig x25))]) (fun x25 => []) ?_ ?_
      · rcases ic h with ⟨hp26, h⟩ | ⟨hp26, h⟩
        · obtain ⟨hc27, h⟩ := ib h
          obtain ⟨y28, hy28, h⟩ := bd h
          refine rg (cp (oMv tm) (s1 rfl) <| cp (oMv tm) (s1 rfl) <| cp (oLenS u9 tm) (s1 rfl) <| cp (oLt rfl tm tm) (s2 rfl rfl) <| cp (oMv tm) (s1 rfl) <| cgB (decide_eq_true hp26) rfl rfl (oMv tm) (s1 rfl) <| cgB (decide_eq_true hp26) rfl rfl (oMv tm) (s1 rfl) <| cgB (decide_eq_true hp26) rfl rfl (oIdxS u9 hc27.1 hc27.2 tm tm) (s2 rfl rfl) <| cgB (decide_eq_true hp26) rfl rfl (oCall rfl (reticentref03_letter.ok hy28) b219 (opds_cons tm opds_nil)) (s1 rfl) <| cp (oPkT (decide_eq_true hp26) tm tm) (s2 rfl rfl) <| .nil) (by kernel_rfl) ?_
          exact pJ1 _ (so h) ⟨rfl, rfl, rfl, trivial⟩ rfl
        · refine rg (cp (oMv tm) (s1 rfl) <| cp (oMv tm) (s1 rfl) <| cp (oLenS u9 tm) (s1 rfl) <| cp (oLt rfl tm tm) (s2 rfl rfl) <| cp (oMv tm) (s1 rfl) <| csB (decide_eq_false hp26) rfl rfl <| csB (decide_eq_false hp26) rfl rfl <| csB (decide_eq_false hp26) rfl rfl <| csB (decide_eq_false hp26) rfl rfl <| cp (oPkF (decide_eq_false hp26) tm cB) (s1 rfl) <| .nil) (by kernel_rfl) ?_
          exact pJ1 _ (so h) ⟨rfl, rfl, rfl, trivial⟩ rfl
      · rintro x25 rfl
        replace h := hk2
        rcases ic h with ⟨hp29, h⟩ | ⟨hp29, h⟩
        · refine wBT hp29 tm (s1 rfl) ?_
          refine wSkip ?_
          refine pSeq ?_
          refine wBlock ?_
          refine rg (cp (oMv tm) (s1 rfl) <| cp (oAdd tm (cI (by decide))) (s1 rfl) <| cp (oAs tm) (s1 rfl) <| .nil) (by kernel_rfl) ?_
          refine pBlkN ?_
          exact pLoop (lW (ih _ h) ⟨rfl, rfl, trivial⟩ rfl)
        · refine wBF hp29 tm (s1 rfl) ?_
          refine wExit ?_
          refine pThenX ?_
          refine pThenX ?_
          refine pBlkX ?_
          exact pJ1 _ (so h) ⟨rfl, trivial⟩ rfl
    · rintro x21 rfl
      replace h := hk1
      refine wSeq ?_
      refine rg (cp (oMv tm) (s1 rfl) <| cp (oAs tm) (s1 rfl) <| .nil) (by kernel_rfl) ?_
      refine pSeq ?_
      refine wRet ?_
      refine pThenR ?_
      obtain rfl := so h
      exact pR1 (.inl rfl) rfl (.tmp rfl <| .nil)
  · refine wBF hp3 tm (s1 rfl) ?_
    refine wSkip ?_
    refine pSeq ?_
    refine wSeq ?_
    refine wSeq ?_
    obtain ⟨hc30, h⟩ := ib h
    obtain ⟨y31, hy31, h⟩ := bd h
    refine rg (cp (oMv tm) (s1 rfl) <| cp (oMv tm) (s1 rfl) <| cp (oIdxS u9 hc30.1 hc30.2 tm tm) (s2 rfl rfl) <| cp (oCall rfl (reticentref03_digit.ok hy31) b220 (opds_cons tm opds_nil)) (s1 rfl) <| .nil) (by kernel_rfl) ?_
    refine pSeq ?_
    rcases ic h with ⟨hp32, h⟩ | ⟨hp32, h⟩
    · refine wBT hp32 tm (s1 rfl) ?_
      obtain ⟨o1, h, hk1⟩ := bd h
      refine wJ1 (fun x50 => x50 = o1) (fun x50 => [(5, .d ((kI .i64).sig x50))]) (fun x50 => []) ?_ ?_
      · refine wBlock (wLoop ?_)
        refine lW (pc1 o1 (fun v49 => [(0, .d (kS.sig a0)), (5, .d ((kI .i64).sig v49))]) (fun v49 => []) (reticentref03_end.l1.partial_correctness a0) ?_ _ h) ⟨rfl, rfl, trivial⟩ rfl
        clear h
        intro f' ih v49 h
        refine wSeq ?_
        obtain ⟨o2, h, hk2⟩ := bd h
        refine wJ1 (fun x54 => x54 = o2) (fun x54 => [(0, .d (kS.sig a0)), (5, .d ((kI .i64).sig v49)), (37, .d (kB.sig x54))]) (fun x54 => []) ?_ ?_
        · rcases ic h with ⟨hp55, h⟩ | ⟨hp55, h⟩
          · obtain ⟨hc56, h⟩ := ib h
            obtain ⟨y57, hy57, h⟩ := bd h
            refine rg (cp (oMv tm) (s1 rfl) <| cp (oMv tm) (s1 rfl) <| cp (oLenS u9 tm) (s1 rfl) <| cp (oLt rfl tm tm) (s2 rfl rfl) <| cp (oMv tm) (s1 rfl) <| cgB (decide_eq_true hp55) rfl rfl (oMv tm) (s1 rfl) <| cgB (decide_eq_true hp55) rfl rfl (oMv tm) (s1 rfl) <| cgB (decide_eq_true hp55) rfl rfl (oIdxS u9 hc56.1 hc56.2 tm tm) (s2 rfl rfl) <| cgB (decide_eq_true hp55) rfl rfl (oCall rfl (reticentref03_digit.ok hy57) b220 (opds_cons tm opds_nil)) (s1 rfl) <| cp (oPkT (decide_eq_true hp55) tm tm) (s2 rfl rfl) <| .nil) (by kernel_rfl) ?_
            exact pJ1 _ (so h) ⟨rfl, rfl, rfl, trivial⟩ rfl
          · refine rg (cp (oMv tm) (s1 rfl) <| cp (oMv tm) (s1 rfl) <| cp (oLenS u9 tm) (s1 rfl) <| cp (oLt rfl tm tm) (s2 rfl rfl) <| cp (oMv tm) (s1 rfl) <| csB (decide_eq_false hp55) rfl rfl <| csB (decide_eq_false hp55) rfl rfl <| csB (decide_eq_false hp55) rfl rfl <| csB (decide_eq_false hp55) rfl rfl <| cp (oPkF (decide_eq_false hp55) tm cB) (s1 rfl) <| .nil) (by kernel_rfl) ?_
            exact pJ1 _ (so h) ⟨rfl, rfl, rfl, trivial⟩ rfl
        · rintro x54 rfl
          replace h := hk2
          rcases ic h with ⟨hp58, h⟩ | ⟨hp58, h⟩
          · refine wBT hp58 tm (s1 rfl) ?_
            refine wSkip ?_
            refine pSeq ?_
            refine wBlock ?_
            refine rg (cp (oMv tm) (s1 rfl) <| cp (oAdd tm (cI (by decide))) (s1 rfl) <| cp (oAs tm) (s1 rfl) <| .nil) (by kernel_rfl) ?_
            refine pBlkN ?_
            exact pLoop (lW (ih _ h) ⟨rfl, rfl, trivial⟩ rfl)
          · refine wBF hp58 tm (s1 rfl) ?_
            refine wExit ?_
            refine pThenX ?_
            refine pThenX ?_
            refine pBlkX ?_
            exact pJ1 _ (so h) ⟨rfl, trivial⟩ rfl
      · rintro x50 rfl
        replace h := hk1
        refine wSeq ?_
        refine rg (cp (oMv tm) (s1 rfl) <| cp (oAs tm) (s1 rfl) <| .nil) (by kernel_rfl) ?_
        refine pSeq ?_
        refine wRet ?_
        refine pThenR ?_
        obtain rfl := so h
        exact pR1 (.inl rfl) rfl (.tmp rfl <| .nil)
    · refine wBF hp32 tm (s1 rfl) ?_
      refine wSkip ?_
      refine pSeq ?_
      refine wSeq ?_
      obtain ⟨o1, h, hk1⟩ := bd h
      refine wJ1 (fun x63 => x63 = o1) (fun x63 => [(0, .d (kS.sig a0)), (1, .d ((kI .i64).sig a1)), (58, .d (kB.sig x63))]) (fun x63 => []) ?_ ?_
      · obtain ⟨hc64, h⟩ := ib h
        rcases ic h with ⟨hp65, h⟩ | ⟨hp65, h⟩
        · rcases ic h with ⟨hp66, h⟩ | ⟨hp66, h⟩
          · obtain ⟨hc67, h⟩ := ib h
            refine rg (cp (oMv tm) (s1 rfl) <| cp (oMv tm) (s1 rfl) <| cp (oIdxS u9 hc64.1 hc64.2 tm tm) (s2 rfl rfl) <| cp (oEq rfl tm (cI (by decide))) (s1 rfl) <| cp (oMv tm) (s1 rfl) <| cgB (decide_eq_true hp65) rfl rfl (oMv tm) (s1 rfl) <| cgB (decide_eq_true hp65) rfl rfl (oAdd tm (cI (by decide))) (s1 rfl) <| cgB (decide_eq_true hp65) rfl rfl (oMv tm) (s1 rfl) <| cgB (decide_eq_true hp65) rfl rfl (oLenS u9 tm) (s1 rfl) <| cgB (decide_eq_true hp65) rfl rfl (oLt rfl tm tm) (s2 rfl rfl) <| cp (oPkT (decide_eq_true hp65) tm tm) (s2 rfl rfl) <| cp (oMv tm) (s1 rfl) <| cgB (decide_eq_true hp66) rfl rfl (oMv tm) (s1 rfl) <| cgB (decide_eq_true hp66) rfl rfl (oMv tm) (s1 rfl) <| cgB (decide_eq_true hp66) rfl rfl (oAdd tm (cI (by decide))) (s1 rfl) <| cgB (decide_eq_true hp66) rfl rfl (oIdxS u9 hc67.1 hc67.2 tm tm) (s2 rfl rfl) <| cgB (decide_eq_true hp66) rfl rfl (oEq rfl tm (cI (by decide))) (s1 rfl) <| cp (oPkT (decide_eq_true hp66) tm tm) (s2 rfl rfl) <| .nil) (by kernel_rfl) ?_
            exact pJ1 _ (so h) ⟨rfl, rfl, rfl, trivial⟩ rfl
          · refine rg (cp (oMv tm) (s1 rfl) <| cp (oMv tm) (s1 rfl) <| cp (oIdxS u9 hc64.1 hc64.2 tm tm) (s2 rfl rfl) <| cp (oEq rfl tm (cI (by decide))) (s1 rfl) <| cp (oMv tm) (s1 rfl) <| cgB (decide_eq_true hp65) rfl rfl (oMv tm) (s1 rfl) <| cgB (decide_eq_true hp65) rfl rfl (oAdd tm (cI (by decide))) (s1 rfl) <| cgB (decide_eq_true hp65) rfl rfl (oMv tm) (s1 rfl) <| cgB (decide_eq_true hp65) rfl rfl (oLenS u9 tm) (s1 rfl) <| cgB (decide_eq_true hp65) rfl rfl (oLt rfl tm tm) (s2 rfl rfl) <| cp (oPkT (decide_eq_true hp65) tm tm) (s2 rfl rfl) <| cp (oMv tm) (s1 rfl) <| csB (decide_eq_false hp66) rfl rfl <| csB (decide_eq_false hp66) rfl rfl <| csB (decide_eq_false hp66) rfl rfl <| csB (decide_eq_false hp66) rfl rfl <| csB (decide_eq_false hp66) rfl rfl <| cp (oPkF (decide_eq_false hp66) tm cB) (s1 rfl) <| .nil) (by kernel_rfl) ?_
            exact pJ1 _ (so h) ⟨rfl, rfl, rfl, trivial⟩ rfl
        · refine rg (cp (oMv tm) (s1 rfl) <| cp (oMv tm) (s1 rfl) <| cp (oIdxS u9 hc64.1 hc64.2 tm tm) (s2 rfl rfl) <| cp (oEq rfl tm (cI (by decide))) (s1 rfl) <| cp (oMv tm) (s1 rfl) <| csB (decide_eq_false hp65) rfl rfl <| csB (decide_eq_false hp65) rfl rfl <| csB (decide_eq_false hp65) rfl rfl <| csB (decide_eq_false hp65) rfl rfl <| csB (decide_eq_false hp65) rfl rfl <| cp (oPkF (decide_eq_false hp65) tm cB) (s1 rfl) <| cp (oMv tm) (s1 rfl) <| csB rfl rfl rfl <| csB rfl rfl rfl <| csB rfl rfl rfl <| csB rfl rfl rfl <| csB rfl rfl rfl <| cp (oPkF rfl tm cB) (s1 rfl) <| .nil) (by kernel_rfl) ?_
          exact pJ1 _ (so h) ⟨rfl, rfl, rfl, trivial⟩ rfl
      · rintro x63 rfl
        replace h := hk1
        rcases ic h with ⟨hp68, h⟩ | ⟨hp68, h⟩
        · refine wBT hp68 tm (s1 rfl) ?_
          refine wSeq ?_
          refine rg (cp (oMv tm) (s1 rfl) <| cp (oAdd tm (cI (by decide))) (s1 rfl) <| cp (oAs tm) (s1 rfl) <| .nil) (by kernel_rfl) ?_
          refine pSeq ?_
          refine wRet ?_
          refine pThenR ?_
          obtain rfl := so h
          exact pR1 (.inl rfl) rfl (.tmp rfl <| .nil)
        · refine wBF hp68 tm (s1 rfl) ?_
          refine wSkip ?_
          refine pSeq ?_
          refine wSeq ?_
          refine wSeq ?_
          obtain ⟨hc69, h⟩ := ib h
          obtain ⟨y70, hy70, h⟩ := bd h
          refine rg (cp (oMv tm) (s1 rfl) <| cp (oMv tm) (s1 rfl) <| cp (oIdxS u9 hc69.1 hc69.2 tm tm) (s2 rfl rfl) <| cp (oCall rfl (reticentref03_mark.ok hy70) b221 (opds_cons tm opds_nil)) (s1 rfl) <| .nil) (by kernel_rfl) ?_
          refine pSeq ?_
          rcases ic h with ⟨hp71, h⟩ | ⟨hp71, h⟩
          · refine wBT hp71 tm (s1 rfl) ?_
            refine wSeq ?_
            refine rg (cp (oMv tm) (s1 rfl) <| cp (oAdd tm (cI (by decide))) (s1 rfl) <| cp (oAs tm) (s1 rfl) <| .nil) (by kernel_rfl) ?_
            refine pSeq ?_
            refine wRet ?_
            refine pThenR ?_
            obtain rfl := so h
            exact pR1 (.inl rfl) rfl (.tmp rfl <| .nil)
          · refine wBF hp71 tm (s1 rfl) ?_
            refine wSkip ?_
            refine pSeq ?_
            refine wSeq ?_
            refine rg (cp (oMv tm) (s1 rfl) <| cp (oAs tm) (s1 rfl) <| .nil) (by kernel_rfl) ?_
            refine pSeq ?_
            refine wRet ?_
            obtain rfl := so h
            exact pR1 (.inl rfl) rfl (.tmp rfl <| .nil)
theorem reticentref03_kind.ok {a0 : Int} {r : Int} (h : reticentref03_kind.f a0 = some r) : FnA Tryz.prog 123 [(kI .u8).sig a0] ((kI .i64).sig r) := by
  refine fnIntro Tryz.func123 rfl (by kernel_rfl) fun H0 w0 => ?_
  unfold reticentref03_kind.f at h
  refine wSeq ?_
  refine rg (cp (oAs (cI (by decide))) trivial <| .nil) (by kernel_rfl) ?_
  refine pSeq ?_
  refine wSeq ?_
  refine wSeq ?_
  obtain ⟨y1, hy1, h⟩ := bd h
  refine rg (cp (oMv tm) (s1 rfl) <| cp (oCall rfl (reticentref03_letter.ok hy1) b219 (opds_cons tm opds_nil)) (s1 rfl) <| .nil) (by kernel_rfl) ?_
  refine pSeq ?_
  rcases ic h with ⟨hp2, h⟩ | ⟨hp2, h⟩
  · refine wBT hp2 tm (s1 rfl) ?_
    refine wSeq ?_
    refine rg (cp (oAs (cI (by decide))) trivial <| .nil) (by kernel_rfl) ?_
    refine pSeq ?_
    refine wRet ?_
    refine pThenR ?_
    obtain rfl := so h
    exact pR1 (.inl rfl) rfl (.tmp rfl <| .nil)
  · refine wBF hp2 tm (s1 rfl) ?_
    refine wSkip ?_
    refine pSeq ?_
    refine wSeq ?_
    refine wSeq ?_
    obtain ⟨y3, hy3, h⟩ := bd h
    refine rg (cp (oMv tm) (s1 rfl) <| cp (oCall rfl (reticentref03_digit.ok hy3) b220 (opds_cons tm opds_nil)) (s1 rfl) <| .nil) (by kernel_rfl) ?_
    refine pSeq ?_
    rcases ic h with ⟨hp4, h⟩ | ⟨hp4, h⟩
    · refine wBT hp4 tm (s1 rfl) ?_
      refine wSeq ?_
      refine rg (cp (oAs (cI (by decide))) trivial <| .nil) (by kernel_rfl) ?_
      refine pSeq ?_
      refine wRet ?_
      refine pThenR ?_
      obtain rfl := so h
      exact pR1 (.inl rfl) rfl (.tmp rfl <| .nil)
    · refine wBF hp4 tm (s1 rfl) ?_
      refine wSkip ?_
      refine pSeq ?_
      refine wSeq ?_
      refine rg (cp (oAs (cI (by decide))) trivial <| .nil) (by kernel_rfl) ?_
      refine pSeq ?_
      refine wRet ?_
      obtain rfl := so h
      exact pR1 (.inl rfl) rfl (.tmp rfl <| .nil)
theorem reticentref03_Lex.ok {a0 : Str} {r : reticentref03_R} (h : reticentref03_Lex.f a0 = some r) : FnA Tryz.prog 52 [kS.sig a0] ((kR f_reticentref03_R).sig r) := by
  refine fnIntro Tryz.func52 rfl (by kernel_rfl) fun H0 w0 => ?_
  unfold reticentref03_Lex.f at h
  refine wSeq ?_
  refine rg (cw (oAlloc (id := 2) (ls := [.d (kL (kR f_api_Tok)) [], .d (kI .i64) 0, .d (kI .i64) 0]) ze96 (fun g => ⟨[(.slice none 0 0)], _, rfl, zL g.H, ⟨[(.int .i64 0)], _, rfl, zI_i64 g.H, ⟨[(.int .i64 0)], _, rfl, zI_i64 g.H, rfl⟩⟩⟩)) trivial <| .nil) (by kernel_rfl) ?_
  refine pSeq ?_
  refine wSeq ?_
  refine wSeq ?_
  refine rg (cp (oMv tm) (s1 rfl) <| cp (oLenS u9 tm) (s1 rfl) <| cp (oGt rfl tm (cI (by decide))) (s1 rfl) <| .nil) (by kernel_rfl) ?_
  refine pSeq ?_
  rcases ic h with ⟨hp1, h⟩ | ⟨hp1, h⟩
  · refine wCT hp1 tm (s1 rfl) ?_
    refine wSeq ?_
    refine rg (cp (oBuild (fs := f_reticentref03_R) (u := ⟨[], 0, 8⟩) rfl ze96 pl96 po96 (.ze (zc := [(.slice none 0 0)]) zL (.ze (zc := [(.int .i64 0)]) zI_i64 (.op (zc := [(.int .i64 0)]) (cI (by decide)) rfl .nil)))) trivial <| cwn (oStA (n := 0) (fs := f_reticentref03_R) rfl rfl z96 tm tm) (s2 rfl rfl) <| .nil) (by kernel_rfl) ?_
    refine pSeq ?_
    refine wRet ?_
    refine pThenR ?_
    obtain rfl := so h
    exact pR1 (.inl rfl) rfl (.box (n := 0) (fs := f_reticentref03_R) (u := ⟨[], 0, 8⟩) rfl rfl ⟨rfl, rfl, rfl, trivial⟩ t96 <| .nil)
  · refine wCF hp1 tm (s1 rfl) ?_
    refine wSkip ?_
    refine pSeq ?_
    refine wSeq ?_
    refine rg (cw (oLitR (id := 10) (d := (kR f_api_Tok)) el89 (by decide) rfl rfl rfl e0) trivial <| cp (oAs tm) (s1 rfl) <| .nil) (by kernel_rfl) ?_
    refine pSeq ?_
    refine wSeq ?_
    refine rg (cp (oAs (cI (by decide))) trivial <| .nil) (by kernel_rfl) ?_
    refine pSeq ?_
    refine wWeak (Γ' := [(0, .d (kS.sig a0)), (2, .p 2 0), (3, .v 10), (4, .d ((kI .i64).sig 0))]) ⟨rfl, rfl, rfl, rfl, trivial⟩ ?_
    refine wRen 10 1003 rfl ?_
    obtain ⟨o1, h, hk1⟩ := bd h
    refine wJ1 (fun x170 => .inr x170 = o1) (fun x170 => [(0, .d (kS.sig a0)), (2, .p 2 0), (3, .v 1003)]) (fun x170 => [.row 1003 94 (kR f_api_Tok) x170, .box 2 96 [.d (kL (kR f_api_Tok)) [], .d (kI .i64) 0, .d (kI .i64) 0]]) ?_ ?_
    · refine wBlock (wLoop ?_)
      refine lW (pc2 o1 (fun v168 v169 => [(0, .d (kS.sig a0)), (2, .p 2 0), (3, .v 1003), (4, .d ((kI .i64).sig v169))]) (fun v168 v169 => [.row 1003 94 (kR f_api_Tok) v168, .box 2 96 [.d (kL (kR f_api_Tok)) [], .d (kI .i64) 0, .d (kI .i64) 0]]) (reticentref03_Lex.l4.partial_correctness a0) ?_ _ _ h) ⟨rfl, rfl, rfl, rfl, trivial⟩ rfl
      clear h
      intro f' ih v168 v169 h
      refine wSeq ?_
      refine wSeq ?_
      refine rg (cp (oMv tm) (s1 rfl) <| cp (oMv tm) (s1 rfl) <| cp (oLenS u9 tm) (s1 rfl) <| cp (oLt rfl tm tm) (s2 rfl rfl) <| .nil) (by kernel_rfl) ?_
      refine pSeq ?_
      rcases ic h with ⟨hp171, h⟩ | ⟨hp171, h⟩
      · refine wCT hp171 tm (s1 rfl) ?_
        refine wSkip ?_
        refine pSeq ?_
        obtain ⟨o2, h, hk2⟩ := bd h
        refine wK2 (fun x212 x213 => .inr (x212, x213) = o2) (fun x212 x213 => [(0, .d (kS.sig a0)), (2, .p 2 0), (3, .v 1003), (4, .d ((kI .i64).sig x213))]) (fun x212 x213 => [.row 1003 94 (kR f_api_Tok) x212, .box 2 96 [.d (kL (kR f_api_Tok)) [], .d (kI .i64) 0, .d (kI .i64) 0]]) ?_ ?_
        · refine wBlock ?_
          refine wSeq ?_
          obtain ⟨o3, h, hk3⟩ := bd h
          refine wJ1 (fun x219 => x219 = o3) (fun x219 => [(0, .d (kS.sig a0)), (2, .p 2 0), (3, .v 1003), (4, .d ((kI .i64).sig v169)), (30, .d (kB.sig x219))]) (fun x219 => [.row 1003 94 (kR f_api_Tok) v168, .box 2 96 [.d (kL (kR f_api_Tok)) [], .d (kI .i64) 0, .d (kI .i64) 0]]) ?_ ?_
          · obtain ⟨hc220, h⟩ := ib h
            rcases ic h with ⟨hp221, h⟩ | ⟨hp221, h⟩
            · refine rg (cp (oMv tm) (s1 rfl) <| cp (oMv tm) (s1 rfl) <| cp (oIdxS u9 hc220.1 hc220.2 tm tm) (s2 rfl rfl) <| cp (oEq rfl tm (cI (by decide))) (s1 rfl) <| cp (oMv tm) (s1 rfl) <| csB (decide_eq_true hp221) rfl rfl <| csB (decide_eq_true hp221) rfl rfl <| csB (decide_eq_true hp221) rfl rfl <| csB (decide_eq_true hp221) rfl rfl <| cp (oPkT (decide_eq_true hp221) tm cB) (s1 rfl) <| cp (oMv tm) (s1 rfl) <| csB rfl rfl rfl <| csB rfl rfl rfl <| csB rfl rfl rfl <| csB rfl rfl rfl <| cp (oPkT rfl tm cB) (s1 rfl) <| .nil) (by kernel_rfl) ?_
              exact pJ1 _ (so h) ⟨rfl, rfl, rfl, rfl, rfl, trivial⟩ rfl
            · obtain ⟨hc222, h⟩ := ib h
              rcases ic h with ⟨hp223, h⟩ | ⟨hp223, h⟩
              · refine rg (cp (oMv tm) (s1 rfl) <| cp (oMv tm) (s1 rfl) <| cp (oIdxS u9 hc220.1 hc220.2 tm tm) (s2 rfl rfl) <| cp (oEq rfl tm (cI (by decide))) (s1 rfl) <| cp (oMv tm) (s1 rfl) <| cgB (decide_eq_false hp221) rfl rfl (oMv tm) (s1 rfl) <| cgB (decide_eq_false hp221) rfl rfl (oMv tm) (s1 rfl) <| cgB (decide_eq_false hp221) rfl rfl (oIdxS u9 hc222.1 hc222.2 tm tm) (s2 rfl rfl) <| cgB (decide_eq_false hp221) rfl rfl (oEq rfl tm (cI (by decide))) (s1 rfl) <| cp (oPkF (decide_eq_false hp221) tm tm) (s2 rfl rfl) <| cp (oMv tm) (s1 rfl) <| csB (decide_eq_true hp223) rfl rfl <| csB (decide_eq_true hp223) rfl rfl <| csB (decide_eq_true hp223) rfl rfl <| csB (decide_eq_true hp223) rfl rfl <| cp (oPkT (decide_eq_true hp223) tm cB) (s1 rfl) <| .nil) (by kernel_rfl) ?_
                exact pJ1 _ (so h) ⟨rfl, rfl, rfl, rfl, rfl, trivial⟩ rfl
              · obtain ⟨hc224, h⟩ := ib h
                refine rg (cp (oMv tm) (s1 rfl) <| cp (oMv tm) (s1 rfl) <| cp (oIdxS u9 hc220.1 hc220.2 tm tm) (s2 rfl rfl) <| cp (oEq rfl tm (cI (by decide))) (s1 rfl) <| cp (oMv tm) (s1 rfl) <| cgB (decide_eq_false hp221) rfl rfl (oMv tm) (s1 rfl) <| cgB (decide_eq_false hp221) rfl rfl (oMv tm) (s1 rfl) <| cgB (decide_eq_false hp221) rfl rfl (oIdxS u9 hc222.1 hc222.2 tm tm) (s2 rfl rfl) <| cgB (decide_eq_false hp221) rfl rfl (oEq rfl tm (cI (by decide))) (s1 rfl) <| cp (oPkF (decide_eq_false hp221) tm tm) (s2 rfl rfl) <| cp (oMv tm) (s1 rfl) <| cgB (decide_eq_false hp223) rfl rfl (oMv tm) (s1 rfl) <| cgB (decide_eq_false hp223) rfl rfl (oMv tm) (s1 rfl) <| cgB (decide_eq_false hp223) rfl rfl (oIdxS u9 hc224.1 hc224.2 tm tm) (s2 rfl rfl) <| cgB (decide_eq_false hp223) rfl rfl (oEq rfl tm (cI (by decide))) (s1 rfl) <| cp (oPkF (decide_eq_false hp223) tm tm) (s2 rfl rfl) <| .nil) (by kernel_rfl) ?_
                exact pJ1 _ (so h) ⟨rfl, rfl, rfl, rfl, rfl, trivial⟩ rfl
          · rintro x219 rfl
            replace h := hk3
            rcases ic h with ⟨hp225, h⟩ | ⟨hp225, h⟩
            · refine wBT hp225 tm (s1 rfl) ?_
              refine wSeq ?_
              refine rg (cp (oMv tm) (s1 rfl) <| cp (oAdd tm (cI (by decide))) (s1 rfl) <| cp (oAs tm) (s1 rfl) <| .nil) (by kernel_rfl) ?_
              refine pSeq ?_
              refine wExit ?_
              refine pThenX ?_
              refine pBlkX ?_
              exact pJ2 _ _ (so h) ⟨rfl, rfl, rfl, rfl, trivial⟩ rfl
            · refine wBF hp225 tm (s1 rfl) ?_
              refine wSkip ?_
              refine pSeq ?_
              refine wSeq ?_
              refine wSeq ?_
              obtain ⟨hc226, h⟩ := ib h
              refine rg (cp (oMv tm) (s1 rfl) <| cp (oMv tm) (s1 rfl) <| cp (oIdxS u9 hc226.1 hc226.2 tm tm) (s2 rfl rfl) <| cp (oEq rfl tm (cI (by decide))) (s1 rfl) <| .nil) (by kernel_rfl) ?_
              refine pSeq ?_
              rcases ic h with ⟨hp227, h⟩ | ⟨hp227, h⟩
              · refine wCT hp227 tm (s1 rfl) ?_
                obtain ⟨o3, h, hk3⟩ := bd h
                refine wJ1 (fun x241 => x241 = o3) (fun x241 => [(0, .d (kS.sig a0)), (2, .p 2 0), (3, .v 1003), (4, .d ((kI .i64).sig x241))]) (fun x241 => [.row 1003 94 (kR f_api_Tok) v168, .box 2 96 [.d (kL (kR f_api_Tok)) [], .d (kI .i64) 0, .d (kI .i64) 0]]) ?_ ?_
                · refine wBlock (wLoop ?_)
                  refine lW (pc1 o3 (fun v240 => [(0, .d (kS.sig a0)), (2, .p 2 0), (3, .v 1003), (4, .d ((kI .i64).sig v240))]) (fun v240 => [.row 1003 94 (kR f_api_Tok) v168, .box 2 96 [.d (kL (kR f_api_Tok)) [], .d (kI .i64) 0, .d (kI .i64) 0]]) (reticentref03_Lex.l6.partial_correctness a0) ?_ _ h) ⟨rfl, rfl, rfl, rfl, trivial⟩ rfl
                  clear h
                  intro f' ih v240 h
                  refine wSeq ?_
                  obtain ⟨o4, h, hk4⟩ := bd h
                  refine wJ1 (fun x244 => x244 = o4) (fun x244 => [(0, .d (kS.sig a0)), (2, .p 2 0), (3, .v 1003), (4, .d ((kI .i64).sig v240)), (46, .d (kB.sig x244))]) (fun x244 => [.row 1003 94 (kR f_api_Tok) v168, .box 2 96 [.d (kL (kR f_api_Tok)) [], .d (kI .i64) 0, .d (kI .i64) 0]]) ?_ ?_
                  · rcases ic h with ⟨hp245, h⟩ | ⟨hp245, h⟩
                    · obtain ⟨hc246, h⟩ := ib h
                      refine rg (cp (oMv tm) (s1 rfl) <| cp (oMv tm) (s1 rfl) <| cp (oLenS u9 tm) (s1 rfl) <| cp (oLt rfl tm tm) (s2 rfl rfl) <| cp (oMv tm) (s1 rfl) <| cgB (decide_eq_true hp245) rfl rfl (oMv tm) (s1 rfl) <| cgB (decide_eq_true hp245) rfl rfl (oMv tm) (s1 rfl) <| cgB (decide_eq_true hp245) rfl rfl (oIdxS u9 hc246.1 hc246.2 tm tm) (s2 rfl rfl) <| cgB (decide_eq_true hp245) rfl rfl (oNe rfl tm (cI (by decide))) (s1 rfl) <| cp (oPkT (decide_eq_true hp245) tm tm) (s2 rfl rfl) <| .nil) (by kernel_rfl) ?_
                      exact pJ1 _ (so h) ⟨rfl, rfl, rfl, rfl, rfl, trivial⟩ rfl
                    · refine rg (cp (oMv tm) (s1 rfl) <| cp (oMv tm) (s1 rfl) <| cp (oLenS u9 tm) (s1 rfl) <| cp (oLt rfl tm tm) (s2 rfl rfl) <| cp (oMv tm) (s1 rfl) <| csB (decide_eq_false hp245) rfl rfl <| csB (decide_eq_false hp245) rfl rfl <| csB (decide_eq_false hp245) rfl rfl <| csB (decide_eq_false hp245) rfl rfl <| cp (oPkF (decide_eq_false hp245) tm cB) (s1 rfl) <| .nil) (by kernel_rfl) ?_
                      exact pJ1 _ (so h) ⟨rfl, rfl, rfl, rfl, rfl, trivial⟩ rfl
                  · rintro x244 rfl
                    replace h := hk4
                    rcases ic h with ⟨hp247, h⟩ | ⟨hp247, h⟩
                    · refine wBT hp247 tm (s1 rfl) ?_
                      refine wSkip ?_
                      refine pSeq ?_
                      refine wBlock ?_
                      refine rg (cp (oMv tm) (s1 rfl) <| cp (oAdd tm (cI (by decide))) (s1 rfl) <| cp (oAs tm) (s1 rfl) <| .nil) (by kernel_rfl) ?_
                      refine pBlkN ?_
                      exact pLoop (lW (ih _ h) ⟨rfl, rfl, rfl, rfl, trivial⟩ rfl)
                    · refine wBF hp247 tm (s1 rfl) ?_
                      refine wExit ?_
                      refine pThenX ?_
                      refine pThenX ?_
                      refine pBlkX ?_
                      exact pJ1 _ (so h) ⟨rfl, rfl, rfl, rfl, trivial⟩ rfl
                · rintro x241 rfl
                  replace h := hk3
                  refine wExit ?_
                  refine pThenX ?_
                  refine pBlkX ?_
                  exact pJ2 _ _ (so h) ⟨rfl, rfl, rfl, rfl, trivial⟩ rfl
              · refine wCF hp227 tm (s1 rfl) ?_
                refine wSkip ?_
                refine pSeq ?_
                refine wSeq ?_
                obtain ⟨y248, hy248, h⟩ := bd h
                refine rg (cp (oMv tm) (s1 rfl) <| cp (oMv tm) (s1 rfl) <| cp (oCall rfl (reticentref03_end.ok hy248) b122 (opds_cons tm (opds_cons tm opds_nil))) (s2 rfl rfl) <| cp (oAs tm) (s1 rfl) <| .nil) (by kernel_rfl) ?_
                refine pSeq ?_
                refine wSeq ?_
                refine wSeq ?_
                refine rg (cp (oMv tm) (s1 rfl) <| cp (oMv tm) (s1 rfl) <| cp (oEq rfl tm tm) (s2 rfl rfl) <| .nil) (by kernel_rfl) ?_
                refine pSeq ?_
                rcases ic h with ⟨hp249, h⟩ | ⟨hp249, h⟩
                · refine wCT hp249 tm (s1 rfl) ?_
                  refine wSeq ?_
                  refine rg (cp (oMv tm) (s1 rfl) <| cp (oBuild (fs := f_reticentref03_R) (u := ⟨[], v169, 4⟩) rfl ze96 pl96 po96 (.ze (zc := [(.slice none 0 0)]) zL (.op (zc := [(.int .i64 0)]) tm rfl (.op (zc := [(.int .i64 0)]) (cI (by decide)) rfl .nil)))) (s1 rfl) <| cwn (oStA (n := 1) (fs := f_reticentref03_R) rfl rfl z96 tm tm) (s2 rfl rfl) <| .nil) (by kernel_rfl) ?_
                  refine pSeq ?_
                  refine wRet ?_
                  refine pThenR ?_
                  refine pBlkR ?_
                  refine pThenR ?_
                  obtain rfl := so h
                  replace h := hk2
                  refine pThenR ?_
                  refine pBlkR ?_
                  refine pThenR ?_
                  obtain rfl := so h
                  replace h := hk1
                  obtain rfl := so h
                  exact pR1 (.inl rfl) rfl (.box (n := 1) (fs := f_reticentref03_R) (u := ⟨[], v169, 4⟩) rfl rfl ⟨rfl, rfl, rfl, trivial⟩ t96 <| .nil)
                · refine wCF hp249 tm (s1 rfl) ?_
                  refine wSkip ?_
                  refine pSeq ?_
                  refine wSeq ?_
                  obtain ⟨hc250, h⟩ := ib h
                  obtain ⟨y251, hy251, h⟩ := bd h
                  obtain ⟨hc252, h⟩ := ib h
                  obtain ⟨hc253, h⟩ := ib h
                  refine rgD hm (cp (oMv tm) (s1 rfl) <| cp (oMv tm) (s1 rfl) <| cp (oMv tm) (s1 rfl) <| cp (oIdxS u9 hc250.1 hc250.2 tm tm) (s2 rfl rfl) <| cp (oCall rfl (reticentref03_kind.ok hy251) b123 (opds_cons tm opds_nil)) (s1 rfl) <| cp (oMv tm) (s1 rfl) <| cp (oMv tm) (s1 rfl) <| cp (oMv tm) (s1 rfl) <| cp (oCutS u9 hc252.1 hc252.2.1 hc252.2.2 tm tm tm) (s3 rfl rfl rfl) <| cp (oMv tm) (s1 rfl) <| cp (oBuild (fs := f_api_Tok) (u := ⟨y251, sCut a0 v169 y248, v169⟩) rfl ze94 pl94 po94 (.op (zc := [(.int .i64 0)]) tm rfl (.op (zc := [(.string ⟨⟨[]⟩⟩)]) tm rfl (.op (zc := [(.int .i64 0)]) tm rfl .nil)))) (s3 rfl rfl rfl) <| cp (oLit (d := (kR f_api_Tok)) el89 (by decide) rfl rfl rfl (e1 tm e0)) (s1 rfl) <| cw (oApp (n := 0) (id' := 69) el89 (by decide) rfl (by decide) hc253 tm tm) (s2 rfl rfl) <| cp (oAs tm) (s1 rfl) <| .nil) (by kernel_rfl) (by kernel_rfl) ?_
                  refine pSeq ?_
                  refine rg (cp (oMv tm) (s1 rfl) <| cp (oAs tm) (s1 rfl) <| .nil) (by kernel_rfl) ?_
                  refine pBlkN ?_
                  refine pSub (Γ' := [(0, .d (kS.sig a0)), (2, .p 2 0), (3, .v 69), (4, .d ((kI .i64).sig y248))]) ⟨rfl, rfl, rfl, rfl, trivial⟩ ?_
                  refine pRen 69 1003 rfl ?_
                  exact pJ2 _ _ (so h) ⟨rfl, rfl, rfl, rfl, trivial⟩ rfl
        · rintro x212 x213 rfl
          replace h := hk2
          exact pLoop (lW (ih _ _ h) ⟨rfl, rfl, rfl, rfl, trivial⟩ rfl)
      · refine wCF hp171 tm (s1 rfl) ?_
        refine wExit ?_
        refine pThenX ?_
        refine pThenX ?_
        refine pBlkX ?_
        exact pJ1 _ (so h) ⟨rfl, rfl, rfl, trivial⟩ rfl
    · rintro x170 rfl
      replace h := hk1
      refine wSeq ?_
      obtain ⟨hc254, h⟩ := ib h
      refine rg (cp (oMv tm) (s1 rfl) <| cp (oMv tm) (s1 rfl) <| cp (oLenS u9 tm) (s1 rfl) <| cp (oBuild (fs := f_api_Tok) (u := ⟨0, [], (a0.length : Int)⟩) rfl ze94 pl94 po94 (.ze (zc := [(.int .i64 0)]) zI_i64 (.ze (zc := [(.string ⟨⟨[]⟩⟩)]) zS (.op (zc := [(.int .i64 0)]) tm rfl .nil)))) (s1 rfl) <| cp (oLit (d := (kR f_api_Tok)) el89 (by decide) rfl rfl rfl (e1 tm e0)) (s1 rfl) <| cw (oApp (n := 0) (id' := 76) el89 (by decide) rfl (by decide) hc254 tm tm) (s2 rfl rfl) <| cp (oAs tm) (s1 rfl) <| .nil) (by kernel_rfl) ?_
      refine pSeq ?_
      refine wSeq ?_
      refine wSeq ?_
      refine rg (cp (oMv tm) (s1 rfl) <| cr (oLenR (n := 0) u89 rfl tm) (s1 rfl) <| cp (oGt rfl tm (cI (by decide))) (s1 rfl) <| .nil) (by kernel_rfl) ?_
      refine pSeq ?_
      rcases ic h with ⟨hp255, h⟩ | ⟨hp255, h⟩
      · refine wCT hp255 tm (s1 rfl) ?_
        refine wSeq ?_
        refine rg (cp (oBuild (fs := f_reticentref03_R) (u := ⟨[], 0, 8⟩) rfl ze96 pl96 po96 (.ze (zc := [(.slice none 0 0)]) zL (.ze (zc := [(.int .i64 0)]) zI_i64 (.op (zc := [(.int .i64 0)]) (cI (by decide)) rfl .nil)))) trivial <| cwn (oStA (n := 1) (fs := f_reticentref03_R) rfl rfl z96 tm tm) (s2 rfl rfl) <| .nil) (by kernel_rfl) ?_
        refine pSeq ?_
        refine wRet ?_
        refine pThenR ?_
        obtain rfl := so h
        exact pR1 (.inl rfl) rfl (.box (n := 1) (fs := f_reticentref03_R) (u := ⟨[], 0, 8⟩) rfl rfl ⟨rfl, rfl, rfl, trivial⟩ t96 <| .nil)
      · refine wCF hp255 tm (s1 rfl) ?_
        refine wSkip ?_
        refine pSeq ?_
        refine wSeq ?_
        refine wFrzR (n := 0) (id := 76) [3, 76, 77] rfl rfl ⟨rfl, rfl, rfl, trivial⟩ ?_
        refine rg (cp (oMv tm) (s1 rfl) <| cp (oBuild (fs := f_reticentref03_R) (u := ⟨x170 ++ ([(⟨0, [], (a0.length : Int)⟩ : api_Tok)] : List api_Tok), 0, 0⟩) rfl ze96 pl96 po96 (.op (zc := [(.slice none 0 0)]) tm rfl (.ze (zc := [(.int .i64 0)]) zI_i64 (.ze (zc := [(.int .i64 0)]) zI_i64 .nil)))) (s1 rfl) <| cwn (oStA (n := 0) (fs := f_reticentref03_R) rfl rfl z96 tm tm) (s2 rfl rfl) <| .nil) (by kernel_rfl) ?_
        refine pSeq ?_
        refine wRet ?_
        obtain rfl := so h
        exact pR1 (.inl rfl) rfl (.box (n := 0) (fs := f_reticentref03_R) (u := ⟨x170 ++ ([(⟨0, [], (a0.length : Int)⟩ : api_Tok)] : List api_Tok), 0, 0⟩) rfl rfl ⟨rfl, rfl, rfl, trivial⟩ t96 <| .nil)
theorem reticentref09_here.ok {a0 : List api_Tok} {a1 : reticentref09_P} {a2 : Int} {a3 : Str} {r : Bool} (h : reticentref09_here.f a0 a1 a2 a3 = some r) : FnA Tryz.prog 222 [(kL (kR f_api_Tok)).sig a0, (kR f_reticentref09_P).sig a1, (kI .i64).sig a2, kS.sig a3] (kB.sig r) := by
  refine fnIntro Tryz.func222 rfl (by kernel_rfl) fun H0 w0 => ?_
  unfold reticentref09_here.f at h
  refine wSeq ?_
  refine rg (cp (oBox tm) (s1 rfl) <| cp (oAs cB) trivial <| .nil) (by kernel_rfl) ?_
  refine pSeq ?_
  obtain ⟨o1, h, hk1⟩ := bd h
  refine wJ1 (fun x5 => x5 = o1) (fun x5 => [(8, .d (kB.sig x5))]) (fun x5 => []) ?_ ?_
  · rcases ic h with ⟨hp6, h⟩ | ⟨hp6, h⟩
    · obtain ⟨y7, hy7, h⟩ := bd h
      rcases ic h with ⟨hp8, h⟩ | ⟨hp8, h⟩
      · obtain ⟨y9, hy9, h⟩ := bd h
        refine rg (cp (oFld (fs := f_reticentref09_P) (k := 2) rfl o184_2 tm) (s1 rfl) <| cp (oLd t34 tm) (s1 rfl) <| cp (oEq rfl tm (cI (by decide))) (s1 rfl) <| cp (oMv tm) (s1 rfl) <| cgB (decide_eq_true hp6) rfl rfl (oMv tm) (s1 rfl) <| cgB (decide_eq_true hp6) rfl rfl (oFld (fs := f_reticentref09_P) (k := 0) rfl o184_0 tm) (s1 rfl) <| cgB (decide_eq_true hp6) rfl rfl (oLd t3 tm) (s1 rfl) <| cgB (decide_eq_true hp6) rfl rfl (oIdx u89 z94 hy7 tm tm) (s2 rfl rfl) <| cgB (decide_eq_true hp6) rfl rfl (oFld (fs := f_api_Tok) (k := 0) rfl o94_0 tm) (s1 rfl) <| cgB (decide_eq_true hp6) rfl rfl (oLd t3 tm) (s1 rfl) <| cgB (decide_eq_true hp6) rfl rfl (oMv tm) (s1 rfl) <| cgB (decide_eq_true hp6) rfl rfl (oEq rfl tm tm) (s2 rfl rfl) <| cp (oPkT (decide_eq_true hp6) tm tm) (s2 rfl rfl) <| cp (oMv tm) (s1 rfl) <| cgB (decide_eq_true hp8) rfl rfl (oMv tm) (s1 rfl) <| cgB (decide_eq_true hp8) rfl rfl (oFld (fs := f_reticentref09_P) (k := 0) rfl o184_0 tm) (s1 rfl) <| cgB (decide_eq_true hp8) rfl rfl (oLd t3 tm) (s1 rfl) <| cgB (decide_eq_true hp8) rfl rfl (oIdx u89 z94 hy9 tm tm) (s2 rfl rfl) <| cgB (decide_eq_true hp8) rfl rfl (oFld (fs := f_api_Tok) (k := 1) rfl o94_1 tm) (s1 rfl) <| cgB (decide_eq_true hp8) rfl rfl (oLd t9 tm) (s1 rfl) <| cgB (decide_eq_true hp8) rfl rfl (oMv tm) (s1 rfl) <| cgB (decide_eq_true hp8) rfl rfl (oSEq rfl tm tm) (s2 rfl rfl) <| cp (oPkT (decide_eq_true hp8) tm tm) (s2 rfl rfl) <| cp (oAs tm) (s1 rfl) <| .nil) (by kernel_rfl) ?_
        exact pJ1 _ (so h) ⟨rfl, trivial⟩ rfl
      · refine rg (cp (oFld (fs := f_reticentref09_P) (k := 2) rfl o184_2 tm) (s1 rfl) <| cp (oLd t34 tm) (s1 rfl) <| cp (oEq rfl tm (cI (by decide))) (s1 rfl) <| cp (oMv tm) (s1 rfl) <| cgB (decide_eq_true hp6) rfl rfl (oMv tm) (s1 rfl) <| cgB (decide_eq_true hp6) rfl rfl (oFld (fs := f_reticentref09_P) (k := 0) rfl o184_0 tm) (s1 rfl) <| cgB (decide_eq_true hp6) rfl rfl (oLd t3 tm) (s1 rfl) <| cgB (decide_eq_true hp6) rfl rfl (oIdx u89 z94 hy7 tm tm) (s2 rfl rfl) <| cgB (decide_eq_true hp6) rfl rfl (oFld (fs := f_api_Tok) (k := 0) rfl o94_0 tm) (s1 rfl) <| cgB (decide_eq_true hp6) rfl rfl (oLd t3 tm) (s1 rfl) <| cgB (decide_eq_true hp6) rfl rfl (oMv tm) (s1 rfl) <| cgB (decide_eq_true hp6) rfl rfl (oEq rfl tm tm) (s2 rfl rfl) <| cp (oPkT (decide_eq_true hp6) tm tm) (s2 rfl rfl) <| cp (oMv tm) (s1 rfl) <| csB (decide_eq_false hp8) rfl rfl <| csB (decide_eq_false hp8) rfl rfl <| csB (decide_eq_false hp8) rfl rfl <| csB (decide_eq_false hp8) rfl rfl <| csB (decide_eq_false hp8) rfl rfl <| csB (decide_eq_false hp8) rfl rfl <| csB (decide_eq_false hp8) rfl rfl <| csB (decide_eq_false hp8) rfl rfl <| cp (oPkF (decide_eq_false hp8) tm cB) (s1 rfl) <| cp (oAs tm) (s1 rfl) <| .nil) (by kernel_rfl) ?_
        exact pJ1 _ (so h) ⟨rfl, trivial⟩ rfl
    · refine rg (cp (oFld (fs := f_reticentref09_P) (k := 2) rfl o184_2 tm) (s1 rfl) <| cp (oLd t34 tm) (s1 rfl) <| cp (oEq rfl tm (cI (by decide))) (s1 rfl) <| cp (oMv tm) (s1 rfl) <| csB (decide_eq_false hp6) rfl rfl <| csB (decide_eq_false hp6) rfl rfl <| csB (decide_eq_false hp6) rfl rfl <| csB (decide_eq_false hp6) rfl rfl <| csB (decide_eq_false hp6) rfl rfl <| csB (decide_eq_false hp6) rfl rfl <| csB (decide_eq_false hp6) rfl rfl <| csB (decide_eq_false hp6) rfl rfl <| cp (oPkF (decide_eq_false hp6) tm cB) (s1 rfl) <| cp (oMv tm) (s1 rfl) <| csB rfl rfl rfl <| csB rfl rfl rfl <| csB rfl rfl rfl <| csB rfl rfl rfl <| csB rfl rfl rfl <| csB rfl rfl rfl <| csB rfl rfl rfl <| csB rfl rfl rfl <| cp (oPkF rfl tm cB) (s1 rfl) <| cp (oAs tm) (s1 rfl) <| .nil) (by kernel_rfl) ?_
      exact pJ1 _ (so h) ⟨rfl, trivial⟩ rfl
  · rintro x5 rfl
    replace h := hk1
    refine wRet ?_
    obtain rfl := so h
    exact pR1 (.inl rfl) rfl (.tmp rfl <| .nil)
theorem reticentref09_must.ok {a0 : List api_Tok} {a1 : reticentref09_P} {a2 : Int} {a3 : Str} {r : reticentref09_P} (h : reticentref09_must.f a0 a1 a2 a3 = some r) : FnA Tryz.prog 124 [(kL (kR f_api_Tok)).sig a0, (kR f_reticentref09_P).sig a1, (kI .i64).sig a2, kS.sig a3] ((kR f_reticentref09_P).sig r) := by
  refine fnIntro Tryz.func124 rfl (by kernel_rfl) fun H0 w0 => ?_
  unfold reticentref09_must.f at h
  refine wSeq ?_
  refine rg (cw (oBoxP (id := 5) (d := (kR f_reticentref09_P)) (ls := [.d (kI .i64) a1.I, .d (kI .i64) a1.A.V, .d (kI .i64) a1.A.L, .d (kI .i64) a1.E]) (lfS (lfC lf1 (lfC (lfS (lfC lf1 (lfC lf1 lfN))) (lfC lf1 lfN)))) rfl tm) (s1 rfl) <| cw (oAlloc (id := 8) (ls := [.d (kI .i64) 0, .d (kI .i64) 0, .d (kI .i64) 0, .d (kI .i64) 0]) ze184 (fun g => ⟨[(.int .i64 0)], _, rfl, zI_i64 g.H, ⟨[(.int .i64 0)], _, rfl, zI_i64 g.H, ⟨[(.int .i64 0)], _, rfl, zI_i64 g.H, ⟨[(.int .i64 0)], _, rfl, zI_i64 g.H, rfl⟩⟩⟩⟩)) trivial <| .nil) (by kernel_rfl) ?_
  refine pSeq ?_
  refine wSeq ?_
  refine wSeq ?_
  refine rg (cp (oFldP o184_2 tm) (s1 rfl) <| cr (oLdB (n := 1) (k := 3) rfl rfl rfl t34 tm) (s1 rfl) <| cp (oNe rfl tm (cI (by decide))) (s1 rfl) <| .nil) (by kernel_rfl) ?_
  refine pSeq ?_
  rcases ic h with ⟨hp1, h⟩ | ⟨hp1, h⟩
  · refine wNT hp1 tm (s1 rfl) ?_
    refine wSkip ?_
    refine pSeq ?_
    refine wSeq ?_
    refine wSeq ?_
    obtain ⟨y2, hy2, h⟩ := bd h
    refine rg (cp (oMv tm) (s1 rfl) <| cr (oLdP (n := 1) (k := 0) (m := 4) (d := (kR f_reticentref09_P)) (u := a1) (lfS (lfC lf1 (lfC (lfS (lfC lf1 (lfC lf1 lfN))) (lfC lf1 lfN)))) rfl rfl rfl t184 tm) (s1 rfl) <| cp (oMv tm) (s1 rfl) <| cp (oMv tm) (s1 rfl) <| cp (oCall rfl (reticentref09_here.ok hy2) b222 (opds_cons tm (opds_cons tm (opds_cons tm (opds_cons tm opds_nil))))) ⟨rfl, rfl, rfl, rfl, trivial⟩ <| cp (oNot tm) (s1 rfl) <| .nil) (by kernel_rfl) ?_
    refine pSeq ?_
    rcases ic h with ⟨hp3, h⟩ | ⟨hp3, h⟩
    · refine wBT hp3 tm (s1 rfl) ?_
      refine wSeq ?_
      refine rg (cp (oFldP o184_2 tm) (s1 rfl) <| cwn (oSt (n := 1) (k := 3) rfl rfl rfl rfl z34 tm (cI (by decide))) (s1 rfl) <| .nil) (by kernel_rfl) ?_
      refine pSeq ?_
      refine wSeq ?_
      refine rg (cr (oLdP (n := 1) (k := 0) (m := 4) (d := (kR f_reticentref09_P)) (u := (⟨a1.I, a1.A, 4⟩ : reticentref09_P)) (lfS (lfC lf1 (lfC (lfS (lfC lf1 (lfC lf1 lfN))) (lfC lf1 lfN)))) rfl rfl rfl t184 tm) (s1 rfl) <| cwn (oStP (n := 0) (k := 0) (m := 4) (d := (kR f_reticentref09_P)) (u := (⟨a1.I, a1.A, 4⟩ : reticentref09_P)) (lfS (lfC lf1 (lfC (lfS (lfC lf1 (lfC lf1 lfN))) (lfC lf1 lfN)))) rfl rfl rfl z184 tm tm) (s2 rfl rfl) <| .nil) (by kernel_rfl) ?_
      refine pSeq ?_
      refine wRet ?_
      refine pThenR ?_
      obtain rfl := so h
      exact pR1 (.inl rfl) rfl (.boxP (n := 0) (d := (kR f_reticentref09_P)) (u := (⟨a1.I, a1.A, 4⟩ : reticentref09_P)) rfl rfl (lfS (lfC lf1 (lfC (lfS (lfC lf1 (lfC lf1 lfN))) (lfC lf1 lfN)))) rfl t184 <| .nil)
    · refine wBF hp3 tm (s1 rfl) ?_
      refine wSkip ?_
      refine pSeq ?_
      refine wSeq ?_
      refine rg (cp (oFldP o184_0 tm) (s1 rfl) <| cr (oLdB (n := 1) (k := 0) rfl rfl rfl t3 tm) (s1 rfl) <| cp (oAdd tm (cI (by decide))) (s1 rfl) <| cp (oFldP o184_0 tm) (s1 rfl) <| cwn (oSt (n := 1) (k := 0) rfl rfl rfl rfl z3 tm tm) (s2 rfl rfl) <| .nil) (by kernel_rfl) ?_
      refine pSeq ?_
      refine wSeq ?_
      refine rg (cr (oLdP (n := 1) (k := 0) (m := 4) (d := (kR f_reticentref09_P)) (u := (⟨IntKind.i64.wrap (a1.I + 1), a1.A, a1.E⟩ : reticentref09_P)) (lfS (lfC lf1 (lfC (lfS (lfC lf1 (lfC lf1 lfN))) (lfC lf1 lfN)))) rfl rfl rfl t184 tm) (s1 rfl) <| cwn (oStP (n := 0) (k := 0) (m := 4) (d := (kR f_reticentref09_P)) (u := (⟨IntKind.i64.wrap (a1.I + 1), a1.A, a1.E⟩ : reticentref09_P)) (lfS (lfC lf1 (lfC (lfS (lfC lf1 (lfC lf1 lfN))) (lfC lf1 lfN)))) rfl rfl rfl z184 tm tm) (s2 rfl rfl) <| .nil) (by kernel_rfl) ?_
      refine pSeq ?_
      refine wRet ?_
      obtain rfl := so h
      exact pR1 (.inl rfl) rfl (.boxP (n := 0) (d := (kR f_reticentref09_P)) (u := (⟨IntKind.i64.wrap (a1.I + 1), a1.A, a1.E⟩ : reticentref09_P)) rfl rfl (lfS (lfC lf1 (lfC (lfS (lfC lf1 (lfC lf1 lfN))) (lfC lf1 lfN)))) rfl t184 <| .nil)
  · refine wNF hp1 tm (s1 rfl) ?_
    refine wSeq ?_
    refine rg (cr (oLdP (n := 1) (k := 0) (m := 4) (d := (kR f_reticentref09_P)) (u := a1) (lfS (lfC lf1 (lfC (lfS (lfC lf1 (lfC lf1 lfN))) (lfC lf1 lfN)))) rfl rfl rfl t184 tm) (s1 rfl) <| cwn (oStP (n := 0) (k := 0) (m := 4) (d := (kR f_reticentref09_P)) (u := a1) (lfS (lfC lf1 (lfC (lfS (lfC lf1 (lfC lf1 lfN))) (lfC lf1 lfN)))) rfl rfl rfl z184 tm tm) (s2 rfl rfl) <| .nil) (by kernel_rfl) ?_
    refine pSeq ?_
    refine wRet ?_
    refine pThenR ?_
    obtain rfl := so h
    exact pR1 (.inl rfl) rfl (.boxP (n := 0) (d := (kR f_reticentref09_P)) (u := a1) rfl rfl (lfS (lfC lf1 (lfC (lfS (lfC lf1 (lfC lf1 lfN))) (lfC lf1 lfN)))) rfl t184 <| .nil)
theorem reticentref08_Int.ok {a0 : List api_Tok} {a1 : reticentref08_P} {r : reticentref08_P} (h : reticentref08_Int.f a0 a1 = some r) : FnA Tryz.prog 223 [(kL (kR f_api_Tok)).sig a0, (kR f_reticentref08_P).sig a1] ((kR f_reticentref08_P).sig r) := by
  refine fnIntro Tryz.func223 rfl (by kernel_rfl) fun H0 w0 => ?_
  unfold reticentref08_Int.f at h
  refine wSeq ?_
  refine rg (cw (oBoxP (id := 3) (d := (kR f_reticentref08_P)) (ls := [.d (kI .i64) a1.I, .d (kI .i64) a1.N, .d (kI .i64) a1.X.Op, .d (kI .i64) a1.X.N, .d (kI .i64) a1.X.L, .d (kI .i64) a1.E]) (lfS (lfC lf1 (lfC lf1 (lfC (lfS (lfC lf1 (lfC lf1 (lfC lf1 lfN)))) (lfC lf1 lfN))))) rfl tm) (s1 rfl) <| cw (oAlloc (id := 4) (ls := [.d (kI .i64) 0, .d (kI .i64) 0, .d (kI .i64) 0, .d (kI .i64) 0, .d (kI .i64) 0, .d (kI .i64) 0]) ze287 (fun g => ⟨[(.int .i64 0)], _, rfl, zI_i64 g.H, ⟨[(.int .i64 0)], _, rfl, zI_i64 g.H, ⟨[(.int .i64 0)], _, rfl, zI_i64 g.H, ⟨[(.int .i64 0)], _, rfl, zI_i64 g.H, ⟨[(.int .i64 0)], _, rfl, zI_i64 g.H, ⟨[(.int .i64 0)], _, rfl, zI_i64 g.H, rfl⟩⟩⟩⟩⟩⟩)) trivial <| .nil) (by kernel_rfl) ?_
  refine pSeq ?_
  refine wSeq ?_
  refine wSeq ?_
  refine rg (cp (oFldP o287_3 tm) (s1 rfl) <| cr (oLdB (n := 1) (k := 5) rfl rfl rfl t34 tm) (s1 rfl) <| cp (oNe rfl tm (cI (by decide))) (s1 rfl) <| .nil) (by kernel_rfl) ?_
  refine pSeq ?_
  rcases ic h with ⟨hp1, h⟩ | ⟨hp1, h⟩
  · refine wNT hp1 tm (s1 rfl) ?_
    refine wSkip ?_
    refine pSeq ?_
    obtain ⟨o1, h, hk1⟩ := bd h
    refine wJ1 (fun x5 => x5 = o1) (fun x5 => [(0, .d ((kL (kR f_api_Tok)).sig a0)), (3, .p 3 0), (4, .p 4 0), (5, .d (kB.sig x5))]) (fun x5 => [.box 4 287 [.d (kI .i64) 0, .d (kI .i64) 0, .d (kI .i64) 0, .d (kI .i64) 0, .d (kI .i64) 0, .d (kI .i64) 0], .box 3 287 [.d (kI .i64) a1.I, .d (kI .i64) a1.N, .d (kI .i64) a1.X.Op, .d (kI .i64) a1.X.N, .d (kI .i64) a1.X.L, .d (kI .i64) a1.E]]) ?_ ?_
    · obtain ⟨y6, hy6, h⟩ := bd h
      rcases ic h with ⟨hp7, h⟩ | ⟨hp7, h⟩
      · obtain ⟨y8, hy8, h⟩ := bd h
        refine rg (cp (oMv tm) (s1 rfl) <| cp (oFldP o287_0 tm) (s1 rfl) <| cr (oLdB (n := 1) (k := 0) rfl rfl rfl t3 tm) (s1 rfl) <| cp (oIdx u89 z94 hy6 tm tm) (s2 rfl rfl) <| cp (oFld (fs := f_api_Tok) (k := 0) rfl o94_0 tm) (s1 rfl) <| cp (oLd t3 tm) (s1 rfl) <| cp (oEq rfl tm (cI (by decide))) (s1 rfl) <| cp (oMv tm) (s1 rfl) <| cgB (decide_eq_true hp7) rfl rfl (oMv tm) (s1 rfl) <| cgB (decide_eq_true hp7) rfl rfl (oFldP o287_0 tm) (s1 rfl) <| crgB (decide_eq_true hp7) rfl rfl (oLdB (n := 1) (k := 0) rfl rfl rfl t3 tm) (s1 rfl) <| cgB (decide_eq_true hp7) rfl rfl (oIdx u89 z94 hy8 tm tm) (s2 rfl rfl) <| cgB (decide_eq_true hp7) rfl rfl (oFld (fs := f_api_Tok) (k := 1) rfl o94_1 tm) (s1 rfl) <| cgB (decide_eq_true hp7) rfl rfl (oLd t9 tm) (s1 rfl) <| cgB (decide_eq_true hp7) rfl rfl (oSEq rfl tm (cS (by decide))) (s1 rfl) <| cp (oPkT (decide_eq_true hp7) tm tm) (s2 rfl rfl) <| cp (oAs tm) (s1 rfl) <| .nil) (by kernel_rfl) ?_
        exact pJ1 _ (so h) ⟨rfl, rfl, rfl, rfl, trivial⟩ rfl
      · refine rg (cp (oMv tm) (s1 rfl) <| cp (oFldP o287_0 tm) (s1 rfl) <| cr (oLdB (n := 1) (k := 0) rfl rfl rfl t3 tm) (s1 rfl) <| cp (oIdx u89 z94 hy6 tm tm) (s2 rfl rfl) <| cp (oFld (fs := f_api_Tok) (k := 0) rfl o94_0 tm) (s1 rfl) <| cp (oLd t3 tm) (s1 rfl) <| cp (oEq rfl tm (cI (by decide))) (s1 rfl) <| cp (oMv tm) (s1 rfl) <| csB (decide_eq_false hp7) rfl rfl <| csB (decide_eq_false hp7) rfl rfl <| csB (decide_eq_false hp7) rfl rfl <| csB (decide_eq_false hp7) rfl rfl <| csB (decide_eq_false hp7) rfl rfl <| csB (decide_eq_false hp7) rfl rfl <| csB (decide_eq_false hp7) rfl rfl <| cp (oPkF (decide_eq_false hp7) tm cB) (s1 rfl) <| cp (oAs tm) (s1 rfl) <| .nil) (by kernel_rfl) ?_
        exact pJ1 _ (so h) ⟨rfl, rfl, rfl, rfl, trivial⟩ rfl
    · rintro x5 rfl
      replace h := hk1
      refine wSeq ?_
      refine wSeq ?_
      refine rg (cp (oMv tm) (s1 rfl) <| .nil) (by kernel_rfl) ?_
      refine pSeq ?_
      rcases ic h with ⟨hp9, h⟩ | ⟨hp9, h⟩
      · refine wBT hp9 tm (s1 rfl) ?_
        refine rg (cp (oFldP o287_0 tm) (s1 rfl) <| cr (oLdB (n := 1) (k := 0) rfl rfl rfl t3 tm) (s1 rfl) <| cp (oAdd tm (cI (by decide))) (s1 rfl) <| cp (oFldP o287_0 tm) (s1 rfl) <| cwn (oSt (n := 1) (k := 0) rfl rfl rfl rfl z3 tm tm) (s2 rfl rfl) <| .nil) (by kernel_rfl) ?_
        refine pSeq ?_
        refine wSeq ?_
        obtain ⟨y10, hy10, h⟩ := bd h
        refine rg (cp (oMv tm) (s1 rfl) <| cp (oFldP o287_0 tm) (s1 rfl) <| cr (oLdB (n := 1) (k := 0) rfl rfl rfl t3 tm) (s1 rfl) <| cp (oIdx u89 z94 hy10 tm tm) (s2 rfl rfl) <| cp (oLd t94 tm) (s1 rfl) <| cw (oAlloc (id := 6) (ls := [.d (kI .i64) 0, .d kS [], .d (kI .i64) 0]) ze94 (fun g => ⟨[(.int .i64 0)], _, rfl, zI_i64 g.H, ⟨[(.string ⟨⟨[]⟩⟩)], _, rfl, zS g.H, ⟨[(.int .i64 0)], _, rfl, zI_i64 g.H, rfl⟩⟩⟩)) trivial <| cwn (oStA (n := 0) (fs := f_api_Tok) rfl rfl z94 tm tm) (s2 rfl rfl) <| .nil) (by kernel_rfl) ?_
        refine pSeq ?_
        refine wSeq ?_
        obtain ⟨o1, h, hk1⟩ := bd h
        refine wJ1 (fun x12 => x12 = o1) (fun x12 => [(3, .p 3 0), (4, .p 4 0), (5, .d (kB.sig x5)), (6, .p 6 0), (46, .d (kB.sig x12))]) (fun x12 => [.box 6 94 [.d (kI .i64) y10.Kind, .d kS y10.Text, .d (kI .i64) y10.At], .box 4 287 [.d (kI .i64) 0, .d (kI .i64) 0, .d (kI .i64) 0, .d (kI .i64) 0, .d (kI .i64) 0, .d (kI .i64) 0], .box 3 287 [.d (kI .i64) (IntKind.i64.wrap (a1.I + 1)), .d (kI .i64) a1.N, .d (kI .i64) a1.X.Op, .d (kI .i64) a1.X.N, .d (kI .i64) a1.X.L, .d (kI .i64) a1.E]]) ?_ ?_
        · rcases ic h with ⟨hp13, h⟩ | ⟨hp13, h⟩
          · refine rg (cp (oFldP o94_0 tm) (s1 rfl) <| cr (oLdB (n := 0) (k := 0) rfl rfl rfl t3 tm) (s1 rfl) <| cp (oNe rfl tm (cI (by decide))) (s1 rfl) <| cp (oMv tm) (s1 rfl) <| cgB (nf hp13) rfl rfl (oFldP o94_1 tm) (s1 rfl) <| crgB (nf hp13) rfl rfl (oLdB (n := 0) (k := 1) rfl rfl rfl t9 tm) (s1 rfl) <| cgB (nf hp13) rfl rfl (oLenS u9 tm) (s1 rfl) <| cgB (nf hp13) rfl rfl (oGt rfl tm (cI (by decide))) (s1 rfl) <| cp (oPkF (nf hp13) tm tm) (s2 rfl rfl) <| .nil) (by kernel_rfl) ?_
            exact pJ1 _ (so h) ⟨rfl, rfl, rfl, rfl, rfl, trivial⟩ rfl
          · refine rg (cp (oFldP o94_0 tm) (s1 rfl) <| cr (oLdB (n := 0) (k := 0) rfl rfl rfl t3 tm) (s1 rfl) <| cp (oNe rfl tm (cI (by decide))) (s1 rfl) <| cp (oMv tm) (s1 rfl) <| csB (nt hp13) rfl rfl <| csB (nt hp13) rfl rfl <| csB (nt hp13) rfl rfl <| csB (nt hp13) rfl rfl <| cp (oPkT (nt hp13) tm cB) (s1 rfl) <| .nil) (by kernel_rfl) ?_
            exact pJ1 _ (so h) ⟨rfl, rfl, rfl, rfl, rfl, trivial⟩ rfl
        · rintro x12 rfl
          replace h := hk1
          rcases ic h with ⟨hp14, h⟩ | ⟨hp14, h⟩
          · refine wBT hp14 tm (s1 rfl) ?_
            refine wSeq ?_
            refine rg (cp (oFldP o287_3 tm) (s1 rfl) <| cwn (oSt (n := 2) (k := 5) rfl rfl rfl rfl z34 tm (cI (by decide))) (s1 rfl) <| .nil) (by kernel_rfl) ?_
            refine pSeq ?_
            refine wSeq ?_
            refine rg (cr (oLdP (n := 2) (k := 0) (m := 6) (d := (kR f_reticentref08_P)) (u := (⟨IntKind.i64.wrap (a1.I + 1), a1.N, a1.X, 4⟩ : reticentref08_P)) (lfS (lfC lf1 (lfC lf1 (lfC (lfS (lfC lf1 (lfC lf1 (lfC lf1 lfN)))) (lfC lf1 lfN))))) rfl rfl rfl t287 tm) (s1 rfl) <| cwn (oStP (n := 1) (k := 0) (m := 6) (d := (kR f_reticentref08_P)) (u := (⟨IntKind.i64.wrap (a1.I + 1), a1.N, a1.X, 4⟩ : reticentref08_P)) (lfS (lfC lf1 (lfC lf1 (lfC (lfS (lfC lf1 (lfC lf1 (lfC lf1 lfN)))) (lfC lf1 lfN))))) rfl rfl rfl z287 tm tm) (s2 rfl rfl) <| .nil) (by kernel_rfl) ?_
            refine pSeq ?_
            refine wRet ?_
            refine pThenR ?_
            obtain rfl := so h
            exact pR1 (.inl rfl) rfl (.boxP (n := 1) (d := (kR f_reticentref08_P)) (u := (⟨IntKind.i64.wrap (a1.I + 1), a1.N, a1.X, 4⟩ : reticentref08_P)) rfl rfl (lfS (lfC lf1 (lfC lf1 (lfC (lfS (lfC lf1 (lfC lf1 (lfC lf1 lfN)))) (lfC lf1 lfN))))) rfl t287 <| .nil)
          · refine wBF hp14 tm (s1 rfl) ?_
            refine wSkip ?_
            refine pSeq ?_
            refine wSeq ?_
            refine rg (cp (oFldP o287_1 tm) (s1 rfl) <| cwn (oSt (n := 2) (k := 1) rfl rfl rfl rfl z3 tm (cI (by decide))) (s1 rfl) <| .nil) (by kernel_rfl) ?_
            refine pSeq ?_
            refine wSeq ?_
            refine wSeq ?_
            refine rg (cp (oAs (cI (by decide))) trivial <| .nil) (by kernel_rfl) ?_
            refine pSeq ?_
            obtain ⟨o1, h, hk1⟩ := bd h
            refine wK1 (fun x21 => x21 = o1) (fun x21 => [(3, .p 3 0), (4, .p 4 0), (5, .d (kB.sig x5))]) (fun x21 => [.box 6 94 [.d (kI .i64) y10.Kind, .d kS y10.Text, .d (kI .i64) y10.At], .box 4 287 [.d (kI .i64) 0, .d (kI .i64) 0, .d (kI .i64) 0, .d (kI .i64) 0, .d (kI .i64) 0, .d (kI .i64) 0], .box 3 287 [.d (kI .i64) (IntKind.i64.wrap (a1.I + 1)), .d (kI .i64) x21, .d (kI .i64) a1.X.Op, .d (kI .i64) a1.X.N, .d (kI .i64) a1.X.L, .d (kI .i64) a1.E]]) ?_ ?_
            · refine wBlock (wLoop ?_)
              refine lW (pc2 o1 (fun v19 v20 => [(3, .p 3 0), (4, .p 4 0), (5, .d (kB.sig x5)), (6, .p 6 0), (7, .d ((kI .i64).sig v20))]) (fun v19 v20 => [.box 6 94 [.d (kI .i64) y10.Kind, .d kS y10.Text, .d (kI .i64) y10.At], .box 4 287 [.d (kI .i64) 0, .d (kI .i64) 0, .d (kI .i64) 0, .d (kI .i64) 0, .d (kI .i64) 0, .d (kI .i64) 0], .box 3 287 [.d (kI .i64) (IntKind.i64.wrap (a1.I + 1)), .d (kI .i64) v19, .d (kI .i64) a1.X.Op, .d (kI .i64) a1.X.N, .d (kI .i64) a1.X.L, .d (kI .i64) a1.E]]) (reticentref08_Int.l0.partial_correctness y10) ?_ _ _ h) ⟨rfl, rfl, rfl, rfl, rfl, trivial⟩ rfl
              clear h
              intro f' ih v19 v20 h
              refine wSeq ?_
              refine wSeq ?_
              refine rg (cp (oMv tm) (s1 rfl) <| cp (oFldP o94_1 tm) (s1 rfl) <| cr (oLdB (n := 0) (k := 1) rfl rfl rfl t9 tm) (s1 rfl) <| cp (oLenS u9 tm) (s1 rfl) <| cp (oLt rfl tm tm) (s2 rfl rfl) <| .nil) (by kernel_rfl) ?_
              refine pSeq ?_
              rcases ic h with ⟨hp22, h⟩ | ⟨hp22, h⟩
              · refine wCT hp22 tm (s1 rfl) ?_
                refine wSkip ?_
                refine pSeq ?_
                refine wSeq ?_
                refine wBlock ?_
                obtain ⟨hc23, h⟩ := ib h
                refine rgD hm (cp (oFldP o287_1 tm) (s1 rfl) <| cr (oLdB (n := 2) (k := 1) rfl rfl rfl t3 tm) (s1 rfl) <| cp (oMul (cI (by decide)) tm) (s1 rfl) <| cp (oFldP o94_1 tm) (s1 rfl) <| cr (oLdB (n := 0) (k := 1) rfl rfl rfl t9 tm) (s1 rfl) <| cp (oMv tm) (s1 rfl) <| cp (oIdxS u9 hc23.1 hc23.2 tm tm) (s2 rfl rfl) <| cp (oRem (by decide) tm (cI (by decide))) (s1 rfl) <| cp (oConv u5 u3 tm) (s1 rfl) <| cp (oAdd tm tm) (s2 rfl rfl) <| cp (oFldP o287_1 tm) (s1 rfl) <| cwn (oSt (n := 2) (k := 1) rfl rfl rfl rfl z3 tm tm) (s2 rfl rfl) <| .nil) (by kernel_rfl) (by kernel_rfl) ?_
                refine pBlkN ?_
                refine pSeq ?_
                refine rg (cp (oMv tm) (s1 rfl) <| cp (oAdd tm (cI (by decide))) (s1 rfl) <| cp (oAs tm) (s1 rfl) <| .nil) (by kernel_rfl) ?_
                exact pLoop (lW (ih _ _ h) ⟨rfl, rfl, rfl, rfl, rfl, trivial⟩ rfl)
              · refine wCF hp22 tm (s1 rfl) ?_
                refine wExit ?_
                refine pThenX ?_
                refine pThenX ?_
                refine pBlkX ?_
                exact pJ1 _ (so h) ⟨rfl, rfl, rfl, trivial⟩ rfl
            · rintro x21 rfl
              replace h := hk1
              refine pSeq ?_
              refine wSeq ?_
              refine wSeq ?_
              refine rg (cp (oMv tm) (s1 rfl) <| .nil) (by kernel_rfl) ?_
              refine pSeq ?_
              refine wBT hp9 tm (s1 rfl) ?_
              refine rg (cp (oFldP o287_1 tm) (s1 rfl) <| cr (oLdB (n := 2) (k := 1) rfl rfl rfl t3 tm) (s1 rfl) <| cp (oSub (cI (by decide)) tm) (s1 rfl) <| cp (oFldP o287_1 tm) (s1 rfl) <| cwn (oSt (n := 2) (k := 1) rfl rfl rfl rfl z3 tm tm) (s2 rfl rfl) <| .nil) (by kernel_rfl) ?_
              refine pSeq ?_
              refine wSeq ?_
              refine rg (cp (oFldP o287_0 tm) (s1 rfl) <| cr (oLdB (n := 2) (k := 0) rfl rfl rfl t3 tm) (s1 rfl) <| cp (oAdd tm (cI (by decide))) (s1 rfl) <| cp (oFldP o287_0 tm) (s1 rfl) <| cwn (oSt (n := 2) (k := 0) rfl rfl rfl rfl z3 tm tm) (s2 rfl rfl) <| .nil) (by kernel_rfl) ?_
              refine pSeq ?_
              refine wSeq ?_
              refine rg (cr (oLdP (n := 2) (k := 0) (m := 6) (d := (kR f_reticentref08_P)) (u := (⟨IntKind.i64.wrap ((IntKind.i64.wrap (a1.I + 1)) + 1), IntKind.i64.wrap (0 - x21), a1.X, a1.E⟩ : reticentref08_P)) (lfS (lfC lf1 (lfC lf1 (lfC (lfS (lfC lf1 (lfC lf1 (lfC lf1 lfN)))) (lfC lf1 lfN))))) rfl rfl rfl t287 tm) (s1 rfl) <| cwn (oStP (n := 1) (k := 0) (m := 6) (d := (kR f_reticentref08_P)) (u := (⟨IntKind.i64.wrap ((IntKind.i64.wrap (a1.I + 1)) + 1), IntKind.i64.wrap (0 - x21), a1.X, a1.E⟩ : reticentref08_P)) (lfS (lfC lf1 (lfC lf1 (lfC (lfS (lfC lf1 (lfC lf1 (lfC lf1 lfN)))) (lfC lf1 lfN))))) rfl rfl rfl z287 tm tm) (s2 rfl rfl) <| .nil) (by kernel_rfl) ?_
              refine pSeq ?_
              refine wRet ?_
              obtain rfl := so h
              exact pR1 (.inl rfl) rfl (.boxP (n := 1) (d := (kR f_reticentref08_P)) (u := (⟨IntKind.i64.wrap ((IntKind.i64.wrap (a1.I + 1)) + 1), IntKind.i64.wrap (0 - x21), a1.X, a1.E⟩ : reticentref08_P)) rfl rfl (lfS (lfC lf1 (lfC lf1 (lfC (lfS (lfC lf1 (lfC lf1 (lfC lf1 lfN)))) (lfC lf1 lfN))))) rfl t287 <| .nil)
      · refine wBF hp9 tm (s1 rfl) ?_
        refine wSkip ?_
        refine pSeq ?_
        refine wSeq ?_
        obtain ⟨y24, hy24, h⟩ := bd h
        refine rg (cp (oMv tm) (s1 rfl) <| cp (oFldP o287_0 tm) (s1 rfl) <| cr (oLdB (n := 1) (k := 0) rfl rfl rfl t3 tm) (s1 rfl) <| cp (oIdx u89 z94 hy24 tm tm) (s2 rfl rfl) <| cp (oLd t94 tm) (s1 rfl) <| cw (oAlloc (id := 6) (ls := [.d (kI .i64) 0, .d kS [], .d (kI .i64) 0]) ze94 (fun g => ⟨[(.int .i64 0)], _, rfl, zI_i64 g.H, ⟨[(.string ⟨⟨[]⟩⟩)], _, rfl, zS g.H, ⟨[(.int .i64 0)], _, rfl, zI_i64 g.H, rfl⟩⟩⟩)) trivial <| cwn (oStA (n := 0) (fs := f_api_Tok) rfl rfl z94 tm tm) (s2 rfl rfl) <| .nil) (by kernel_rfl) ?_
        refine pSeq ?_
        refine wSeq ?_
        obtain ⟨o1, h, hk1⟩ := bd h
        refine wJ1 (fun x26 => x26 = o1) (fun x26 => [(3, .p 3 0), (4, .p 4 0), (5, .d (kB.sig x5)), (6, .p 6 0), (46, .d (kB.sig x26))]) (fun x26 => [.box 6 94 [.d (kI .i64) y24.Kind, .d kS y24.Text, .d (kI .i64) y24.At], .box 4 287 [.d (kI .i64) 0, .d (kI .i64) 0, .d (kI .i64) 0, .d (kI .i64) 0, .d (kI .i64) 0, .d (kI .i64) 0], .box 3 287 [.d (kI .i64) a1.I, .d (kI .i64) a1.N, .d (kI .i64) a1.X.Op, .d (kI .i64) a1.X.N, .d (kI .i64) a1.X.L, .d (kI .i64) a1.E]]) ?_ ?_
        · rcases ic h with ⟨hp27, h⟩ | ⟨hp27, h⟩
          · refine rg (cp (oFldP o94_0 tm) (s1 rfl) <| cr (oLdB (n := 0) (k := 0) rfl rfl rfl t3 tm) (s1 rfl) <| cp (oNe rfl tm (cI (by decide))) (s1 rfl) <| cp (oMv tm) (s1 rfl) <| cgB (nf hp27) rfl rfl (oFldP o94_1 tm) (s1 rfl) <| crgB (nf hp27) rfl rfl (oLdB (n := 0) (k := 1) rfl rfl rfl t9 tm) (s1 rfl) <| cgB (nf hp27) rfl rfl (oLenS u9 tm) (s1 rfl) <| cgB (nf hp27) rfl rfl (oGt rfl tm (cI (by decide))) (s1 rfl) <| cp (oPkF (nf hp27) tm tm) (s2 rfl rfl) <| .nil) (by kernel_rfl) ?_
            exact pJ1 _ (so h) ⟨rfl, rfl, rfl, rfl, rfl, trivial⟩ rfl
          · refine rg (cp (oFldP o94_0 tm) (s1 rfl) <| cr (oLdB (n := 0) (k := 0) rfl rfl rfl t3 tm) (s1 rfl) <| cp (oNe rfl tm (cI (by decide))) (s1 rfl) <| cp (oMv tm) (s1 rfl) <| csB (nt hp27) rfl rfl <| csB (nt hp27) rfl rfl <| csB (nt hp27) rfl rfl <| csB (nt hp27) rfl rfl <| cp (oPkT (nt hp27) tm cB) (s1 rfl) <| .nil) (by kernel_rfl) ?_
            exact pJ1 _ (so h) ⟨rfl, rfl, rfl, rfl, rfl, trivial⟩ rfl
        · rintro x26 rfl
          replace h := hk1
          rcases ic h with ⟨hp28, h⟩ | ⟨hp28, h⟩
          · refine wBT hp28 tm (s1 rfl) ?_
            refine wSeq ?_
            refine rg (cp (oFldP o287_3 tm) (s1 rfl) <| cwn (oSt (n := 2) (k := 5) rfl rfl rfl rfl z34 tm (cI (by decide))) (s1 rfl) <| .nil) (by kernel_rfl) ?_
            refine pSeq ?_
            refine wSeq ?_
            refine rg (cr (oLdP (n := 2) (k := 0) (m := 6) (d := (kR f_reticentref08_P)) (u := (⟨a1.I, a1.N, a1.X, 4⟩ : reticentref08_P)) (lfS (lfC lf1 (lfC lf1 (lfC (lfS (lfC lf1 (lfC lf1 (lfC lf1 lfN)))) (lfC lf1 lfN))))) rfl rfl rfl t287 tm) (s1 rfl) <| cwn (oStP (n := 1) (k := 0) (m := 6) (d := (kR f_reticentref08_P)) (u := (⟨a1.I, a1.N, a1.X, 4⟩ : reticentref08_P)) (lfS (lfC lf1 (lfC lf1 (lfC (lfS (lfC lf1 (lfC lf1 (lfC lf1 lfN)))) (lfC lf1 lfN))))) rfl rfl rfl z287 tm tm) (s2 rfl rfl) <| .nil) (by kernel_rfl) ?_
            refine pSeq ?_
            refine wRet ?_
            refine pThenR ?_
            obtain rfl := so h
            exact pR1 (.inl rfl) rfl (.boxP (n := 1) (d := (kR f_reticentref08_P)) (u := (⟨a1.I, a1.N, a1.X, 4⟩ : reticentref08_P)) rfl rfl (lfS (lfC lf1 (lfC lf1 (lfC (lfS (lfC lf1 (lfC lf1 (lfC lf1 lfN)))) (lfC lf1 lfN))))) rfl t287 <| .nil)
          · refine wBF hp28 tm (s1 rfl) ?_
            refine wSkip ?_
            refine pSeq ?_
            refine wSeq ?_
            refine rg (cp (oFldP o287_1 tm) (s1 rfl) <| cwn (oSt (n := 2) (k := 1) rfl rfl rfl rfl z3 tm (cI (by decide))) (s1 rfl) <| .nil) (by kernel_rfl) ?_
            refine pSeq ?_
            refine wSeq ?_
            refine wSeq ?_
            refine rg (cp (oAs (cI (by decide))) trivial <| .nil) (by kernel_rfl) ?_
            refine pSeq ?_
            obtain ⟨o1, h, hk1⟩ := bd h
            refine wK1 (fun x35 => x35 = o1) (fun x35 => [(3, .p 3 0), (4, .p 4 0), (5, .d (kB.sig x5))]) (fun x35 => [.box 6 94 [.d (kI .i64) y24.Kind, .d kS y24.Text, .d (kI .i64) y24.At], .box 4 287 [.d (kI .i64) 0, .d (kI .i64) 0, .d (kI .i64) 0, .d (kI .i64) 0, .d (kI .i64) 0, .d (kI .i64) 0], .box 3 287 [.d (kI .i64) a1.I, .d (kI .i64) x35, .d (kI .i64) a1.X.Op, .d (kI .i64) a1.X.N, .d (kI .i64) a1.X.L, .d (kI .i64) a1.E]]) ?_ ?_
            · refine wBlock (wLoop ?_)
              refine lW (pc2 o1 (fun v33 v34 => [(3, .p 3 0), (4, .p 4 0), (5, .d (kB.sig x5)), (6, .p 6 0), (7, .d ((kI .i64).sig v34))]) (fun v33 v34 => [.box 6 94 [.d (kI .i64) y24.Kind, .d kS y24.Text, .d (kI .i64) y24.At], .box 4 287 [.d (kI .i64) 0, .d (kI .i64) 0, .d (kI .i64) 0, .d (kI .i64) 0, .d (kI .i64) 0, .d (kI .i64) 0], .box 3 287 [.d (kI .i64) a1.I, .d (kI .i64) v33, .d (kI .i64) a1.X.Op, .d (kI .i64) a1.X.N, .d (kI .i64) a1.X.L, .d (kI .i64) a1.E]]) (reticentref08_Int.l1.partial_correctness y24) ?_ _ _ h) ⟨rfl, rfl, rfl, rfl, rfl, trivial⟩ rfl
              clear h
              intro f' ih v33 v34 h
              refine wSeq ?_
              refine wSeq ?_
              refine rg (cp (oMv tm) (s1 rfl) <| cp (oFldP o94_1 tm) (s1 rfl) <| cr (oLdB (n := 0) (k := 1) rfl rfl rfl t9 tm) (s1 rfl) <| cp (oLenS u9 tm) (s1 rfl) <| cp (oLt rfl tm tm) (s2 rfl rfl) <| .nil) (by kernel_rfl) ?_
              refine pSeq ?_
              rcases ic h with ⟨hp36, h⟩ | ⟨hp36, h⟩
              · refine wCT hp36 tm (s1 rfl) ?_
                refine wSkip ?_
                refine pSeq ?_
                refine wSeq ?_
                refine wBlock ?_
                obtain ⟨hc37, h⟩ := ib h
                refine rgD hm (cp (oFldP o287_1 tm) (s1 rfl) <| cr (oLdB (n := 2) (k := 1) rfl rfl rfl t3 tm) (s1 rfl) <| cp (oMul (cI (by decide)) tm) (s1 rfl) <| cp (oFldP o94_1 tm) (s1 rfl) <| cr (oLdB (n := 0) (k := 1) rfl rfl rfl t9 tm) (s1 rfl) <| cp (oMv tm) (s1 rfl) <| cp (oIdxS u9 hc37.1 hc37.2 tm tm) (s2 rfl rfl) <| cp (oRem (by decide) tm (cI (by decide))) (s1 rfl) <| cp (oConv u5 u3 tm) (s1 rfl) <| cp (oAdd tm tm) (s2 rfl rfl) <| cp (oFldP o287_1 tm) (s1 rfl) <| cwn (oSt (n := 2) (k := 1) rfl rfl rfl rfl z3 tm tm) (s2 rfl rfl) <| .nil) (by kernel_rfl) (by kernel_rfl) ?_
                refine pBlkN ?_
                refine pSeq ?_
                refine rg (cp (oMv tm) (s1 rfl) <| cp (oAdd tm (cI (by decide))) (s1 rfl) <| cp (oAs tm) (s1 rfl) <| .nil) (by kernel_rfl) ?_
                exact pLoop (lW (ih _ _ h) ⟨rfl, rfl, rfl, rfl, rfl, trivial⟩ rfl)
              · refine wCF hp36 tm (s1 rfl) ?_
                refine wExit ?_
                refine pThenX ?_
                refine pThenX ?_
                refine pBlkX ?_
                exact pJ1 _ (so h) ⟨rfl, rfl, rfl, trivial⟩ rfl
            · rintro x35 rfl
              replace h := hk1
              refine pSeq ?_
              refine wSeq ?_
              refine wSeq ?_
              refine rg (cp (oMv tm) (s1 rfl) <| .nil) (by kernel_rfl) ?_
              refine pSeq ?_
              refine wBF hp9 tm (s1 rfl) ?_
              refine wSkip ?_
              refine pSeq ?_
              refine wSeq ?_
              refine rg (cp (oFldP o287_0 tm) (s1 rfl) <| cr (oLdB (n := 2) (k := 0) rfl rfl rfl t3 tm) (s1 rfl) <| cp (oAdd tm (cI (by decide))) (s1 rfl) <| cp (oFldP o287_0 tm) (s1 rfl) <| cwn (oSt (n := 2) (k := 0) rfl rfl rfl rfl z3 tm tm) (s2 rfl rfl) <| .nil) (by kernel_rfl) ?_
              refine pSeq ?_
              refine wSeq ?_
              refine rg (cr (oLdP (n := 2) (k := 0) (m := 6) (d := (kR f_reticentref08_P)) (u := (⟨IntKind.i64.wrap (a1.I + 1), x35, a1.X, a1.E⟩ : reticentref08_P)) (lfS (lfC lf1 (lfC lf1 (lfC (lfS (lfC lf1 (lfC lf1 (lfC lf1 lfN)))) (lfC lf1 lfN))))) rfl rfl rfl t287 tm) (s1 rfl) <| cwn (oStP (n := 1) (k := 0) (m := 6) (d := (kR f_reticentref08_P)) (u := (⟨IntKind.i64.wrap (a1.I + 1), x35, a1.X, a1.E⟩ : reticentref08_P)) (lfS (lfC lf1 (lfC lf1 (lfC (lfS (lfC lf1 (lfC lf1 (lfC lf1 lfN)))) (lfC lf1 lfN))))) rfl rfl rfl z287 tm tm) (s2 rfl rfl) <| .nil) (by kernel_rfl) ?_
              refine pSeq ?_
              refine wRet ?_
              obtain rfl := so h
              exact pR1 (.inl rfl) rfl (.boxP (n := 1) (d := (kR f_reticentref08_P)) (u := (⟨IntKind.i64.wrap (a1.I + 1), x35, a1.X, a1.E⟩ : reticentref08_P)) rfl rfl (lfS (lfC lf1 (lfC lf1 (lfC (lfS (lfC lf1 (lfC lf1 (lfC lf1 lfN)))) (lfC lf1 lfN))))) rfl t287 <| .nil)
  · refine wNF hp1 tm (s1 rfl) ?_
    refine wSeq ?_
    refine rg (cr (oLdP (n := 1) (k := 0) (m := 6) (d := (kR f_reticentref08_P)) (u := a1) (lfS (lfC lf1 (lfC lf1 (lfC (lfS (lfC lf1 (lfC lf1 (lfC lf1 lfN)))) (lfC lf1 lfN))))) rfl rfl rfl t287 tm) (s1 rfl) <| cwn (oStP (n := 0) (k := 0) (m := 6) (d := (kR f_reticentref08_P)) (u := a1) (lfS (lfC lf1 (lfC lf1 (lfC (lfS (lfC lf1 (lfC lf1 (lfC lf1 lfN)))) (lfC lf1 lfN))))) rfl rfl rfl z287 tm tm) (s2 rfl rfl) <| .nil) (by kernel_rfl) ?_
    refine pSeq ?_
    refine wRet ?_
    refine pThenR ?_
    obtain rfl := so h
    exact pR1 (.inl rfl) rfl (.boxP (n := 0) (d := (kR f_reticentref08_P)) (u := a1) rfl rfl (lfS (lfC lf1 (lfC lf1 (lfC (lfS (lfC lf1 (lfC lf1 (lfC lf1 lfN)))) (lfC lf1 lfN))))) rfl t287 <| .nil)
theorem reticentref08_Mark.ok {a0 : List api_Tok} {a1 : reticentref08_P} {a2 : Str} {r : reticentref08_P} (h : reticentref08_Mark.f a0 a1 a2 = some r) : FnA Tryz.prog 305 [(kL (kR f_api_Tok)).sig a0, (kR f_reticentref08_P).sig a1, kS.sig a2] ((kR f_reticentref08_P).sig r) := by
  refine fnIntro Tryz.func305 rfl (by kernel_rfl) fun H0 w0 => ?_
  unfold reticentref08_Mark.f at h
  refine wSeq ?_
  refine rg (cw (oBoxP (id := 4) (d := (kR f_reticentref08_P)) (ls := [.d (kI .i64) a1.I, .d (kI .i64) a1.N, .d (kI .i64) a1.X.Op, .d (kI .i64) a1.X.N, .d (kI .i64) a1.X.L, .d (kI .i64) a1.E]) (lfS (lfC lf1 (lfC lf1 (lfC (lfS (lfC lf1 (lfC lf1 (lfC lf1 lfN)))) (lfC lf1 lfN))))) rfl tm) (s1 rfl) <| cw (oAlloc (id := 6) (ls := [.d (kI .i64) 0, .d (kI .i64) 0, .d (kI .i64) 0, .d (kI .i64) 0, .d (kI .i64) 0, .d (kI .i64) 0]) ze287 (fun g => ⟨[(.int .i64 0)], _, rfl, zI_i64 g.H, ⟨[(.int .i64 0)], _, rfl, zI_i64 g.H, ⟨[(.int .i64 0)], _, rfl, zI_i64 g.H, ⟨[(.int .i64 0)], _, rfl, zI_i64 g.H, ⟨[(.int .i64 0)], _, rfl, zI_i64 g.H, ⟨[(.int .i64 0)], _, rfl, zI_i64 g.H, rfl⟩⟩⟩⟩⟩⟩)) trivial <| .nil) (by kernel_rfl) ?_
  refine pSeq ?_
  refine wSeq ?_
  refine wSeq ?_
  refine rg (cp (oFldP o287_3 tm) (s1 rfl) <| cr (oLdB (n := 1) (k := 5) rfl rfl rfl t34 tm) (s1 rfl) <| cp (oNe rfl tm (cI (by decide))) (s1 rfl) <| .nil) (by kernel_rfl) ?_
  refine pSeq ?_
  rcases ic h with ⟨hp1, h⟩ | ⟨hp1, h⟩
  · refine wNT hp1 tm (s1 rfl) ?_
    refine wSkip ?_
    refine pSeq ?_
    refine wSeq ?_
    obtain ⟨o1, h, hk1⟩ := bd h
    refine wJ1 (fun x5 => x5 = o1) (fun x5 => [(4, .p 4 0), (6, .p 6 0), (27, .d (kB.sig x5))]) (fun x5 => [.box 6 287 [.d (kI .i64) 0, .d (kI .i64) 0, .d (kI .i64) 0, .d (kI .i64) 0, .d (kI .i64) 0, .d (kI .i64) 0], .box 4 287 [.d (kI .i64) a1.I, .d (kI .i64) a1.N, .d (kI .i64) a1.X.Op, .d (kI .i64) a1.X.N, .d (kI .i64) a1.X.L, .d (kI .i64) a1.E]]) ?_ ?_
    · obtain ⟨y6, hy6, h⟩ := bd h
      rcases ic h with ⟨hp7, h⟩ | ⟨hp7, h⟩
      · obtain ⟨y8, hy8, h⟩ := bd h
        refine rg (cp (oMv tm) (s1 rfl) <| cp (oFldP o287_0 tm) (s1 rfl) <| cr (oLdB (n := 1) (k := 0) rfl rfl rfl t3 tm) (s1 rfl) <| cp (oIdx u89 z94 hy6 tm tm) (s2 rfl rfl) <| cp (oFld (fs := f_api_Tok) (k := 0) rfl o94_0 tm) (s1 rfl) <| cp (oLd t3 tm) (s1 rfl) <| cp (oNe rfl tm (cI (by decide))) (s1 rfl) <| cp (oMv tm) (s1 rfl) <| cgB (nf hp7) rfl rfl (oMv tm) (s1 rfl) <| cgB (nf hp7) rfl rfl (oFldP o287_0 tm) (s1 rfl) <| crgB (nf hp7) rfl rfl (oLdB (n := 1) (k := 0) rfl rfl rfl t3 tm) (s1 rfl) <| cgB (nf hp7) rfl rfl (oIdx u89 z94 hy8 tm tm) (s2 rfl rfl) <| cgB (nf hp7) rfl rfl (oFld (fs := f_api_Tok) (k := 1) rfl o94_1 tm) (s1 rfl) <| cgB (nf hp7) rfl rfl (oLd t9 tm) (s1 rfl) <| cgB (nf hp7) rfl rfl (oMv tm) (s1 rfl) <| cgB (nf hp7) rfl rfl (oSNe rfl tm tm) (s2 rfl rfl) <| cp (oPkF (nf hp7) tm tm) (s2 rfl rfl) <| .nil) (by kernel_rfl) ?_
        exact pJ1 _ (so h) ⟨rfl, rfl, rfl, trivial⟩ rfl
      · refine rg (cp (oMv tm) (s1 rfl) <| cp (oFldP o287_0 tm) (s1 rfl) <| cr (oLdB (n := 1) (k := 0) rfl rfl rfl t3 tm) (s1 rfl) <| cp (oIdx u89 z94 hy6 tm tm) (s2 rfl rfl) <| cp (oFld (fs := f_api_Tok) (k := 0) rfl o94_0 tm) (s1 rfl) <| cp (oLd t3 tm) (s1 rfl) <| cp (oNe rfl tm (cI (by decide))) (s1 rfl) <| cp (oMv tm) (s1 rfl) <| csB (nt hp7) rfl rfl <| csB (nt hp7) rfl rfl <| csB (nt hp7) rfl rfl <| csB (nt hp7) rfl rfl <| csB (nt hp7) rfl rfl <| csB (nt hp7) rfl rfl <| csB (nt hp7) rfl rfl <| csB (nt hp7) rfl rfl <| cp (oPkT (nt hp7) tm cB) (s1 rfl) <| .nil) (by kernel_rfl) ?_
        exact pJ1 _ (so h) ⟨rfl, rfl, rfl, trivial⟩ rfl
    · rintro x5 rfl
      replace h := hk1
      rcases ic h with ⟨hp9, h⟩ | ⟨hp9, h⟩
      · refine wBT hp9 tm (s1 rfl) ?_
        refine wSeq ?_
        refine rg (cp (oFldP o287_3 tm) (s1 rfl) <| cwn (oSt (n := 1) (k := 5) rfl rfl rfl rfl z34 tm (cI (by decide))) (s1 rfl) <| .nil) (by kernel_rfl) ?_
        refine pSeq ?_
        refine wSeq ?_
        refine rg (cr (oLdP (n := 1) (k := 0) (m := 6) (d := (kR f_reticentref08_P)) (u := (⟨a1.I, a1.N, a1.X, 4⟩ : reticentref08_P)) (lfS (lfC lf1 (lfC lf1 (lfC (lfS (lfC lf1 (lfC lf1 (lfC lf1 lfN)))) (lfC lf1 lfN))))) rfl rfl rfl t287 tm) (s1 rfl) <| cwn (oStP (n := 0) (k := 0) (m := 6) (d := (kR f_reticentref08_P)) (u := (⟨a1.I, a1.N, a1.X, 4⟩ : reticentref08_P)) (lfS (lfC lf1 (lfC lf1 (lfC (lfS (lfC lf1 (lfC lf1 (lfC lf1 lfN)))) (lfC lf1 lfN))))) rfl rfl rfl z287 tm tm) (s2 rfl rfl) <| .nil) (by kernel_rfl) ?_
        refine pSeq ?_
        refine wRet ?_
        refine pThenR ?_
        obtain rfl := so h
        exact pR1 (.inl rfl) rfl (.boxP (n := 0) (d := (kR f_reticentref08_P)) (u := (⟨a1.I, a1.N, a1.X, 4⟩ : reticentref08_P)) rfl rfl (lfS (lfC lf1 (lfC lf1 (lfC (lfS (lfC lf1 (lfC lf1 (lfC lf1 lfN)))) (lfC lf1 lfN))))) rfl t287 <| .nil)
      · refine wBF hp9 tm (s1 rfl) ?_
        refine wSkip ?_
        refine pSeq ?_
        refine wSeq ?_
        refine rg (cp (oFldP o287_0 tm) (s1 rfl) <| cr (oLdB (n := 1) (k := 0) rfl rfl rfl t3 tm) (s1 rfl) <| cp (oAdd tm (cI (by decide))) (s1 rfl) <| cp (oFldP o287_0 tm) (s1 rfl) <| cwn (oSt (n := 1) (k := 0) rfl rfl rfl rfl z3 tm tm) (s2 rfl rfl) <| .nil) (by kernel_rfl) ?_
        refine pSeq ?_
        refine wSeq ?_
        refine rg (cr (oLdP (n := 1) (k := 0) (m := 6) (d := (kR f_reticentref08_P)) (u := (⟨IntKind.i64.wrap (a1.I + 1), a1.N, a1.X, a1.E⟩ : reticentref08_P)) (lfS (lfC lf1 (lfC lf1 (lfC (lfS (lfC lf1 (lfC lf1 (lfC lf1 lfN)))) (lfC lf1 lfN))))) rfl rfl rfl t287 tm) (s1 rfl) <| cwn (oStP (n := 0) (k := 0) (m := 6) (d := (kR f_reticentref08_P)) (u := (⟨IntKind.i64.wrap (a1.I + 1), a1.N, a1.X, a1.E⟩ : reticentref08_P)) (lfS (lfC lf1 (lfC lf1 (lfC (lfS (lfC lf1 (lfC lf1 (lfC lf1 lfN)))) (lfC lf1 lfN))))) rfl rfl rfl z287 tm tm) (s2 rfl rfl) <| .nil) (by kernel_rfl) ?_
        refine pSeq ?_
        refine wRet ?_
        obtain rfl := so h
        exact pR1 (.inl rfl) rfl (.boxP (n := 0) (d := (kR f_reticentref08_P)) (u := (⟨IntKind.i64.wrap (a1.I + 1), a1.N, a1.X, a1.E⟩ : reticentref08_P)) rfl rfl (lfS (lfC lf1 (lfC lf1 (lfC (lfS (lfC lf1 (lfC lf1 (lfC lf1 lfN)))) (lfC lf1 lfN))))) rfl t287 <| .nil)
  · refine wNF hp1 tm (s1 rfl) ?_
    refine wSeq ?_
    refine rg (cr (oLdP (n := 1) (k := 0) (m := 6) (d := (kR f_reticentref08_P)) (u := a1) (lfS (lfC lf1 (lfC lf1 (lfC (lfS (lfC lf1 (lfC lf1 (lfC lf1 lfN)))) (lfC lf1 lfN))))) rfl rfl rfl t287 tm) (s1 rfl) <| cwn (oStP (n := 0) (k := 0) (m := 6) (d := (kR f_reticentref08_P)) (u := a1) (lfS (lfC lf1 (lfC lf1 (lfC (lfS (lfC lf1 (lfC lf1 (lfC lf1 lfN)))) (lfC lf1 lfN))))) rfl rfl rfl z287 tm tm) (s2 rfl rfl) <| .nil) (by kernel_rfl) ?_
    refine pSeq ?_
    refine wRet ?_
    refine pThenR ?_
    obtain rfl := so h
    exact pR1 (.inl rfl) rfl (.boxP (n := 0) (d := (kR f_reticentref08_P)) (u := a1) rfl rfl (lfS (lfC lf1 (lfC lf1 (lfC (lfS (lfC lf1 (lfC lf1 (lfC lf1 lfN)))) (lfC lf1 lfN))))) rfl t287 <| .nil)
theorem reticentref02_Find.ok {a0 : api_Lattice} {a1 : Str} {r : Int} (h : reticentref02_Find.f a0 a1 = some r) : FnA Tryz.prog 306 [(kR f_api_Lattice).sig a0, kS.sig a1] ((kI .i64).sig r) := by
  refine fnIntro Tryz.func306 rfl (by kernel_rfl) fun H0 w0 => ?_
  unfold reticentref02_Find.f at h
  refine wSeq ?_
  refine rg (cp (oBox tm) (s1 rfl) <| cp (oAs (cI (by decide))) trivial <| .nil) (by kernel_rfl) ?_
  refine pSeq ?_
  refine wSeq ?_
  refine wSeq ?_
  refine rg (cp (oFld (fs := f_api_Lattice) (k := 0) rfl o25_0 tm) (s1 rfl) <| cp (oLd t22 tm) (s1 rfl) <| cp (oLenL u22 tm) (s1 rfl) <| cp (oMv (cI (by decide))) trivial <| .nil) (by kernel_rfl) ?_
  refine pSeq ?_
  obtain ⟨o1, h, hk1⟩ := bd h
  refine wK0 (.inr () = o1) ([]) ([]) ?_ ?_
  · refine wBlock (wLoop ?_)
    refine lW (pc1 o1 (fun v7 => [(1, .d (kS.sig a1)), (8, .d ((kL kS).sig a0.Names)), (9, .d ((kI .i64).sig (a0.Names.length : Int))), (10, .d ((kI .i64).sig v7))]) (fun v7 => []) (reticentref02_Find.l0.partial_correctness a0 a1) ?_ _ h) ⟨rfl, rfl, rfl, rfl, trivial⟩ rfl
    clear h
    intro f' ih v7 h
    refine wSeq ?_
    refine rg (cp (oLt rfl tm tm) (s2 rfl rfl) <| .nil) (by kernel_rfl) ?_
    refine pSeq ?_
    refine wSeq ?_
    rcases ic h with ⟨hp8, h⟩ | ⟨hp8, h⟩
    · refine wCT hp8 tm (s1 rfl) ?_
      refine wSkip ?_
      refine pSeq ?_
      refine wSeq ?_
      refine wBlock ?_
      refine wSeq ?_
      obtain ⟨y9, hy9, h⟩ := bd h
      refine rg (cp (oMv tm) (s1 rfl) <| cp (oIdx u22 z9 hy9 tm tm) (s2 rfl rfl) <| cp (oLd t9 tm) (s1 rfl) <| cp (oAs tm) (s1 rfl) <| cp (oAs tm) (s1 rfl) <| .nil) (by kernel_rfl) ?_
      refine pSeq ?_
      refine wSeq ?_
      refine rg (cp (oMv tm) (s1 rfl) <| cp (oMv tm) (s1 rfl) <| cp (oSEq rfl tm tm) (s2 rfl rfl) <| .nil) (by kernel_rfl) ?_
      refine pSeq ?_
      rcases ic h with ⟨hp10, h⟩ | ⟨hp10, h⟩
      · refine wCT hp10 tm (s1 rfl) ?_
        refine wSeq ?_
        refine rg (cp (oMv tm) (s1 rfl) <| cp (oAs tm) (s1 rfl) <| .nil) (by kernel_rfl) ?_
        refine pSeq ?_
        refine wRet ?_
        refine pBlkR ?_
        refine pThenR ?_
        refine pThenR ?_
        refine pBlkR ?_
        refine pThenR ?_
        obtain rfl := so h
        replace h := hk1
        refine pThenR ?_
        obtain rfl := so h
        exact pR1 (.inl rfl) rfl (.tmp rfl <| .nil)
      · refine wCF hp10 tm (s1 rfl) ?_
        refine wSkip ?_
        refine pBlkN ?_
        refine pSeq ?_
        refine rg (cp (oAdd tm (cI (by decide))) (s1 rfl) <| cp (oMv tm) (s1 rfl) <| .nil) (by kernel_rfl) ?_
        exact pLoop (lW (ih _ h) ⟨rfl, rfl, rfl, rfl, trivial⟩ rfl)
    · refine wCF hp8 tm (s1 rfl) ?_
      refine wExit ?_
      refine pThenX ?_
      refine pThenX ?_
      refine pBlkX ?_
      exact pJ0 (so h) trivial rfl
  · rintro rfl
    replace h := hk1
    refine pSeq ?_
    refine wSeq ?_
    refine rg (cp (oAs (cI (by decide))) trivial <| .nil) (by kernel_rfl) ?_
    refine pSeq ?_
    refine wRet ?_
    obtain rfl := so h
    exact pR1 (.inl rfl) rfl (.tmp rfl <| .nil)
theorem reticentref08_Label.ok {a0 : api_Lattice} {a1 : List api_Tok} {a2 : reticentref08_P} {r : reticentref08_P} (h : reticentref08_Label.f a0 a1 a2 = some r) : FnA Tryz.prog 224 [(kR f_api_Lattice).sig a0, (kL (kR f_api_Tok)).sig a1, (kR f_reticentref08_P).sig a2] ((kR f_reticentref08_P).sig r) := by
  refine fnIntro Tryz.func224 rfl (by kernel_rfl) fun H0 w0 => ?_
  unfold reticentref08_Label.f at h
  refine wSeq ?_
  refine rg (cp (oBox tm) (s1 rfl) <| cw (oBoxP (id := 5) (d := (kR f_reticentref08_P)) (ls := [.d (kI .i64) a2.I, .d (kI .i64) a2.N, .d (kI .i64) a2.X.Op, .d (kI .i64) a2.X.N, .d (kI .i64) a2.X.L, .d (kI .i64) a2.E]) (lfS (lfC lf1 (lfC lf1 (lfC (lfS (lfC lf1 (lfC lf1 (lfC lf1 lfN)))) (lfC lf1 lfN))))) rfl tm) (s1 rfl) <| cw (oAlloc (id := 6) (ls := [.d (kI .i64) 0, .d (kI .i64) 0, .d (kI .i64) 0, .d (kI .i64) 0, .d (kI .i64) 0, .d (kI .i64) 0]) ze287 (fun g => ⟨[(.int .i64 0)], _, rfl, zI_i64 g.H, ⟨[(.int .i64 0)], _, rfl, zI_i64 g.H, ⟨[(.int .i64 0)], _, rfl, zI_i64 g.H, ⟨[(.int .i64 0)], _, rfl, zI_i64 g.H, ⟨[(.int .i64 0)], _, rfl, zI_i64 g.H, ⟨[(.int .i64 0)], _, rfl, zI_i64 g.H, rfl⟩⟩⟩⟩⟩⟩)) trivial <| .nil) (by kernel_rfl) ?_
  refine pSeq ?_
  refine wSeq ?_
  obtain ⟨y1, hy1, h⟩ := bd h
  refine rg (cp (oMv tm) (s1 rfl) <| cr (oLdP (n := 1) (k := 0) (m := 6) (d := (kR f_reticentref08_P)) (u := a2) (lfS (lfC lf1 (lfC lf1 (lfC (lfS (lfC lf1 (lfC lf1 (lfC lf1 lfN)))) (lfC lf1 lfN))))) rfl rfl rfl t287 tm) (s1 rfl) <| cp (oCall rfl (reticentref08_Mark.ok hy1) b305 (opds_cons tm (opds_cons tm (opds_cons (cS (by decide)) opds_nil)))) (s2 rfl rfl) <| cwn (oStP (n := 1) (k := 0) (m := 6) (d := (kR f_reticentref08_P)) (u := y1) (lfS (lfC lf1 (lfC lf1 (lfC (lfS (lfC lf1 (lfC lf1 (lfC lf1 lfN)))) (lfC lf1 lfN))))) rfl rfl rfl z287 tm tm) (s2 rfl rfl) <| .nil) (by kernel_rfl) ?_
  refine pSeq ?_
  refine wSeq ?_
  refine wSeq ?_
  refine rg (cp (oFldP o287_3 tm) (s1 rfl) <| cr (oLdB (n := 1) (k := 5) rfl rfl rfl t34 tm) (s1 rfl) <| cp (oNe rfl tm (cI (by decide))) (s1 rfl) <| .nil) (by kernel_rfl) ?_
  refine pSeq ?_
  rcases ic h with ⟨hp2, h⟩ | ⟨hp2, h⟩
  · refine wNT hp2 tm (s1 rfl) ?_
    refine wSkip ?_
    refine pSeq ?_
    refine wSeq ?_
    refine wSeq ?_
    obtain ⟨y3, hy3, h⟩ := bd h
    refine rg (cp (oMv tm) (s1 rfl) <| cp (oFldP o287_0 tm) (s1 rfl) <| cr (oLdB (n := 1) (k := 0) rfl rfl rfl t3 tm) (s1 rfl) <| cp (oIdx u89 z94 hy3 tm tm) (s2 rfl rfl) <| cp (oFld (fs := f_api_Tok) (k := 0) rfl o94_0 tm) (s1 rfl) <| cp (oLd t3 tm) (s1 rfl) <| cp (oNe rfl tm (cI (by decide))) (s1 rfl) <| .nil) (by kernel_rfl) ?_
    refine pSeq ?_
    rcases ic h with ⟨hp4, h⟩ | ⟨hp4, h⟩
    · refine wNT hp4 tm (s1 rfl) ?_
      refine wSkip ?_
      refine pSeq ?_
      refine wSeq ?_
      obtain ⟨y5, hy5, h⟩ := bd h
      obtain ⟨y6, hy6, h⟩ := bd h
      refine rgD hm (cp (oLd t25 tm) (s1 rfl) <| cp (oMv tm) (s1 rfl) <| cp (oFldP o287_0 tm) (s1 rfl) <| cr (oLdB (n := 1) (k := 0) rfl rfl rfl t3 tm) (s1 rfl) <| cp (oIdx u89 z94 hy5 tm tm) (s2 rfl rfl) <| cp (oFld (fs := f_api_Tok) (k := 1) rfl o94_1 tm) (s1 rfl) <| cp (oLd t9 tm) (s1 rfl) <| cp (oCall rfl (reticentref02_Find.ok hy6) b306 (opds_cons tm (opds_cons tm opds_nil))) (s2 rfl rfl) <| cp (oFldP o287_1 tm) (s1 rfl) <| cwn (oSt (n := 1) (k := 1) rfl rfl rfl rfl z3 tm tm) (s2 rfl rfl) <| .nil) (by kernel_rfl) (by kernel_rfl) ?_
      refine pSeq ?_
      refine wSeq ?_
      refine wSeq ?_
      refine rg (cp (oFldP o287_1 tm) (s1 rfl) <| cr (oLdB (n := 1) (k := 1) rfl rfl rfl t3 tm) (s1 rfl) <| cp (oLt rfl tm (cI (by decide))) (s1 rfl) <| .nil) (by kernel_rfl) ?_
      refine pSeq ?_
      rcases ic h with ⟨hp7, h⟩ | ⟨hp7, h⟩
      · refine wCT hp7 tm (s1 rfl) ?_
        refine wSeq ?_
        refine rg (cp (oFldP o287_3 tm) (s1 rfl) <| cwn (oSt (n := 1) (k := 5) rfl rfl rfl rfl z34 tm (cI (by decide))) (s1 rfl) <| .nil) (by kernel_rfl) ?_
        refine pSeq ?_
        refine wSeq ?_
        refine rg (cr (oLdP (n := 1) (k := 0) (m := 6) (d := (kR f_reticentref08_P)) (u := (⟨y1.I, y6, y1.X, 6⟩ : reticentref08_P)) (lfS (lfC lf1 (lfC lf1 (lfC (lfS (lfC lf1 (lfC lf1 (lfC lf1 lfN)))) (lfC lf1 lfN))))) rfl rfl rfl t287 tm) (s1 rfl) <| cwn (oStP (n := 0) (k := 0) (m := 6) (d := (kR f_reticentref08_P)) (u := (⟨y1.I, y6, y1.X, 6⟩ : reticentref08_P)) (lfS (lfC lf1 (lfC lf1 (lfC (lfS (lfC lf1 (lfC lf1 (lfC lf1 lfN)))) (lfC lf1 lfN))))) rfl rfl rfl z287 tm tm) (s2 rfl rfl) <| .nil) (by kernel_rfl) ?_
        refine pSeq ?_
        refine wRet ?_
        refine pThenR ?_
        obtain rfl := so h
        exact pR1 (.inl rfl) rfl (.boxP (n := 0) (d := (kR f_reticentref08_P)) (u := (⟨y1.I, y6, y1.X, 6⟩ : reticentref08_P)) rfl rfl (lfS (lfC lf1 (lfC lf1 (lfC (lfS (lfC lf1 (lfC lf1 (lfC lf1 lfN)))) (lfC lf1 lfN))))) rfl t287 <| .nil)
      · refine wCF hp7 tm (s1 rfl) ?_
        refine wSkip ?_
        refine pSeq ?_
        refine wSeq ?_
        refine rg (cp (oFldP o287_0 tm) (s1 rfl) <| cr (oLdB (n := 1) (k := 0) rfl rfl rfl t3 tm) (s1 rfl) <| cp (oAdd tm (cI (by decide))) (s1 rfl) <| cp (oFldP o287_0 tm) (s1 rfl) <| cwn (oSt (n := 1) (k := 0) rfl rfl rfl rfl z3 tm tm) (s2 rfl rfl) <| .nil) (by kernel_rfl) ?_
        refine pSeq ?_
        refine wSeq ?_
        refine rg (cr (oLdP (n := 1) (k := 0) (m := 6) (d := (kR f_reticentref08_P)) (u := (⟨IntKind.i64.wrap (y1.I + 1), y6, y1.X, y1.E⟩ : reticentref08_P)) (lfS (lfC lf1 (lfC lf1 (lfC (lfS (lfC lf1 (lfC lf1 (lfC lf1 lfN)))) (lfC lf1 lfN))))) rfl rfl rfl t287 tm) (s1 rfl) <| cwn (oStP (n := 0) (k := 0) (m := 6) (d := (kR f_reticentref08_P)) (u := (⟨IntKind.i64.wrap (y1.I + 1), y6, y1.X, y1.E⟩ : reticentref08_P)) (lfS (lfC lf1 (lfC lf1 (lfC (lfS (lfC lf1 (lfC lf1 (lfC lf1 lfN)))) (lfC lf1 lfN))))) rfl rfl rfl z287 tm tm) (s2 rfl rfl) <| .nil) (by kernel_rfl) ?_
        refine pSeq ?_
        refine wRet ?_
        obtain rfl := so h
        exact pR1 (.inl rfl) rfl (.boxP (n := 0) (d := (kR f_reticentref08_P)) (u := (⟨IntKind.i64.wrap (y1.I + 1), y6, y1.X, y1.E⟩ : reticentref08_P)) rfl rfl (lfS (lfC lf1 (lfC lf1 (lfC (lfS (lfC lf1 (lfC lf1 (lfC lf1 lfN)))) (lfC lf1 lfN))))) rfl t287 <| .nil)
    · refine wNF hp4 tm (s1 rfl) ?_
      refine wSeq ?_
      refine rg (cp (oFldP o287_3 tm) (s1 rfl) <| cwn (oSt (n := 1) (k := 5) rfl rfl rfl rfl z34 tm (cI (by decide))) (s1 rfl) <| .nil) (by kernel_rfl) ?_
      refine pSeq ?_
      refine wSeq ?_
      refine rg (cr (oLdP (n := 1) (k := 0) (m := 6) (d := (kR f_reticentref08_P)) (u := (⟨y1.I, y1.N, y1.X, 4⟩ : reticentref08_P)) (lfS (lfC lf1 (lfC lf1 (lfC (lfS (lfC lf1 (lfC lf1 (lfC lf1 lfN)))) (lfC lf1 lfN))))) rfl rfl rfl t287 tm) (s1 rfl) <| cwn (oStP (n := 0) (k := 0) (m := 6) (d := (kR f_reticentref08_P)) (u := (⟨y1.I, y1.N, y1.X, 4⟩ : reticentref08_P)) (lfS (lfC lf1 (lfC lf1 (lfC (lfS (lfC lf1 (lfC lf1 (lfC lf1 lfN)))) (lfC lf1 lfN))))) rfl rfl rfl z287 tm tm) (s2 rfl rfl) <| .nil) (by kernel_rfl) ?_
      refine pSeq ?_
      refine wRet ?_
      refine pThenR ?_
      obtain rfl := so h
      exact pR1 (.inl rfl) rfl (.boxP (n := 0) (d := (kR f_reticentref08_P)) (u := (⟨y1.I, y1.N, y1.X, 4⟩ : reticentref08_P)) rfl rfl (lfS (lfC lf1 (lfC lf1 (lfC (lfS (lfC lf1 (lfC lf1 (lfC lf1 lfN)))) (lfC lf1 lfN))))) rfl t287 <| .nil)
  · refine wNF hp2 tm (s1 rfl) ?_
    refine wSeq ?_
    refine rg (cr (oLdP (n := 1) (k := 0) (m := 6) (d := (kR f_reticentref08_P)) (u := y1) (lfS (lfC lf1 (lfC lf1 (lfC (lfS (lfC lf1 (lfC lf1 (lfC lf1 lfN)))) (lfC lf1 lfN))))) rfl rfl rfl t287 tm) (s1 rfl) <| cwn (oStP (n := 0) (k := 0) (m := 6) (d := (kR f_reticentref08_P)) (u := y1) (lfS (lfC lf1 (lfC lf1 (lfC (lfS (lfC lf1 (lfC lf1 (lfC lf1 lfN)))) (lfC lf1 lfN))))) rfl rfl rfl z287 tm tm) (s2 rfl rfl) <| .nil) (by kernel_rfl) ?_
    refine pSeq ?_
    refine wRet ?_
    refine pThenR ?_
    obtain rfl := so h
    exact pR1 (.inl rfl) rfl (.boxP (n := 0) (d := (kR f_reticentref08_P)) (u := y1) rfl rfl (lfS (lfC lf1 (lfC lf1 (lfC (lfS (lfC lf1 (lfC lf1 (lfC lf1 lfN)))) (lfC lf1 lfN))))) rfl t287 <| .nil)
theorem reticentref09_atom.ok {a0 : api_Lattice} {a1 : List api_Tok} {a2 : reticentref09_P} {r : reticentref09_P} (h : reticentref09_atom.f a0 a1 a2 = some r) : FnA Tryz.prog 125 [(kR f_api_Lattice).sig a0, (kL (kR f_api_Tok)).sig a1, (kR f_reticentref09_P).sig a2] ((kR f_reticentref09_P).sig r) := by
  refine fnIntro Tryz.func125 rfl (by kernel_rfl) fun H0 w0 => ?_
  unfold reticentref09_atom.f at h
  refine wSeq ?_
  refine rg (cp (oBox tm) (s1 rfl) <| cp (oBox tm) (s1 rfl) <| cw (oAlloc (id := 6) (ls := [.d (kI .i64) 0, .d (kI .i64) 0, .d (kI .i64) 0, .d (kI .i64) 0]) ze184 (fun g => ⟨[(.int .i64 0)], _, rfl, zI_i64 g.H, ⟨[(.int .i64 0)], _, rfl, zI_i64 g.H, ⟨[(.int .i64 0)], _, rfl, zI_i64 g.H, ⟨[(.int .i64 0)], _, rfl, zI_i64 g.H, rfl⟩⟩⟩⟩)) trivial <| .nil) (by kernel_rfl) ?_
  refine pSeq ?_
  refine wSeq ?_
  obtain ⟨y1, hy1, h⟩ := bd h
  refine rg (cp (oMv tm) (s1 rfl) <| cp (oFld (fs := f_reticentref09_P) (k := 0) rfl o184_0 tm) (s1 rfl) <| cp (oLd t3 tm) (s1 rfl) <| cp (oFld (fs := f_reticentref09_P) (k := 2) rfl o184_2 tm) (s1 rfl) <| cp (oLd t34 tm) (s1 rfl) <| cp (oBuild (fs := f_reticentref08_P) (u := ⟨a2.I, 0, (⟨0, 0, 0⟩ : api_Instr), a2.E⟩) rfl ze287 pl287 po287 (.op (zc := [(.int .i64 0)]) tm rfl (.ze (zc := [(.int .i64 0)]) zI_i64 (.ze (zc := [(.int .i64 0), (.int .i64 0), (.int .i64 0)]) zR_api_Instr (.op (zc := [(.int .i64 0)]) tm rfl .nil))))) (s2 rfl rfl) <| cp (oCall rfl (reticentref08_Int.ok hy1) b223 (opds_cons tm (opds_cons tm opds_nil))) (s2 rfl rfl) <| cw (oAlloc (id := 7) (ls := [.d (kI .i64) 0, .d (kI .i64) 0, .d (kI .i64) 0, .d (kI .i64) 0, .d (kI .i64) 0, .d (kI .i64) 0]) ze287 (fun g => ⟨[(.int .i64 0)], _, rfl, zI_i64 g.H, ⟨[(.int .i64 0)], _, rfl, zI_i64 g.H, ⟨[(.int .i64 0)], _, rfl, zI_i64 g.H, ⟨[(.int .i64 0)], _, rfl, zI_i64 g.H, ⟨[(.int .i64 0)], _, rfl, zI_i64 g.H, ⟨[(.int .i64 0)], _, rfl, zI_i64 g.H, rfl⟩⟩⟩⟩⟩⟩)) trivial <| cwn (oStP (n := 0) (k := 0) (m := 6) (d := (kR f_reticentref08_P)) (u := y1) (lfS (lfC lf1 (lfC lf1 (lfC (lfS (lfC lf1 (lfC lf1 (lfC lf1 lfN)))) (lfC lf1 lfN))))) rfl rfl rfl z287 tm tm) (s2 rfl rfl) <| .nil) (by kernel_rfl) ?_
  refine pSeq ?_
  refine wSeq ?_
  refine rg (cp (oFldP o287_1 tm) (s1 rfl) <| cr (oLdB (n := 0) (k := 1) rfl rfl rfl t3 tm) (s1 rfl) <| cp (oAs tm) (s1 rfl) <| .nil) (by kernel_rfl) ?_
  refine pSeq ?_
  refine wSeq ?_
  obtain ⟨y2, hy2, h⟩ := bd h
  refine rg (cp (oLd t25 tm) (s1 rfl) <| cp (oMv tm) (s1 rfl) <| cr (oLdP (n := 0) (k := 0) (m := 6) (d := (kR f_reticentref08_P)) (u := y1) (lfS (lfC lf1 (lfC lf1 (lfC (lfS (lfC lf1 (lfC lf1 (lfC lf1 lfN)))) (lfC lf1 lfN))))) rfl rfl rfl t287 tm) (s1 rfl) <| cp (oCall rfl (reticentref08_Label.ok hy2) b224 (opds_cons tm (opds_cons tm (opds_cons tm opds_nil)))) (s3 rfl rfl rfl) <| cwn (oStP (n := 0) (k := 0) (m := 6) (d := (kR f_reticentref08_P)) (u := y2) (lfS (lfC lf1 (lfC lf1 (lfC (lfS (lfC lf1 (lfC lf1 (lfC lf1 lfN)))) (lfC lf1 lfN))))) rfl rfl rfl z287 tm tm) (s2 rfl rfl) <| .nil) (by kernel_rfl) ?_
  refine pSeq ?_
  refine wSeq ?_
  refine rg (cp (oFldP o287_0 tm) (s1 rfl) <| cr (oLdB (n := 0) (k := 0) rfl rfl rfl t3 tm) (s1 rfl) <| cp (oFldP o287_3 tm) (s1 rfl) <| cr (oLdB (n := 0) (k := 5) rfl rfl rfl t34 tm) (s1 rfl) <| cp (oMv tm) (s1 rfl) <| cp (oFldP o287_1 tm) (s1 rfl) <| cr (oLdB (n := 0) (k := 1) rfl rfl rfl t3 tm) (s1 rfl) <| cp (oBuild (fs := f_api_Atom) (u := ⟨y1.N, y2.N⟩) rfl ze28 pl28 po28 (.op (zc := [(.int .i64 0)]) tm rfl (.op (zc := [(.int .i64 0)]) tm rfl .nil))) (s2 rfl rfl) <| cp (oBuildP (fs := f_reticentref09_P) (u := ⟨y2.I, (⟨y1.N, y2.N⟩ : api_Atom), y2.E⟩) rfl (.cons _ (.swap _ _ _)) ze184 pl184 po184 (.op (zc := [(.int .i64 0)]) tm rfl (.op (zc := [(.int .i64 0), (.int .i64 0)]) tm rfl (.op (zc := [(.int .i64 0)]) tm rfl .nil)))) (s3 rfl rfl rfl) <| cwn (oStP (n := 1) (k := 0) (m := 4) (d := (kR f_reticentref09_P)) (u := (⟨y2.I, (⟨y1.N, y2.N⟩ : api_Atom), y2.E⟩ : reticentref09_P)) (lfS (lfC lf1 (lfC (lfS (lfC lf1 (lfC lf1 lfN))) (lfC lf1 lfN)))) rfl rfl rfl z184 tm tm) (s2 rfl rfl) <| .nil) (by kernel_rfl) ?_
  refine pSeq ?_
  refine wRet ?_
  obtain rfl := so h
  exact pR1 (.inl rfl) rfl (.boxP (n := 1) (d := (kR f_reticentref09_P)) (u := (⟨y2.I, ⟨y1.N, y2.N⟩, y2.E⟩ : reticentref09_P)) rfl rfl (lfS (lfC lf1 (lfC (lfS (lfC lf1 (lfC lf1 lfN))) (lfC lf1 lfN)))) rfl t184 <| .nil)
theorem reticentref06_Word.ok {a0 : Int} {r : Str} (h : reticentref06_Word.f a0 = some r) : FnA Tryz.prog 145 [(kI .i64).sig a0] (kS.sig r) := by
  refine fnIntro Tryz.func145 rfl (by kernel_rfl) fun H0 w0 => ?_
  unfold reticentref06_Word.f at h
  refine wSeq ?_
  refine rg (cp (oAs (cS (by decide))) trivial <| .nil) (by kernel_rfl) ?_
  refine pSeq ?_
  refine wSeq ?_
  obtain ⟨y1, hy1, h⟩ := bd h
  refine rg (cp (oLit (d := kS) el22 (by decide) rfl rfl rfl (e1 (cS (by decide)) (e1 (cS (by decide)) (e1 (cS (by decide)) (e1 (cS (by decide)) (e1 (cS (by decide)) (e1 (cS (by decide)) (e1 (cS (by decide)) (e1 (cS (by decide)) (e1 (cS (by decide)) (e1 (cS (by decide)) (e1 (cS (by decide)) (e1 (cS (by decide)) (e1 (cS (by decide)) e0)))))))))))))) trivial <| cp (oMv tm) (s1 rfl) <| cp (oIdx u22 z9 hy1 tm tm) (s2 rfl rfl) <| cp (oLd t9 tm) (s1 rfl) <| cp (oAs tm) (s1 rfl) <| .nil) (by kernel_rfl) ?_
  refine pSeq ?_
  refine wRet ?_
  obtain rfl := so h
  exact pR1 (.inl rfl) rfl (.tmp rfl <| .nil)
theorem reticentref06_Op.ok {a0 : Str} {r : Int} (h : reticentref06_Op.f a0 = some r) : FnA Tryz.prog 225 [kS.sig a0] ((kI .i64).sig r) := by
  refine fnIntro Tryz.func225 rfl (by kernel_rfl) fun H0 w0 => ?_
  unfold reticentref06_Op.f at h
  refine wSeq ?_
  refine rg (cp (oAs (cI (by decide))) trivial <| .nil) (by kernel_rfl) ?_
  refine pSeq ?_
  refine wSeq ?_
  refine wSeq ?_
  refine rg (cp (oAs (cI (by decide))) trivial <| .nil) (by kernel_rfl) ?_
  refine pSeq ?_
  obtain ⟨o1, h, hk1⟩ := bd h
  refine wK0 (.inr () = o1) ([]) ([]) ?_ ?_
  · refine wBlock (wLoop ?_)
    refine lW (pc1 o1 (fun v7 => [(0, .d (kS.sig a0)), (3, .d ((kI .i64).sig v7))]) (fun v7 => []) (reticentref06_Op.l0.partial_correctness a0) ?_ _ h) ⟨rfl, rfl, trivial⟩ rfl
    clear h
    intro f' ih v7 h
    refine wSeq ?_
    refine wSeq ?_
    refine rg (cp (oMv tm) (s1 rfl) <| cp (oLt rfl tm (cI (by decide))) (s1 rfl) <| .nil) (by kernel_rfl) ?_
    refine pSeq ?_
    rcases ic h with ⟨hp8, h⟩ | ⟨hp8, h⟩
    · refine wCT hp8 tm (s1 rfl) ?_
      refine wSkip ?_
      refine pSeq ?_
      refine wSeq ?_
      refine wBlock ?_
      refine wSeq ?_
      obtain ⟨y9, hy9, h⟩ := bd h
      refine rg (cp (oMv tm) (s1 rfl) <| cp (oCall rfl (reticentref06_Word.ok hy9) b145 (opds_cons tm opds_nil)) (s1 rfl) <| cp (oMv tm) (s1 rfl) <| cp (oSEq rfl tm tm) (s2 rfl rfl) <| .nil) (by kernel_rfl) ?_
      refine pSeq ?_
      rcases ic h with ⟨hp10, h⟩ | ⟨hp10, h⟩
      · refine wCT hp10 tm (s1 rfl) ?_
        refine wSeq ?_
        refine rg (cp (oMv tm) (s1 rfl) <| cp (oAs tm) (s1 rfl) <| .nil) (by kernel_rfl) ?_
        refine pSeq ?_
        refine wRet ?_
        refine pBlkR ?_
        refine pThenR ?_
        refine pThenR ?_
        refine pBlkR ?_
        refine pThenR ?_
        obtain rfl := so h
        replace h := hk1
        refine pThenR ?_
        obtain rfl := so h
        exact pR1 (.inl rfl) rfl (.tmp rfl <| .nil)
      · refine wCF hp10 tm (s1 rfl) ?_
        refine wSkip ?_
        refine pBlkN ?_
        refine pSeq ?_
        refine rg (cp (oMv tm) (s1 rfl) <| cp (oAdd tm (cI (by decide))) (s1 rfl) <| cp (oAs tm) (s1 rfl) <| .nil) (by kernel_rfl) ?_
        exact pLoop (lW (ih _ h) ⟨rfl, rfl, trivial⟩ rfl)
    · refine wCF hp8 tm (s1 rfl) ?_
      refine wExit ?_
      refine pThenX ?_
      refine pThenX ?_
      refine pBlkX ?_
      exact pJ0 (so h) trivial rfl
  · rintro rfl
    replace h := hk1
    refine pSeq ?_
    refine wSeq ?_
    refine rg (cp (oAs (cI (by decide))) trivial <| .nil) (by kernel_rfl) ?_
    refine pSeq ?_
    refine wRet ?_
    obtain rfl := so h
    exact pR1 (.inl rfl) rfl (.tmp rfl <| .nil)
theorem reticentref08_Number.ok {a0 : Int} {r : Bool} (h : reticentref08_Number.f a0 = some r) : FnA Tryz.prog 146 [(kI .i64).sig a0] (kB.sig r) := by
  refine fnIntro Tryz.func146 rfl (by kernel_rfl) fun H0 w0 => ?_
  unfold reticentref08_Number.f at h
  refine wSeq ?_
  refine rg (cp (oAs cB) trivial <| .nil) (by kernel_rfl) ?_
  refine pSeq ?_
  obtain ⟨o1, h, hk1⟩ := bd h
  refine wJ1 (fun x4 => x4 = o1) (fun x4 => [(2, .d (kB.sig x4))]) (fun x4 => []) ?_ ?_
  · rcases ic h with ⟨hp5, h⟩ | ⟨hp5, h⟩
    · refine rg (cp (oMv tm) (s1 rfl) <| cp (oEq rfl tm (cI (by decide))) (s1 rfl) <| cp (oMv tm) (s1 rfl) <| csB (decide_eq_true hp5) rfl rfl <| csB (decide_eq_true hp5) rfl rfl <| cp (oPkT (decide_eq_true hp5) tm cB) (s1 rfl) <| cp (oMv tm) (s1 rfl) <| csB rfl rfl rfl <| csB rfl rfl rfl <| cp (oPkT rfl tm cB) (s1 rfl) <| cp (oMv tm) (s1 rfl) <| csB rfl rfl rfl <| csB rfl rfl rfl <| cp (oPkT rfl tm cB) (s1 rfl) <| cp (oAs tm) (s1 rfl) <| .nil) (by kernel_rfl) ?_
      exact pJ1 _ (so h) ⟨rfl, trivial⟩ rfl
    · rcases ic h with ⟨hp6, h⟩ | ⟨hp6, h⟩
      · refine rg (cp (oMv tm) (s1 rfl) <| cp (oEq rfl tm (cI (by decide))) (s1 rfl) <| cp (oMv tm) (s1 rfl) <| cgB (decide_eq_false hp5) rfl rfl (oMv tm) (s1 rfl) <| cgB (decide_eq_false hp5) rfl rfl (oEq rfl tm (cI (by decide))) (s1 rfl) <| cp (oPkF (decide_eq_false hp5) tm tm) (s2 rfl rfl) <| cp (oMv tm) (s1 rfl) <| csB (decide_eq_true hp6) rfl rfl <| csB (decide_eq_true hp6) rfl rfl <| cp (oPkT (decide_eq_true hp6) tm cB) (s1 rfl) <| cp (oMv tm) (s1 rfl) <| csB rfl rfl rfl <| csB rfl rfl rfl <| cp (oPkT rfl tm cB) (s1 rfl) <| cp (oAs tm) (s1 rfl) <| .nil) (by kernel_rfl) ?_
        exact pJ1 _ (so h) ⟨rfl, trivial⟩ rfl
      · rcases ic h with ⟨hp7, h⟩ | ⟨hp7, h⟩
        · refine rg (cp (oMv tm) (s1 rfl) <| cp (oEq rfl tm (cI (by decide))) (s1 rfl) <| cp (oMv tm) (s1 rfl) <| cgB (decide_eq_false hp5) rfl rfl (oMv tm) (s1 rfl) <| cgB (decide_eq_false hp5) rfl rfl (oEq rfl tm (cI (by decide))) (s1 rfl) <| cp (oPkF (decide_eq_false hp5) tm tm) (s2 rfl rfl) <| cp (oMv tm) (s1 rfl) <| cgB (decide_eq_false hp6) rfl rfl (oMv tm) (s1 rfl) <| cgB (decide_eq_false hp6) rfl rfl (oEq rfl tm (cI (by decide))) (s1 rfl) <| cp (oPkF (decide_eq_false hp6) tm tm) (s2 rfl rfl) <| cp (oMv tm) (s1 rfl) <| csB (decide_eq_true hp7) rfl rfl <| csB (decide_eq_true hp7) rfl rfl <| cp (oPkT (decide_eq_true hp7) tm cB) (s1 rfl) <| cp (oAs tm) (s1 rfl) <| .nil) (by kernel_rfl) ?_
          exact pJ1 _ (so h) ⟨rfl, trivial⟩ rfl
        · refine rg (cp (oMv tm) (s1 rfl) <| cp (oEq rfl tm (cI (by decide))) (s1 rfl) <| cp (oMv tm) (s1 rfl) <| cgB (decide_eq_false hp5) rfl rfl (oMv tm) (s1 rfl) <| cgB (decide_eq_false hp5) rfl rfl (oEq rfl tm (cI (by decide))) (s1 rfl) <| cp (oPkF (decide_eq_false hp5) tm tm) (s2 rfl rfl) <| cp (oMv tm) (s1 rfl) <| cgB (decide_eq_false hp6) rfl rfl (oMv tm) (s1 rfl) <| cgB (decide_eq_false hp6) rfl rfl (oEq rfl tm (cI (by decide))) (s1 rfl) <| cp (oPkF (decide_eq_false hp6) tm tm) (s2 rfl rfl) <| cp (oMv tm) (s1 rfl) <| cgB (decide_eq_false hp7) rfl rfl (oMv tm) (s1 rfl) <| cgB (decide_eq_false hp7) rfl rfl (oEq rfl tm (cI (by decide))) (s1 rfl) <| cp (oPkF (decide_eq_false hp7) tm tm) (s2 rfl rfl) <| cp (oAs tm) (s1 rfl) <| .nil) (by kernel_rfl) ?_
          exact pJ1 _ (so h) ⟨rfl, trivial⟩ rfl
  · rintro x4 rfl
    replace h := hk1
    refine wRet ?_
    obtain rfl := so h
    exact pR1 (.inl rfl) rfl (.tmp rfl <| .nil)
theorem reticentref08_Instr.ok {a0 : Int} {a1 : api_Instr} {r : Bool} (h : reticentref08_Instr.f a0 a1 = some r) : FnA Tryz.prog 137 [(kI .i64).sig a0, (kR f_api_Instr).sig a1] (kB.sig r) := by
  refine fnIntro Tryz.func137 rfl (by kernel_rfl) fun H0 w0 => ?_
  unfold reticentref08_Instr.f at h
  refine wSeq ?_
  refine rg (cp (oBox tm) (s1 rfl) <| cp (oAs cB) trivial <| .nil) (by kernel_rfl) ?_
  refine pSeq ?_
  refine wSeq ?_
  refine wSeq ?_
  refine rg (cp (oFld (fs := f_api_Instr) (k := 0) rfl o136_0 tm) (s1 rfl) <| cp (oLd t3 tm) (s1 rfl) <| cp (oEq rfl tm (cI (by decide))) (s1 rfl) <| .nil) (by kernel_rfl) ?_
  refine pSeq ?_
  rcases ic h with ⟨hp1, h⟩ | ⟨hp1, h⟩
  · refine wCT hp1 tm (s1 rfl) ?_
    obtain ⟨o1, h, hk1⟩ := bd h
    refine wJ1 (fun x5 => x5 = o1) (fun x5 => [(4, .d (kB.sig x5))]) (fun x5 => []) ?_ ?_
    · rcases ic h with ⟨hp6, h⟩ | ⟨hp6, h⟩
      · rcases ic h with ⟨hp7, h⟩ | ⟨hp7, h⟩
        · rcases ic h with ⟨hp8, h⟩ | ⟨hp8, h⟩
          · refine rg (cp (oFld (fs := f_api_Instr) (k := 1) rfl o136_1 tm) (s1 rfl) <| cp (oLd t3 tm) (s1 rfl) <| cp (oGe rfl tm (cI (by decide))) (s1 rfl) <| cp (oMv tm) (s1 rfl) <| cgB (decide_eq_true hp6) rfl rfl (oFld (fs := f_api_Instr) (k := 1) rfl o136_1 tm) (s1 rfl) <| cgB (decide_eq_true hp6) rfl rfl (oLd t3 tm) (s1 rfl) <| cgB (decide_eq_true hp6) rfl rfl (oLe rfl tm (cI (by decide))) (s1 rfl) <| cp (oPkT (decide_eq_true hp6) tm tm) (s2 rfl rfl) <| cp (oMv tm) (s1 rfl) <| cgB (decide_eq_true hp7) rfl rfl (oFld (fs := f_api_Instr) (k := 2) rfl o136_2 tm) (s1 rfl) <| cgB (decide_eq_true hp7) rfl rfl (oLd t3 tm) (s1 rfl) <| cgB (decide_eq_true hp7) rfl rfl (oGe rfl tm (cI (by decide))) (s1 rfl) <| cp (oPkT (decide_eq_true hp7) tm tm) (s2 rfl rfl) <| cp (oMv tm) (s1 rfl) <| cgB (decide_eq_true hp8) rfl rfl (oFld (fs := f_api_Instr) (k := 2) rfl o136_2 tm) (s1 rfl) <| cgB (decide_eq_true hp8) rfl rfl (oLd t3 tm) (s1 rfl) <| cgB (decide_eq_true hp8) rfl rfl (oMv tm) (s1 rfl) <| cgB (decide_eq_true hp8) rfl rfl (oLt rfl tm tm) (s2 rfl rfl) <| cp (oPkT (decide_eq_true hp8) tm tm) (s2 rfl rfl) <| cp (oAs tm) (s1 rfl) <| .nil) (by kernel_rfl) ?_
            exact pJ1 _ (so h) ⟨rfl, trivial⟩ rfl
          · refine rg (cp (oFld (fs := f_api_Instr) (k := 1) rfl o136_1 tm) (s1 rfl) <| cp (oLd t3 tm) (s1 rfl) <| cp (oGe rfl tm (cI (by decide))) (s1 rfl) <| cp (oMv tm) (s1 rfl) <| cgB (decide_eq_true hp6) rfl rfl (oFld (fs := f_api_Instr) (k := 1) rfl o136_1 tm) (s1 rfl) <| cgB (decide_eq_true hp6) rfl rfl (oLd t3 tm) (s1 rfl) <| cgB (decide_eq_true hp6) rfl rfl (oLe rfl tm (cI (by decide))) (s1 rfl) <| cp (oPkT (decide_eq_true hp6) tm tm) (s2 rfl rfl) <| cp (oMv tm) (s1 rfl) <| cgB (decide_eq_true hp7) rfl rfl (oFld (fs := f_api_Instr) (k := 2) rfl o136_2 tm) (s1 rfl) <| cgB (decide_eq_true hp7) rfl rfl (oLd t3 tm) (s1 rfl) <| cgB (decide_eq_true hp7) rfl rfl (oGe rfl tm (cI (by decide))) (s1 rfl) <| cp (oPkT (decide_eq_true hp7) tm tm) (s2 rfl rfl) <| cp (oMv tm) (s1 rfl) <| csB (decide_eq_false hp8) rfl rfl <| csB (decide_eq_false hp8) rfl rfl <| csB (decide_eq_false hp8) rfl rfl <| csB (decide_eq_false hp8) rfl rfl <| cp (oPkF (decide_eq_false hp8) tm cB) (s1 rfl) <| cp (oAs tm) (s1 rfl) <| .nil) (by kernel_rfl) ?_
            exact pJ1 _ (so h) ⟨rfl, trivial⟩ rfl
        · refine rg (cp (oFld (fs := f_api_Instr) (k := 1) rfl o136_1 tm) (s1 rfl) <| cp (oLd t3 tm) (s1 rfl) <| cp (oGe rfl tm (cI (by decide))) (s1 rfl) <| cp (oMv tm) (s1 rfl) <| cgB (decide_eq_true hp6) rfl rfl (oFld (fs := f_api_Instr) (k := 1) rfl o136_1 tm) (s1 rfl) <| cgB (decide_eq_true hp6) rfl rfl (oLd t3 tm) (s1 rfl) <| cgB (decide_eq_true hp6) rfl rfl (oLe rfl tm (cI (by decide))) (s1 rfl) <| cp (oPkT (decide_eq_true hp6) tm tm) (s2 rfl rfl) <| cp (oMv tm) (s1 rfl) <| csB (decide_eq_false hp7) rfl rfl <| csB (decide_eq_false hp7) rfl rfl <| csB (decide_eq_false hp7) rfl rfl <| cp (oPkF (decide_eq_false hp7) tm cB) (s1 rfl) <| cp (oMv tm) (s1 rfl) <| csB rfl rfl rfl <| csB rfl rfl rfl <| csB rfl rfl rfl <| csB rfl rfl rfl <| cp (oPkF rfl tm cB) (s1 rfl) <| cp (oAs tm) (s1 rfl) <| .nil) (by kernel_rfl) ?_
          exact pJ1 _ (so h) ⟨rfl, trivial⟩ rfl
      · refine rg (cp (oFld (fs := f_api_Instr) (k := 1) rfl o136_1 tm) (s1 rfl) <| cp (oLd t3 tm) (s1 rfl) <| cp (oGe rfl tm (cI (by decide))) (s1 rfl) <| cp (oMv tm) (s1 rfl) <| csB (decide_eq_false hp6) rfl rfl <| csB (decide_eq_false hp6) rfl rfl <| csB (decide_eq_false hp6) rfl rfl <| cp (oPkF (decide_eq_false hp6) tm cB) (s1 rfl) <| cp (oMv tm) (s1 rfl) <| csB rfl rfl rfl <| csB rfl rfl rfl <| csB rfl rfl rfl <| cp (oPkF rfl tm cB) (s1 rfl) <| cp (oMv tm) (s1 rfl) <| csB rfl rfl rfl <| csB rfl rfl rfl <| csB rfl rfl rfl <| csB rfl rfl rfl <| cp (oPkF rfl tm cB) (s1 rfl) <| cp (oAs tm) (s1 rfl) <| .nil) (by kernel_rfl) ?_
        exact pJ1 _ (so h) ⟨rfl, trivial⟩ rfl
    · rintro x5 rfl
      replace h := hk1
      refine wRet ?_
      refine pThenR ?_
      obtain rfl := so h
      exact pR1 (.inl rfl) rfl (.tmp rfl <| .nil)
  · refine wCF hp1 tm (s1 rfl) ?_
    refine wSkip ?_
    refine pSeq ?_
    refine wSeq ?_
    obtain ⟨o1, h, hk1⟩ := bd h
    refine wJ1 (fun x11 => x11 = o1) (fun x11 => [(3, .d (sP (kR f_api_Instr) a1)), (39, .d (kB.sig x11))]) (fun x11 => []) ?_ ?_
    · rcases ic h with ⟨hp12, h⟩ | ⟨hp12, h⟩
      · refine rg (cp (oFld (fs := f_api_Instr) (k := 0) rfl o136_0 tm) (s1 rfl) <| cp (oLd t3 tm) (s1 rfl) <| cp (oLt rfl tm (cI (by decide))) (s1 rfl) <| cp (oMv tm) (s1 rfl) <| csB (decide_eq_true hp12) rfl rfl <| csB (decide_eq_true hp12) rfl rfl <| csB (decide_eq_true hp12) rfl rfl <| cp (oPkT (decide_eq_true hp12) tm cB) (s1 rfl) <| cp (oMv tm) (s1 rfl) <| csB rfl rfl rfl <| csB rfl rfl rfl <| csB rfl rfl rfl <| cp (oPkT rfl tm cB) (s1 rfl) <| .nil) (by kernel_rfl) ?_
        exact pJ1 _ (so h) ⟨rfl, rfl, trivial⟩ rfl
      · rcases ic h with ⟨hp13, h⟩ | ⟨hp13, h⟩
        · refine rg (cp (oFld (fs := f_api_Instr) (k := 0) rfl o136_0 tm) (s1 rfl) <| cp (oLd t3 tm) (s1 rfl) <| cp (oLt rfl tm (cI (by decide))) (s1 rfl) <| cp (oMv tm) (s1 rfl) <| cgB (decide_eq_false hp12) rfl rfl (oFld (fs := f_api_Instr) (k := 0) rfl o136_0 tm) (s1 rfl) <| cgB (decide_eq_false hp12) rfl rfl (oLd t3 tm) (s1 rfl) <| cgB (decide_eq_false hp12) rfl rfl (oGt rfl tm (cI (by decide))) (s1 rfl) <| cp (oPkF (decide_eq_false hp12) tm tm) (s2 rfl rfl) <| cp (oMv tm) (s1 rfl) <| csB (decide_eq_true hp13) rfl rfl <| csB (decide_eq_true hp13) rfl rfl <| csB (decide_eq_true hp13) rfl rfl <| cp (oPkT (decide_eq_true hp13) tm cB) (s1 rfl) <| .nil) (by kernel_rfl) ?_
          exact pJ1 _ (so h) ⟨rfl, rfl, trivial⟩ rfl
        · refine rg (cp (oFld (fs := f_api_Instr) (k := 0) rfl o136_0 tm) (s1 rfl) <| cp (oLd t3 tm) (s1 rfl) <| cp (oLt rfl tm (cI (by decide))) (s1 rfl) <| cp (oMv tm) (s1 rfl) <| cgB (decide_eq_false hp12) rfl rfl (oFld (fs := f_api_Instr) (k := 0) rfl o136_0 tm) (s1 rfl) <| cgB (decide_eq_false hp12) rfl rfl (oLd t3 tm) (s1 rfl) <| cgB (decide_eq_false hp12) rfl rfl (oGt rfl tm (cI (by decide))) (s1 rfl) <| cp (oPkF (decide_eq_false hp12) tm tm) (s2 rfl rfl) <| cp (oMv tm) (s1 rfl) <| cgB (decide_eq_false hp13) rfl rfl (oFld (fs := f_api_Instr) (k := 2) rfl o136_2 tm) (s1 rfl) <| cgB (decide_eq_false hp13) rfl rfl (oLd t3 tm) (s1 rfl) <| cgB (decide_eq_false hp13) rfl rfl (oNe rfl tm (cI (by decide))) (s1 rfl) <| cp (oPkF (decide_eq_false hp13) tm tm) (s2 rfl rfl) <| .nil) (by kernel_rfl) ?_
          exact pJ1 _ (so h) ⟨rfl, rfl, trivial⟩ rfl
    · rintro x11 rfl
      replace h := hk1
      rcases ic h with ⟨hp14, h⟩ | ⟨hp14, h⟩
      · refine wBT hp14 tm (s1 rfl) ?_
        refine wSeq ?_
        refine rg (cp (oAs cB) trivial <| .nil) (by kernel_rfl) ?_
        refine pSeq ?_
        refine wRet ?_
        refine pThenR ?_
        obtain rfl := so h
        exact pR1 (.inl rfl) rfl (.tmp rfl <| .nil)
      · refine wBF hp14 tm (s1 rfl) ?_
        refine wSkip ?_
        refine pSeq ?_
        refine wSeq ?_
        refine wSeq ?_
        refine rg (cp (oFld (fs := f_api_Instr) (k := 0) rfl o136_0 tm) (s1 rfl) <| cp (oLd t3 tm) (s1 rfl) <| cp (oEq rfl tm (cI (by decide))) (s1 rfl) <| .nil) (by kernel_rfl) ?_
        refine pSeq ?_
        rcases ic h with ⟨hp15, h⟩ | ⟨hp15, h⟩
        · refine wCT hp15 tm (s1 rfl) ?_
          obtain ⟨o1, h, hk1⟩ := bd h
          refine wJ1 (fun x17 => x17 = o1) (fun x17 => [(4, .d (kB.sig x17))]) (fun x17 => []) ?_ ?_
          · rcases ic h with ⟨hp18, h⟩ | ⟨hp18, h⟩
            · refine rg (cp (oFld (fs := f_api_Instr) (k := 1) rfl o136_1 tm) (s1 rfl) <| cp (oLd t3 tm) (s1 rfl) <| cp (oGe rfl tm (cI (by decide))) (s1 rfl) <| cp (oMv tm) (s1 rfl) <| cgB (decide_eq_true hp18) rfl rfl (oFld (fs := f_api_Instr) (k := 1) rfl o136_1 tm) (s1 rfl) <| cgB (decide_eq_true hp18) rfl rfl (oLd t3 tm) (s1 rfl) <| cgB (decide_eq_true hp18) rfl rfl (oLe rfl tm (cI (by decide))) (s1 rfl) <| cp (oPkT (decide_eq_true hp18) tm tm) (s2 rfl rfl) <| cp (oAs tm) (s1 rfl) <| .nil) (by kernel_rfl) ?_
              exact pJ1 _ (so h) ⟨rfl, trivial⟩ rfl
            · refine rg (cp (oFld (fs := f_api_Instr) (k := 1) rfl o136_1 tm) (s1 rfl) <| cp (oLd t3 tm) (s1 rfl) <| cp (oGe rfl tm (cI (by decide))) (s1 rfl) <| cp (oMv tm) (s1 rfl) <| csB (decide_eq_false hp18) rfl rfl <| csB (decide_eq_false hp18) rfl rfl <| csB (decide_eq_false hp18) rfl rfl <| cp (oPkF (decide_eq_false hp18) tm cB) (s1 rfl) <| cp (oAs tm) (s1 rfl) <| .nil) (by kernel_rfl) ?_
              exact pJ1 _ (so h) ⟨rfl, trivial⟩ rfl
          · rintro x17 rfl
            replace h := hk1
            refine wRet ?_
            refine pThenR ?_
            obtain rfl := so h
            exact pR1 (.inl rfl) rfl (.tmp rfl <| .nil)
        · refine wCF hp15 tm (s1 rfl) ?_
          refine wSkip ?_
          refine pSeq ?_
          refine wSeq ?_
          refine wSeq ?_
          refine rg (cp (oFld (fs := f_api_Instr) (k := 0) rfl o136_0 tm) (s1 rfl) <| cp (oLd t3 tm) (s1 rfl) <| cp (oEq rfl tm (cI (by decide))) (s1 rfl) <| .nil) (by kernel_rfl) ?_
          refine pSeq ?_
          rcases ic h with ⟨hp19, h⟩ | ⟨hp19, h⟩
          · refine wCT hp19 tm (s1 rfl) ?_
            obtain ⟨o1, h, hk1⟩ := bd h
            refine wJ1 (fun x21 => x21 = o1) (fun x21 => [(4, .d (kB.sig x21))]) (fun x21 => []) ?_ ?_
            · rcases ic h with ⟨hp22, h⟩ | ⟨hp22, h⟩
              · refine rg (cp (oFld (fs := f_api_Instr) (k := 1) rfl o136_1 tm) (s1 rfl) <| cp (oLd t3 tm) (s1 rfl) <| cp (oGe rfl tm (cI (by decide))) (s1 rfl) <| cp (oMv tm) (s1 rfl) <| cgB (decide_eq_true hp22) rfl rfl (oFld (fs := f_api_Instr) (k := 1) rfl o136_1 tm) (s1 rfl) <| cgB (decide_eq_true hp22) rfl rfl (oLd t3 tm) (s1 rfl) <| cgB (decide_eq_true hp22) rfl rfl (oLe rfl tm (cI (by decide))) (s1 rfl) <| cp (oPkT (decide_eq_true hp22) tm tm) (s2 rfl rfl) <| cp (oAs tm) (s1 rfl) <| .nil) (by kernel_rfl) ?_
                exact pJ1 _ (so h) ⟨rfl, trivial⟩ rfl
              · refine rg (cp (oFld (fs := f_api_Instr) (k := 1) rfl o136_1 tm) (s1 rfl) <| cp (oLd t3 tm) (s1 rfl) <| cp (oGe rfl tm (cI (by decide))) (s1 rfl) <| cp (oMv tm) (s1 rfl) <| csB (decide_eq_false hp22) rfl rfl <| csB (decide_eq_false hp22) rfl rfl <| csB (decide_eq_false hp22) rfl rfl <| cp (oPkF (decide_eq_false hp22) tm cB) (s1 rfl) <| cp (oAs tm) (s1 rfl) <| .nil) (by kernel_rfl) ?_
                exact pJ1 _ (so h) ⟨rfl, trivial⟩ rfl
            · rintro x21 rfl
              replace h := hk1
              refine wRet ?_
              refine pThenR ?_
              obtain rfl := so h
              exact pR1 (.inl rfl) rfl (.tmp rfl <| .nil)
          · refine wCF hp19 tm (s1 rfl) ?_
            refine wSkip ?_
            refine pSeq ?_
            refine wSeq ?_
            refine wSeq ?_
            refine rg (cp (oFld (fs := f_api_Instr) (k := 0) rfl o136_0 tm) (s1 rfl) <| cp (oLd t3 tm) (s1 rfl) <| cp (oEq rfl tm (cI (by decide))) (s1 rfl) <| .nil) (by kernel_rfl) ?_
            refine pSeq ?_
            rcases ic h with ⟨hp23, h⟩ | ⟨hp23, h⟩
            · refine wCT hp23 tm (s1 rfl) ?_
              obtain ⟨o1, h, hk1⟩ := bd h
              refine wJ1 (fun x25 => x25 = o1) (fun x25 => [(4, .d (kB.sig x25))]) (fun x25 => []) ?_ ?_
              · rcases ic h with ⟨hp26, h⟩ | ⟨hp26, h⟩
                · refine rg (cp (oFld (fs := f_api_Instr) (k := 1) rfl o136_1 tm) (s1 rfl) <| cp (oLd t3 tm) (s1 rfl) <| cp (oEq rfl tm (cI (by decide))) (s1 rfl) <| cp (oMv tm) (s1 rfl) <| csB (decide_eq_true hp26) rfl rfl <| csB (decide_eq_true hp26) rfl rfl <| csB (decide_eq_true hp26) rfl rfl <| cp (oPkT (decide_eq_true hp26) tm cB) (s1 rfl) <| cp (oAs tm) (s1 rfl) <| .nil) (by kernel_rfl) ?_
                  exact pJ1 _ (so h) ⟨rfl, trivial⟩ rfl
                · refine rg (cp (oFld (fs := f_api_Instr) (k := 1) rfl o136_1 tm) (s1 rfl) <| cp (oLd t3 tm) (s1 rfl) <| cp (oEq rfl tm (cI (by decide))) (s1 rfl) <| cp (oMv tm) (s1 rfl) <| cgB (decide_eq_false hp26) rfl rfl (oFld (fs := f_api_Instr) (k := 1) rfl o136_1 tm) (s1 rfl) <| cgB (decide_eq_false hp26) rfl rfl (oLd t3 tm) (s1 rfl) <| cgB (decide_eq_false hp26) rfl rfl (oEq rfl tm (cI (by decide))) (s1 rfl) <| cp (oPkF (decide_eq_false hp26) tm tm) (s2 rfl rfl) <| cp (oAs tm) (s1 rfl) <| .nil) (by kernel_rfl) ?_
                  exact pJ1 _ (so h) ⟨rfl, trivial⟩ rfl
              · rintro x25 rfl
                replace h := hk1
                refine wRet ?_
                refine pThenR ?_
                obtain rfl := so h
                exact pR1 (.inl rfl) rfl (.tmp rfl <| .nil)
            · refine wCF hp23 tm (s1 rfl) ?_
              refine wSkip ?_
              refine pSeq ?_
              refine wSeq ?_
              refine rg (cp (oFld (fs := f_api_Instr) (k := 1) rfl o136_1 tm) (s1 rfl) <| cp (oLd t3 tm) (s1 rfl) <| cp (oEq rfl tm (cI (by decide))) (s1 rfl) <| cp (oAs tm) (s1 rfl) <| .nil) (by kernel_rfl) ?_
              refine pSeq ?_
              refine wRet ?_
              obtain rfl := so h
              exact pR1 (.inl rfl) rfl (.tmp rfl <| .nil)
theorem reticentref08_one.ok {a0 : api_Lattice} {a1 : List api_Tok} {a2 : Int} {a3 : Int} {r : reticentref08_P} (h : reticentref08_one.f a0 a1 a2 a3 = some r) : FnA Tryz.prog 226 [(kR f_api_Lattice).sig a0, (kL (kR f_api_Tok)).sig a1, (kI .i64).sig a2, (kI .i64).sig a3] ((kR f_reticentref08_P).sig r) := by
  refine fnIntro Tryz.func226 rfl (by kernel_rfl) fun H0 w0 => ?_
  unfold reticentref08_one.f at h
  refine wSeq ?_
  refine rg (cp (oBox tm) (s1 rfl) <| cw (oAlloc (id := 8) (ls := [.d (kI .i64) 0, .d (kI .i64) 0, .d (kI .i64) 0, .d (kI .i64) 0, .d (kI .i64) 0, .d (kI .i64) 0]) ze287 (fun g => ⟨[(.int .i64 0)], _, rfl, zI_i64 g.H, ⟨[(.int .i64 0)], _, rfl, zI_i64 g.H, ⟨[(.int .i64 0)], _, rfl, zI_i64 g.H, ⟨[(.int .i64 0)], _, rfl, zI_i64 g.H, ⟨[(.int .i64 0)], _, rfl, zI_i64 g.H, ⟨[(.int .i64 0)], _, rfl, zI_i64 g.H, rfl⟩⟩⟩⟩⟩⟩)) trivial <| .nil) (by kernel_rfl) ?_
  refine pSeq ?_
  refine wSeq ?_
  refine rg (cp (oMv tm) (s1 rfl) <| cp (oAdd tm (cI (by decide))) (s1 rfl) <| cp (oBuild (fs := f_reticentref08_P) (u := ⟨IntKind.i64.wrap (a2 + 1), 0, (⟨0, 0, 0⟩ : api_Instr), 0⟩) rfl ze287 pl287 po287 (.op (zc := [(.int .i64 0)]) tm rfl (.ze (zc := [(.int .i64 0)]) zI_i64 (.ze (zc := [(.int .i64 0), (.int .i64 0), (.int .i64 0)]) zR_api_Instr (.ze (zc := [(.int .i64 0)]) zI_i64 .nil))))) (s1 rfl) <| cw (oAlloc (id := 9) (ls := [.d (kI .i64) 0, .d (kI .i64) 0, .d (kI .i64) 0, .d (kI .i64) 0, .d (kI .i64) 0, .d (kI .i64) 0]) ze287 (fun g => ⟨[(.int .i64 0)], _, rfl, zI_i64 g.H, ⟨[(.int .i64 0)], _, rfl, zI_i64 g.H, ⟨[(.int .i64 0)], _, rfl, zI_i64 g.H, ⟨[(.int .i64 0)], _, rfl, zI_i64 g.H, ⟨[(.int .i64 0)], _, rfl, zI_i64 g.H, ⟨[(.int .i64 0)], _, rfl, zI_i64 g.H, rfl⟩⟩⟩⟩⟩⟩)) trivial <| cwn (oStP (n := 0) (k := 0) (m := 6) (d := (kR f_reticentref08_P)) (u := (⟨IntKind.i64.wrap (a2 + 1), 0, (⟨0, 0, 0⟩ : api_Instr), 0⟩ : reticentref08_P)) (lfS (lfC lf1 (lfC lf1 (lfC (lfS (lfC lf1 (lfC lf1 (lfC lf1 lfN)))) (lfC lf1 lfN))))) rfl rfl rfl z287 tm tm) (s2 rfl rfl) <| .nil) (by kernel_rfl) ?_
  refine pSeq ?_
  refine wSeq ?_
  refine rg (cp (oMv tm) (s1 rfl) <| cp (oFldP o287_2 tm) (s1 rfl) <| cp (oFldP o136_0 tm) (s1 rfl) <| cwn (oSt (n := 0) (k := 2) rfl rfl rfl rfl z3 tm tm) (s2 rfl rfl) <| .nil) (by kernel_rfl) ?_
  refine pSeq ?_
  refine wSeq ?_
  refine wSeq ?_
  obtain ⟨y1, hy1, h⟩ := bd h
  refine rg (cp (oMv tm) (s1 rfl) <| cp (oCall rfl (reticentref08_Number.ok hy1) b146 (opds_cons tm opds_nil)) (s1 rfl) <| .nil) (by kernel_rfl) ?_
  refine pSeq ?_
  rcases ic h with ⟨hp2, h⟩ | ⟨hp2, h⟩
  · refine wBT hp2 tm (s1 rfl) ?_
    refine wSeq ?_
    obtain ⟨y3, hy3, h⟩ := bd h
    refine rg (cp (oMv tm) (s1 rfl) <| cr (oLdP (n := 0) (k := 0) (m := 6) (d := (kR f_reticentref08_P)) (u := (⟨IntKind.i64.wrap (a2 + 1), 0, ⟨a3, 0, 0⟩, 0⟩ : reticentref08_P)) (lfS (lfC lf1 (lfC lf1 (lfC (lfS (lfC lf1 (lfC lf1 (lfC lf1 lfN)))) (lfC lf1 lfN))))) rfl rfl rfl t287 tm) (s1 rfl) <| cp (oCall rfl (reticentref08_Int.ok hy3) b223 (opds_cons tm (opds_cons tm opds_nil))) (s2 rfl rfl) <| cwn (oStP (n := 0) (k := 0) (m := 6) (d := (kR f_reticentref08_P)) (u := y3) (lfS (lfC lf1 (lfC lf1 (lfC (lfS (lfC lf1 (lfC lf1 (lfC lf1 lfN)))) (lfC lf1 lfN))))) rfl rfl rfl z287 tm tm) (s2 rfl rfl) <| .nil) (by kernel_rfl) ?_
    refine pSeq ?_
    refine rg (cp (oFldP o287_1 tm) (s1 rfl) <| cr (oLdB (n := 0) (k := 1) rfl rfl rfl t3 tm) (s1 rfl) <| cp (oFldP o287_2 tm) (s1 rfl) <| cp (oFldP o136_1 tm) (s1 rfl) <| cwn (oSt (n := 0) (k := 3) rfl rfl rfl rfl z3 tm tm) (s2 rfl rfl) <| .nil) (by kernel_rfl) ?_
    refine pSeq ?_
    refine wSeq ?_
    refine wSeq ?_
    refine rg (cp (oMv tm) (s1 rfl) <| cp (oEq rfl tm (cI (by decide))) (s1 rfl) <| .nil) (by kernel_rfl) ?_
    refine pSeq ?_
    rcases ic h with ⟨hp4, h⟩ | ⟨hp4, h⟩
    · refine wCT hp4 tm (s1 rfl) ?_
      refine wSeq ?_
      obtain ⟨y5, hy5, h⟩ := bd h
      refine rg (cp (oLd t25 tm) (s1 rfl) <| cp (oMv tm) (s1 rfl) <| cr (oLdP (n := 0) (k := 0) (m := 6) (d := (kR f_reticentref08_P)) (u := (⟨y3.I, y3.N, ⟨y3.X.Op, y3.N, y3.X.L⟩, y3.E⟩ : reticentref08_P)) (lfS (lfC lf1 (lfC lf1 (lfC (lfS (lfC lf1 (lfC lf1 (lfC lf1 lfN)))) (lfC lf1 lfN))))) rfl rfl rfl t287 tm) (s1 rfl) <| cp (oCall rfl (reticentref08_Label.ok hy5) b224 (opds_cons tm (opds_cons tm (opds_cons tm opds_nil)))) (s3 rfl rfl rfl) <| cwn (oStP (n := 0) (k := 0) (m := 6) (d := (kR f_reticentref08_P)) (u := y5) (lfS (lfC lf1 (lfC lf1 (lfC (lfS (lfC lf1 (lfC lf1 (lfC lf1 lfN)))) (lfC lf1 lfN))))) rfl rfl rfl z287 tm tm) (s2 rfl rfl) <| .nil) (by kernel_rfl) ?_
      refine pSeq ?_
      refine rg (cp (oFldP o287_1 tm) (s1 rfl) <| cr (oLdB (n := 0) (k := 1) rfl rfl rfl t3 tm) (s1 rfl) <| cp (oFldP o287_2 tm) (s1 rfl) <| cp (oFldP o136_2 tm) (s1 rfl) <| cwn (oSt (n := 0) (k := 4) rfl rfl rfl rfl z3 tm tm) (s2 rfl rfl) <| .nil) (by kernel_rfl) ?_
      refine pSeq ?_
      refine wSeq ?_
      obtain ⟨y6, hy6, h⟩ := bd h
      refine rg (cp (oMv tm) (s1 rfl) <| cr (oLdP (n := 0) (k := 0) (m := 6) (d := (kR f_reticentref08_P)) (u := (⟨y5.I, y5.N, ⟨y5.X.Op, y5.X.N, y5.N⟩, y5.E⟩ : reticentref08_P)) (lfS (lfC lf1 (lfC lf1 (lfC (lfS (lfC lf1 (lfC lf1 (lfC lf1 lfN)))) (lfC lf1 lfN))))) rfl rfl rfl t287 tm) (s1 rfl) <| cp (oCall rfl (reticentref08_Mark.ok hy6) b305 (opds_cons tm (opds_cons tm (opds_cons (cS (by decide)) opds_nil)))) (s2 rfl rfl) <| cwn (oStP (n := 0) (k := 0) (m := 6) (d := (kR f_reticentref08_P)) (u := y6) (lfS (lfC lf1 (lfC lf1 (lfC (lfS (lfC lf1 (lfC lf1 (lfC lf1 lfN)))) (lfC lf1 lfN))))) rfl rfl rfl z287 tm tm) (s2 rfl rfl) <| .nil) (by kernel_rfl) ?_
      refine pSeq ?_
      refine wSeq ?_
      obtain ⟨o1, h, hk1⟩ := bd h
      refine wJ1 (fun x9 => x9 = o1) (fun x9 => [(2, .d ((kI .i64).sig a2)), (8, .p 8 0), (9, .p 9 0), (49, .d (kB.sig x9))]) (fun x9 => [.box 9 287 [.d (kI .i64) y6.I, .d (kI .i64) y6.N, .d (kI .i64) y6.X.Op, .d (kI .i64) y6.X.N, .d (kI .i64) y6.X.L, .d (kI .i64) y6.E], .box 8 287 [.d (kI .i64) 0, .d (kI .i64) 0, .d (kI .i64) 0, .d (kI .i64) 0, .d (kI .i64) 0, .d (kI .i64) 0]]) ?_ ?_
      · rcases ic h with ⟨hp10, h⟩ | ⟨hp10, h⟩
        · obtain ⟨y11, hy11, h⟩ := bd h
          refine rg (cp (oFldP o287_3 tm) (s1 rfl) <| cr (oLdB (n := 0) (k := 5) rfl rfl rfl t34 tm) (s1 rfl) <| cp (oEq rfl tm (cI (by decide))) (s1 rfl) <| cp (oMv tm) (s1 rfl) <| cgB (decide_eq_true hp10) rfl rfl (oFld (fs := f_api_Lattice) (k := 1) rfl o25_1 tm) (s1 rfl) <| cgB (decide_eq_true hp10) rfl rfl (oLd t23 tm) (s1 rfl) <| cgB (decide_eq_true hp10) rfl rfl (oLenL u23 tm) (s1 rfl) <| cgB (decide_eq_true hp10) rfl rfl (oFldP o287_2 tm) (s1 rfl) <| crgB (decide_eq_true hp10) rfl rfl (oLdP (n := 0) (k := 2) (m := 3) (d := (kR f_api_Instr)) (u := y6.X) (lfS (lfC lf1 (lfC lf1 (lfC lf1 lfN)))) rfl rfl rfl t136 tm) (s1 rfl) <| cgB (decide_eq_true hp10) rfl rfl (oCall rfl (reticentref08_Instr.ok hy11) b137 (opds_cons tm (opds_cons tm opds_nil))) (s2 rfl rfl) <| cgB (decide_eq_true hp10) rfl rfl (oNot tm) (s1 rfl) <| cp (oPkT (decide_eq_true hp10) tm tm) (s2 rfl rfl) <| .nil) (by kernel_rfl) ?_
          exact pJ1 _ (so h) ⟨rfl, rfl, rfl, rfl, trivial⟩ rfl
        · refine rg (cp (oFldP o287_3 tm) (s1 rfl) <| cr (oLdB (n := 0) (k := 5) rfl rfl rfl t34 tm) (s1 rfl) <| cp (oEq rfl tm (cI (by decide))) (s1 rfl) <| cp (oMv tm) (s1 rfl) <| csB (decide_eq_false hp10) rfl rfl <| csB (decide_eq_false hp10) rfl rfl <| csB (decide_eq_false hp10) rfl rfl <| csB (decide_eq_false hp10) rfl rfl <| csB (decide_eq_false hp10) rfl rfl <| csB (decide_eq_false hp10) rfl rfl <| csB (decide_eq_false hp10) rfl rfl <| cp (oPkF (decide_eq_false hp10) tm cB) (s1 rfl) <| .nil) (by kernel_rfl) ?_
          exact pJ1 _ (so h) ⟨rfl, rfl, rfl, rfl, trivial⟩ rfl
      · rintro x9 rfl
        replace h := hk1
        rcases ic h with ⟨hp12, h⟩ | ⟨hp12, h⟩
        · refine wBT hp12 tm (s1 rfl) ?_
          refine wSeq ?_
          refine rg (cp (oMv tm) (s1 rfl) <| cp (oBuild (fs := f_reticentref08_P) (u := ⟨a2, 0, (⟨0, 0, 0⟩ : api_Instr), 1⟩) rfl ze287 pl287 po287 (.op (zc := [(.int .i64 0)]) tm rfl (.ze (zc := [(.int .i64 0)]) zI_i64 (.ze (zc := [(.int .i64 0), (.int .i64 0), (.int .i64 0)]) zR_api_Instr (.op (zc := [(.int .i64 0)]) (cI (by decide)) rfl .nil))))) (s1 rfl) <| cwn (oStP (n := 1) (k := 0) (m := 6) (d := (kR f_reticentref08_P)) (u := (⟨a2, 0, (⟨0, 0, 0⟩ : api_Instr), 1⟩ : reticentref08_P)) (lfS (lfC lf1 (lfC lf1 (lfC (lfS (lfC lf1 (lfC lf1 (lfC lf1 lfN)))) (lfC lf1 lfN))))) rfl rfl rfl z287 tm tm) (s2 rfl rfl) <| .nil) (by kernel_rfl) ?_
          refine pSeq ?_
          refine wRet ?_
          refine pThenR ?_
          obtain rfl := so h
          exact pR1 (.inl rfl) rfl (.boxP (n := 1) (d := (kR f_reticentref08_P)) (u := (⟨a2, 0, ⟨0, 0, 0⟩, 1⟩ : reticentref08_P)) rfl rfl (lfS (lfC lf1 (lfC lf1 (lfC (lfS (lfC lf1 (lfC lf1 (lfC lf1 lfN)))) (lfC lf1 lfN))))) rfl t287 <| .nil)
        · refine wBF hp12 tm (s1 rfl) ?_
          refine wSkip ?_
          refine pSeq ?_
          refine wSeq ?_
          refine rg (cr (oLdP (n := 0) (k := 0) (m := 6) (d := (kR f_reticentref08_P)) (u := y6) (lfS (lfC lf1 (lfC lf1 (lfC (lfS (lfC lf1 (lfC lf1 (lfC lf1 lfN)))) (lfC lf1 lfN))))) rfl rfl rfl t287 tm) (s1 rfl) <| cwn (oStP (n := 1) (k := 0) (m := 6) (d := (kR f_reticentref08_P)) (u := y6) (lfS (lfC lf1 (lfC lf1 (lfC (lfS (lfC lf1 (lfC lf1 (lfC lf1 lfN)))) (lfC lf1 lfN))))) rfl rfl rfl z287 tm tm) (s2 rfl rfl) <| .nil) (by kernel_rfl) ?_
          refine pSeq ?_
          refine wRet ?_
          obtain rfl := so h
          exact pR1 (.inl rfl) rfl (.boxP (n := 1) (d := (kR f_reticentref08_P)) (u := y6) rfl rfl (lfS (lfC lf1 (lfC lf1 (lfC (lfS (lfC lf1 (lfC lf1 (lfC lf1 lfN)))) (lfC lf1 lfN))))) rfl t287 <| .nil)
    · refine wCF hp4 tm (s1 rfl) ?_
      refine wSkip ?_
      refine pSeq ?_
      refine wSeq ?_
      obtain ⟨y13, hy13, h⟩ := bd h
      refine rg (cp (oMv tm) (s1 rfl) <| cr (oLdP (n := 0) (k := 0) (m := 6) (d := (kR f_reticentref08_P)) (u := (⟨y3.I, y3.N, ⟨y3.X.Op, y3.N, y3.X.L⟩, y3.E⟩ : reticentref08_P)) (lfS (lfC lf1 (lfC lf1 (lfC (lfS (lfC lf1 (lfC lf1 (lfC lf1 lfN)))) (lfC lf1 lfN))))) rfl rfl rfl t287 tm) (s1 rfl) <| cp (oCall rfl (reticentref08_Mark.ok hy13) b305 (opds_cons tm (opds_cons tm (opds_cons (cS (by decide)) opds_nil)))) (s2 rfl rfl) <| cwn (oStP (n := 0) (k := 0) (m := 6) (d := (kR f_reticentref08_P)) (u := y13) (lfS (lfC lf1 (lfC lf1 (lfC (lfS (lfC lf1 (lfC lf1 (lfC lf1 lfN)))) (lfC lf1 lfN))))) rfl rfl rfl z287 tm tm) (s2 rfl rfl) <| .nil) (by kernel_rfl) ?_
      refine pSeq ?_
      refine wSeq ?_
      obtain ⟨o1, h, hk1⟩ := bd h
      refine wJ1 (fun x16 => x16 = o1) (fun x16 => [(2, .d ((kI .i64).sig a2)), (8, .p 8 0), (9, .p 9 0), (49, .d (kB.sig x16))]) (fun x16 => [.box 9 287 [.d (kI .i64) y13.I, .d (kI .i64) y13.N, .d (kI .i64) y13.X.Op, .d (kI .i64) y13.X.N, .d (kI .i64) y13.X.L, .d (kI .i64) y13.E], .box 8 287 [.d (kI .i64) 0, .d (kI .i64) 0, .d (kI .i64) 0, .d (kI .i64) 0, .d (kI .i64) 0, .d (kI .i64) 0]]) ?_ ?_
      · rcases ic h with ⟨hp17, h⟩ | ⟨hp17, h⟩
        · obtain ⟨y18, hy18, h⟩ := bd h
          refine rg (cp (oFldP o287_3 tm) (s1 rfl) <| cr (oLdB (n := 0) (k := 5) rfl rfl rfl t34 tm) (s1 rfl) <| cp (oEq rfl tm (cI (by decide))) (s1 rfl) <| cp (oMv tm) (s1 rfl) <| cgB (decide_eq_true hp17) rfl rfl (oFld (fs := f_api_Lattice) (k := 1) rfl o25_1 tm) (s1 rfl) <| cgB (decide_eq_true hp17) rfl rfl (oLd t23 tm) (s1 rfl) <| cgB (decide_eq_true hp17) rfl rfl (oLenL u23 tm) (s1 rfl) <| cgB (decide_eq_true hp17) rfl rfl (oFldP o287_2 tm) (s1 rfl) <| crgB (decide_eq_true hp17) rfl rfl (oLdP (n := 0) (k := 2) (m := 3) (d := (kR f_api_Instr)) (u := y13.X) (lfS (lfC lf1 (lfC lf1 (lfC lf1 lfN)))) rfl rfl rfl t136 tm) (s1 rfl) <| cgB (decide_eq_true hp17) rfl rfl (oCall rfl (reticentref08_Instr.ok hy18) b137 (opds_cons tm (opds_cons tm opds_nil))) (s2 rfl rfl) <| cgB (decide_eq_true hp17) rfl rfl (oNot tm) (s1 rfl) <| cp (oPkT (decide_eq_true hp17) tm tm) (s2 rfl rfl) <| .nil) (by kernel_rfl) ?_
          exact pJ1 _ (so h) ⟨rfl, rfl, rfl, rfl, trivial⟩ rfl
        · refine rg (cp (oFldP o287_3 tm) (s1 rfl) <| cr (oLdB (n := 0) (k := 5) rfl rfl rfl t34 tm) (s1 rfl) <| cp (oEq rfl tm (cI (by decide))) (s1 rfl) <| cp (oMv tm) (s1 rfl) <| csB (decide_eq_false hp17) rfl rfl <| csB (decide_eq_false hp17) rfl rfl <| csB (decide_eq_false hp17) rfl rfl <| csB (decide_eq_false hp17) rfl rfl <| csB (decide_eq_false hp17) rfl rfl <| csB (decide_eq_false hp17) rfl rfl <| csB (decide_eq_false hp17) rfl rfl <| cp (oPkF (decide_eq_false hp17) tm cB) (s1 rfl) <| .nil) (by kernel_rfl) ?_
          exact pJ1 _ (so h) ⟨rfl, rfl, rfl, rfl, trivial⟩ rfl
      · rintro x16 rfl
        replace h := hk1
        rcases ic h with ⟨hp19, h⟩ | ⟨hp19, h⟩
        · refine wBT hp19 tm (s1 rfl) ?_
          refine wSeq ?_
          refine rg (cp (oMv tm) (s1 rfl) <| cp (oBuild (fs := f_reticentref08_P) (u := ⟨a2, 0, (⟨0, 0, 0⟩ : api_Instr), 1⟩) rfl ze287 pl287 po287 (.op (zc := [(.int .i64 0)]) tm rfl (.ze (zc := [(.int .i64 0)]) zI_i64 (.ze (zc := [(.int .i64 0), (.int .i64 0), (.int .i64 0)]) zR_api_Instr (.op (zc := [(.int .i64 0)]) (cI (by decide)) rfl .nil))))) (s1 rfl) <| cwn (oStP (n := 1) (k := 0) (m := 6) (d := (kR f_reticentref08_P)) (u := (⟨a2, 0, (⟨0, 0, 0⟩ : api_Instr), 1⟩ : reticentref08_P)) (lfS (lfC lf1 (lfC lf1 (lfC (lfS (lfC lf1 (lfC lf1 (lfC lf1 lfN)))) (lfC lf1 lfN))))) rfl rfl rfl z287 tm tm) (s2 rfl rfl) <| .nil) (by kernel_rfl) ?_
          refine pSeq ?_
          refine wRet ?_
          refine pThenR ?_
          obtain rfl := so h
          exact pR1 (.inl rfl) rfl (.boxP (n := 1) (d := (kR f_reticentref08_P)) (u := (⟨a2, 0, ⟨0, 0, 0⟩, 1⟩ : reticentref08_P)) rfl rfl (lfS (lfC lf1 (lfC lf1 (lfC (lfS (lfC lf1 (lfC lf1 (lfC lf1 lfN)))) (lfC lf1 lfN))))) rfl t287 <| .nil)
        · refine wBF hp19 tm (s1 rfl) ?_
          refine wSkip ?_
          refine pSeq ?_
          refine wSeq ?_
          refine rg (cr (oLdP (n := 0) (k := 0) (m := 6) (d := (kR f_reticentref08_P)) (u := y13) (lfS (lfC lf1 (lfC lf1 (lfC (lfS (lfC lf1 (lfC lf1 (lfC lf1 lfN)))) (lfC lf1 lfN))))) rfl rfl rfl t287 tm) (s1 rfl) <| cwn (oStP (n := 1) (k := 0) (m := 6) (d := (kR f_reticentref08_P)) (u := y13) (lfS (lfC lf1 (lfC lf1 (lfC (lfS (lfC lf1 (lfC lf1 (lfC lf1 lfN)))) (lfC lf1 lfN))))) rfl rfl rfl z287 tm tm) (s2 rfl rfl) <| .nil) (by kernel_rfl) ?_
          refine pSeq ?_
          refine wRet ?_
          obtain rfl := so h
          exact pR1 (.inl rfl) rfl (.boxP (n := 1) (d := (kR f_reticentref08_P)) (u := y13) rfl rfl (lfS (lfC lf1 (lfC lf1 (lfC (lfS (lfC lf1 (lfC lf1 (lfC lf1 lfN)))) (lfC lf1 lfN))))) rfl t287 <| .nil)
  · refine wBF hp2 tm (s1 rfl) ?_
    refine wSkip ?_
    refine pSeq ?_
    refine wSeq ?_
    refine wSeq ?_
    refine rg (cp (oMv tm) (s1 rfl) <| cp (oEq rfl tm (cI (by decide))) (s1 rfl) <| .nil) (by kernel_rfl) ?_
    refine pSeq ?_
    rcases ic h with ⟨hp20, h⟩ | ⟨hp20, h⟩
    · refine wCT hp20 tm (s1 rfl) ?_
      refine wSeq ?_
      obtain ⟨y21, hy21, h⟩ := bd h
      refine rg (cp (oLd t25 tm) (s1 rfl) <| cp (oMv tm) (s1 rfl) <| cr (oLdP (n := 0) (k := 0) (m := 6) (d := (kR f_reticentref08_P)) (u := (⟨IntKind.i64.wrap (a2 + 1), 0, ⟨a3, 0, 0⟩, 0⟩ : reticentref08_P)) (lfS (lfC lf1 (lfC lf1 (lfC (lfS (lfC lf1 (lfC lf1 (lfC lf1 lfN)))) (lfC lf1 lfN))))) rfl rfl rfl t287 tm) (s1 rfl) <| cp (oCall rfl (reticentref08_Label.ok hy21) b224 (opds_cons tm (opds_cons tm (opds_cons tm opds_nil)))) (s3 rfl rfl rfl) <| cwn (oStP (n := 0) (k := 0) (m := 6) (d := (kR f_reticentref08_P)) (u := y21) (lfS (lfC lf1 (lfC lf1 (lfC (lfS (lfC lf1 (lfC lf1 (lfC lf1 lfN)))) (lfC lf1 lfN))))) rfl rfl rfl z287 tm tm) (s2 rfl rfl) <| .nil) (by kernel_rfl) ?_
      refine pSeq ?_
      refine rg (cp (oFldP o287_1 tm) (s1 rfl) <| cr (oLdB (n := 0) (k := 1) rfl rfl rfl t3 tm) (s1 rfl) <| cp (oFldP o287_2 tm) (s1 rfl) <| cp (oFldP o136_2 tm) (s1 rfl) <| cwn (oSt (n := 0) (k := 4) rfl rfl rfl rfl z3 tm tm) (s2 rfl rfl) <| .nil) (by kernel_rfl) ?_
      refine pSeq ?_
      refine wSeq ?_
      obtain ⟨y22, hy22, h⟩ := bd h
      refine rg (cp (oMv tm) (s1 rfl) <| cr (oLdP (n := 0) (k := 0) (m := 6) (d := (kR f_reticentref08_P)) (u := (⟨y21.I, y21.N, ⟨y21.X.Op, y21.X.N, y21.N⟩, y21.E⟩ : reticentref08_P)) (lfS (lfC lf1 (lfC lf1 (lfC (lfS (lfC lf1 (lfC lf1 (lfC lf1 lfN)))) (lfC lf1 lfN))))) rfl rfl rfl t287 tm) (s1 rfl) <| cp (oCall rfl (reticentref08_Mark.ok hy22) b305 (opds_cons tm (opds_cons tm (opds_cons (cS (by decide)) opds_nil)))) (s2 rfl rfl) <| cwn (oStP (n := 0) (k := 0) (m := 6) (d := (kR f_reticentref08_P)) (u := y22) (lfS (lfC lf1 (lfC lf1 (lfC (lfS (lfC lf1 (lfC lf1 (lfC lf1 lfN)))) (lfC lf1 lfN))))) rfl rfl rfl z287 tm tm) (s2 rfl rfl) <| .nil) (by kernel_rfl) ?_
      refine pSeq ?_
      refine wSeq ?_
      obtain ⟨o1, h, hk1⟩ := bd h
      refine wJ1 (fun x25 => x25 = o1) (fun x25 => [(2, .d ((kI .i64).sig a2)), (8, .p 8 0), (9, .p 9 0), (49, .d (kB.sig x25))]) (fun x25 => [.box 9 287 [.d (kI .i64) y22.I, .d (kI .i64) y22.N, .d (kI .i64) y22.X.Op, .d (kI .i64) y22.X.N, .d (kI .i64) y22.X.L, .d (kI .i64) y22.E], .box 8 287 [.d (kI .i64) 0, .d (kI .i64) 0, .d (kI .i64) 0, .d (kI .i64) 0, .d (kI .i64) 0, .d (kI .i64) 0]]) ?_ ?_
      · rcases ic h with ⟨hp26, h⟩ | ⟨hp26, h⟩
        · obtain ⟨y27, hy27, h⟩ := bd h
          refine rg (cp (oFldP o287_3 tm) (s1 rfl) <| cr (oLdB (n := 0) (k := 5) rfl rfl rfl t34 tm) (s1 rfl) <| cp (oEq rfl tm (cI (by decide))) (s1 rfl) <| cp (oMv tm) (s1 rfl) <| cgB (decide_eq_true hp26) rfl rfl (oFld (fs := f_api_Lattice) (k := 1) rfl o25_1 tm) (s1 rfl) <| cgB (decide_eq_true hp26) rfl rfl (oLd t23 tm) (s1 rfl) <| cgB (decide_eq_true hp26) rfl rfl (oLenL u23 tm) (s1 rfl) <| cgB (decide_eq_true hp26) rfl rfl (oFldP o287_2 tm) (s1 rfl) <| crgB (decide_eq_true hp26) rfl rfl (oLdP (n := 0) (k := 2) (m := 3) (d := (kR f_api_Instr)) (u := y22.X) (lfS (lfC lf1 (lfC lf1 (lfC lf1 lfN)))) rfl rfl rfl t136 tm) (s1 rfl) <| cgB (decide_eq_true hp26) rfl rfl (oCall rfl (reticentref08_Instr.ok hy27) b137 (opds_cons tm (opds_cons tm opds_nil))) (s2 rfl rfl) <| cgB (decide_eq_true hp26) rfl rfl (oNot tm) (s1 rfl) <| cp (oPkT (decide_eq_true hp26) tm tm) (s2 rfl rfl) <| .nil) (by kernel_rfl) ?_
          exact pJ1 _ (so h) ⟨rfl, rfl, rfl, rfl, trivial⟩ rfl
        · refine rg (cp (oFldP o287_3 tm) (s1 rfl) <| cr (oLdB (n := 0) (k := 5) rfl rfl rfl t34 tm) (s1 rfl) <| cp (oEq rfl tm (cI (by decide))) (s1 rfl) <| cp (oMv tm) (s1 rfl) <| csB (decide_eq_false hp26) rfl rfl <| csB (decide_eq_false hp26) rfl rfl <| csB (decide_eq_false hp26) rfl rfl <| csB (decide_eq_false hp26) rfl rfl <| csB (decide_eq_false hp26) rfl rfl <| csB (decide_eq_false hp26) rfl rfl <| csB (decide_eq_false hp26) rfl rfl <| cp (oPkF (decide_eq_false hp26) tm cB) (s1 rfl) <| .nil) (by kernel_rfl) ?_
          exact pJ1 _ (so h) ⟨rfl, rfl, rfl, rfl, trivial⟩ rfl
      · rintro x25 rfl
        replace h := hk1
        rcases ic h with ⟨hp28, h⟩ | ⟨hp28, h⟩
        · refine wBT hp28 tm (s1 rfl) ?_
          refine wSeq ?_
          refine rg (cp (oMv tm) (s1 rfl) <| cp (oBuild (fs := f_reticentref08_P) (u := ⟨a2, 0, (⟨0, 0, 0⟩ : api_Instr), 1⟩) rfl ze287 pl287 po287 (.op (zc := [(.int .i64 0)]) tm rfl (.ze (zc := [(.int .i64 0)]) zI_i64 (.ze (zc := [(.int .i64 0), (.int .i64 0), (.int .i64 0)]) zR_api_Instr (.op (zc := [(.int .i64 0)]) (cI (by decide)) rfl .nil))))) (s1 rfl) <| cwn (oStP (n := 1) (k := 0) (m := 6) (d := (kR f_reticentref08_P)) (u := (⟨a2, 0, (⟨0, 0, 0⟩ : api_Instr), 1⟩ : reticentref08_P)) (lfS (lfC lf1 (lfC lf1 (lfC (lfS (lfC lf1 (lfC lf1 (lfC lf1 lfN)))) (lfC lf1 lfN))))) rfl rfl rfl z287 tm tm) (s2 rfl rfl) <| .nil) (by kernel_rfl) ?_
          refine pSeq ?_
          refine wRet ?_
          refine pThenR ?_
          obtain rfl := so h
          exact pR1 (.inl rfl) rfl (.boxP (n := 1) (d := (kR f_reticentref08_P)) (u := (⟨a2, 0, ⟨0, 0, 0⟩, 1⟩ : reticentref08_P)) rfl rfl (lfS (lfC lf1 (lfC lf1 (lfC (lfS (lfC lf1 (lfC lf1 (lfC lf1 lfN)))) (lfC lf1 lfN))))) rfl t287 <| .nil)
        · refine wBF hp28 tm (s1 rfl) ?_
          refine wSkip ?_
          refine pSeq ?_
          refine wSeq ?_
          refine rg (cr (oLdP (n := 0) (k := 0) (m := 6) (d := (kR f_reticentref08_P)) (u := y22) (lfS (lfC lf1 (lfC lf1 (lfC (lfS (lfC lf1 (lfC lf1 (lfC lf1 lfN)))) (lfC lf1 lfN))))) rfl rfl rfl t287 tm) (s1 rfl) <| cwn (oStP (n := 1) (k := 0) (m := 6) (d := (kR f_reticentref08_P)) (u := y22) (lfS (lfC lf1 (lfC lf1 (lfC (lfS (lfC lf1 (lfC lf1 (lfC lf1 lfN)))) (lfC lf1 lfN))))) rfl rfl rfl z287 tm tm) (s2 rfl rfl) <| .nil) (by kernel_rfl) ?_
          refine pSeq ?_
          refine wRet ?_
          obtain rfl := so h
          exact pR1 (.inl rfl) rfl (.boxP (n := 1) (d := (kR f_reticentref08_P)) (u := y22) rfl rfl (lfS (lfC lf1 (lfC lf1 (lfC (lfS (lfC lf1 (lfC lf1 (lfC lf1 lfN)))) (lfC lf1 lfN))))) rfl t287 <| .nil)
    · refine wCF hp20 tm (s1 rfl) ?_
      refine wSkip ?_
      refine pSeq ?_
      refine wSeq ?_
      obtain ⟨y29, hy29, h⟩ := bd h
      refine rg (cp (oMv tm) (s1 rfl) <| cr (oLdP (n := 0) (k := 0) (m := 6) (d := (kR f_reticentref08_P)) (u := (⟨IntKind.i64.wrap (a2 + 1), 0, ⟨a3, 0, 0⟩, 0⟩ : reticentref08_P)) (lfS (lfC lf1 (lfC lf1 (lfC (lfS (lfC lf1 (lfC lf1 (lfC lf1 lfN)))) (lfC lf1 lfN))))) rfl rfl rfl t287 tm) (s1 rfl) <| cp (oCall rfl (reticentref08_Mark.ok hy29) b305 (opds_cons tm (opds_cons tm (opds_cons (cS (by decide)) opds_nil)))) (s2 rfl rfl) <| cwn (oStP (n := 0) (k := 0) (m := 6) (d := (kR f_reticentref08_P)) (u := y29) (lfS (lfC lf1 (lfC lf1 (lfC (lfS (lfC lf1 (lfC lf1 (lfC lf1 lfN)))) (lfC lf1 lfN))))) rfl rfl rfl z287 tm tm) (s2 rfl rfl) <| .nil) (by kernel_rfl) ?_
      refine pSeq ?_
      refine wSeq ?_
      obtain ⟨o1, h, hk1⟩ := bd h
      refine wJ1 (fun x32 => x32 = o1) (fun x32 => [(2, .d ((kI .i64).sig a2)), (8, .p 8 0), (9, .p 9 0), (49, .d (kB.sig x32))]) (fun x32 => [.box 9 287 [.d (kI .i64) y29.I, .d (kI .i64) y29.N, .d (kI .i64) y29.X.Op, .d (kI .i64) y29.X.N, .d (kI .i64) y29.X.L, .d (kI .i64) y29.E], .box 8 287 [.d (kI .i64) 0, .d (kI .i64) 0, .d (kI .i64) 0, .d (kI .i64) 0, .d (kI .i64) 0, .d (kI .i64) 0]]) ?_ ?_
      · rcases ic h with ⟨hp33, h⟩ | ⟨hp33, h⟩
        · obtain ⟨y34, hy34, h⟩ := bd h
          refine rg (cp (oFldP o287_3 tm) (s1 rfl) <| cr (oLdB (n := 0) (k := 5) rfl rfl rfl t34 tm) (s1 rfl) <| cp (oEq rfl tm (cI (by decide))) (s1 rfl) <| cp (oMv tm) (s1 rfl) <| cgB (decide_eq_true hp33) rfl rfl (oFld (fs := f_api_Lattice) (k := 1) rfl o25_1 tm) (s1 rfl) <| cgB (decide_eq_true hp33) rfl rfl (oLd t23 tm) (s1 rfl) <| cgB (decide_eq_true hp33) rfl rfl (oLenL u23 tm) (s1 rfl) <| cgB (decide_eq_true hp33) rfl rfl (oFldP o287_2 tm) (s1 rfl) <| crgB (decide_eq_true hp33) rfl rfl (oLdP (n := 0) (k := 2) (m := 3) (d := (kR f_api_Instr)) (u := y29.X) (lfS (lfC lf1 (lfC lf1 (lfC lf1 lfN)))) rfl rfl rfl t136 tm) (s1 rfl) <| cgB (decide_eq_true hp33) rfl rfl (oCall rfl (reticentref08_Instr.ok hy34) b137 (opds_cons tm (opds_cons tm opds_nil))) (s2 rfl rfl) <| cgB (decide_eq_true hp33) rfl rfl (oNot tm) (s1 rfl) <| cp (oPkT (decide_eq_true hp33) tm tm) (s2 rfl rfl) <| .nil) (by kernel_rfl) ?_
          exact pJ1 _ (so h) ⟨rfl, rfl, rfl, rfl, trivial⟩ rfl
        · refine rg (cp (oFldP o287_3 tm) (s1 rfl) <| cr (oLdB (n := 0) (k := 5) rfl rfl rfl t34 tm) (s1 rfl) <| cp (oEq rfl tm (cI (by decide))) (s1 rfl) <| cp (oMv tm) (s1 rfl) <| csB (decide_eq_false hp33) rfl rfl <| csB (decide_eq_false hp33) rfl rfl <| csB (decide_eq_false hp33) rfl rfl <| csB (decide_eq_false hp33) rfl rfl <| csB (decide_eq_false hp33) rfl rfl <| csB (decide_eq_false hp33) rfl rfl <| csB (decide_eq_false hp33) rfl rfl <| cp (oPkF (decide_eq_false hp33) tm cB) (s1 rfl) <| .nil) (by kernel_rfl) ?_
          exact pJ1 _ (so h) ⟨rfl, rfl, rfl, rfl, trivial⟩ rfl
      · rintro x32 rfl
        replace h := hk1
        rcases ic h with ⟨hp35, h⟩ | ⟨hp35, h⟩
        · refine wBT hp35 tm (s1 rfl) ?_
          refine wSeq ?_
          refine rg (cp (oMv tm) (s1 rfl) <| cp (oBuild (fs := f_reticentref08_P) (u := ⟨a2, 0, (⟨0, 0, 0⟩ : api_Instr), 1⟩) rfl ze287 pl287 po287 (.op (zc := [(.int .i64 0)]) tm rfl (.ze (zc := [(.int .i64 0)]) zI_i64 (.ze (zc := [(.int .i64 0), (.int .i64 0), (.int .i64 0)]) zR_api_Instr (.op (zc := [(.int .i64 0)]) (cI (by decide)) rfl .nil))))) (s1 rfl) <| cwn (oStP (n := 1) (k := 0) (m := 6) (d := (kR f_reticentref08_P)) (u := (⟨a2, 0, (⟨0, 0, 0⟩ : api_Instr), 1⟩ : reticentref08_P)) (lfS (lfC lf1 (lfC lf1 (lfC (lfS (lfC lf1 (lfC lf1 (lfC lf1 lfN)))) (lfC lf1 lfN))))) rfl rfl rfl z287 tm tm) (s2 rfl rfl) <| .nil) (by kernel_rfl) ?_
          refine pSeq ?_
          refine wRet ?_
          refine pThenR ?_
          obtain rfl := so h
          exact pR1 (.inl rfl) rfl (.boxP (n := 1) (d := (kR f_reticentref08_P)) (u := (⟨a2, 0, ⟨0, 0, 0⟩, 1⟩ : reticentref08_P)) rfl rfl (lfS (lfC lf1 (lfC lf1 (lfC (lfS (lfC lf1 (lfC lf1 (lfC lf1 lfN)))) (lfC lf1 lfN))))) rfl t287 <| .nil)
        · refine wBF hp35 tm (s1 rfl) ?_
          refine wSkip ?_
          refine pSeq ?_
          refine wSeq ?_
          refine rg (cr (oLdP (n := 0) (k := 0) (m := 6) (d := (kR f_reticentref08_P)) (u := y29) (lfS (lfC lf1 (lfC lf1 (lfC (lfS (lfC lf1 (lfC lf1 (lfC lf1 lfN)))) (lfC lf1 lfN))))) rfl rfl rfl t287 tm) (s1 rfl) <| cwn (oStP (n := 1) (k := 0) (m := 6) (d := (kR f_reticentref08_P)) (u := y29) (lfS (lfC lf1 (lfC lf1 (lfC (lfS (lfC lf1 (lfC lf1 (lfC lf1 lfN)))) (lfC lf1 lfN))))) rfl rfl rfl z287 tm tm) (s2 rfl rfl) <| .nil) (by kernel_rfl) ?_
          refine pSeq ?_
          refine wRet ?_
          obtain rfl := so h
          exact pR1 (.inl rfl) rfl (.boxP (n := 1) (d := (kR f_reticentref08_P)) (u := y29) rfl rfl (lfS (lfC lf1 (lfC lf1 (lfC (lfS (lfC lf1 (lfC lf1 (lfC lf1 lfN)))) (lfC lf1 lfN))))) rfl t287 <| .nil)
theorem reticentref08_From.ok {a0 : api_Lattice} {a1 : List api_Tok} {a2 : Int} {r : reticentref08_C} (h : reticentref08_From.f a0 a1 a2 = some r) : FnA Tryz.prog 126 [(kR f_api_Lattice).sig a0, (kL (kR f_api_Tok)).sig a1, (kI .i64).sig a2] ((kR f_reticentref08_C).sig r) := by
  refine fnIntro Tryz.func126 rfl (by kernel_rfl) fun H0 w0 => ?_
  unfold reticentref08_From.f at h
  refine wSeq ?_
  refine rg (cp (oBox tm) (s1 rfl) <| cw (oAlloc (id := 6) (ls := [.d (kL (kR f_api_Instr)) [], .d (kI .i64) 0, .d (kI .i64) 0]) ze188 (fun g => ⟨[(.slice none 0 0)], _, rfl, zL g.H, ⟨[(.int .i64 0)], _, rfl, zI_i64 g.H, ⟨[(.int .i64 0)], _, rfl, zI_i64 g.H, rfl⟩⟩⟩)) trivial <| .nil) (by kernel_rfl) ?_
  refine pSeq ?_
  refine wSeq ?_
  refine rg (cw (oLitR (id := 9) (d := (kR f_api_Instr)) el29 (by decide) rfl rfl rfl e0) trivial <| cp (oAs tm) (s1 rfl) <| .nil) (by kernel_rfl) ?_
  refine pSeq ?_
  refine wWeak (Γ' := [(1, .d ((kL (kR f_api_Tok)).sig a1)), (2, .d ((kI .i64).sig a2)), (3, .d (sP (kR f_api_Lattice) a0)), (6, .p 6 0), (7, .v 9)]) ⟨rfl, rfl, rfl, rfl, rfl, trivial⟩ ?_
  refine wRen 9 1007 rfl ?_
  obtain ⟨o1, h, hk1⟩ := bd h
  refine wJ2 (fun x35 x36 => .inr (x35, x36) = o1) (fun x35 x36 => [(2, .d ((kI .i64).sig x36)), (6, .p 6 0), (7, .v 1007)]) (fun x35 x36 => [.row 1007 136 (kR f_api_Instr) x35, .box 6 188 [.d (kL (kR f_api_Instr)) [], .d (kI .i64) 0, .d (kI .i64) 0]]) ?_ ?_
  · refine wBlock (wLoop ?_)
    refine lW (pc2 o1 (fun v33 v34 => [(1, .d ((kL (kR f_api_Tok)).sig a1)), (2, .d ((kI .i64).sig v34)), (3, .d (sP (kR f_api_Lattice) a0)), (6, .p 6 0), (7, .v 1007)]) (fun v33 v34 => [.row 1007 136 (kR f_api_Instr) v33, .box 6 188 [.d (kL (kR f_api_Instr)) [], .d (kI .i64) 0, .d (kI .i64) 0]]) (reticentref08_From.l0.partial_correctness a0 a1) ?_ _ _ h) ⟨rfl, rfl, rfl, rfl, rfl, trivial⟩ rfl
    clear h
    intro f' ih v33 v34 h
    refine wSeq ?_
    obtain ⟨o2, h, hk2⟩ := bd h
    refine wJ1 (fun x41 => x41 = o2) (fun x41 => [(1, .d ((kL (kR f_api_Tok)).sig a1)), (2, .d ((kI .i64).sig v34)), (3, .d (sP (kR f_api_Lattice) a0)), (6, .p 6 0), (7, .v 1007), (24, .d (kB.sig x41))]) (fun x41 => [.row 1007 136 (kR f_api_Instr) v33, .box 6 188 [.d (kL (kR f_api_Instr)) [], .d (kI .i64) 0, .d (kI .i64) 0]]) ?_ ?_
    · obtain ⟨y42, hy42, h⟩ := bd h
      rcases ic h with ⟨hp43, h⟩ | ⟨hp43, h⟩
      · obtain ⟨y44, hy44, h⟩ := bd h
        obtain ⟨y45, hy45, h⟩ := bd h
        refine rg (cp (oMv tm) (s1 rfl) <| cp (oMv tm) (s1 rfl) <| cp (oIdx u89 z94 hy42 tm tm) (s2 rfl rfl) <| cp (oFld (fs := f_api_Tok) (k := 0) rfl o94_0 tm) (s1 rfl) <| cp (oLd t3 tm) (s1 rfl) <| cp (oEq rfl tm (cI (by decide))) (s1 rfl) <| cp (oMv tm) (s1 rfl) <| cgB (decide_eq_true hp43) rfl rfl (oMv tm) (s1 rfl) <| cgB (decide_eq_true hp43) rfl rfl (oMv tm) (s1 rfl) <| cgB (decide_eq_true hp43) rfl rfl (oIdx u89 z94 hy44 tm tm) (s2 rfl rfl) <| cgB (decide_eq_true hp43) rfl rfl (oFld (fs := f_api_Tok) (k := 1) rfl o94_1 tm) (s1 rfl) <| cgB (decide_eq_true hp43) rfl rfl (oLd t9 tm) (s1 rfl) <| cgB (decide_eq_true hp43) rfl rfl (oCall rfl (reticentref06_Op.ok hy45) b225 (opds_cons tm opds_nil)) (s1 rfl) <| cgB (decide_eq_true hp43) rfl rfl (oGe rfl tm (cI (by decide))) (s1 rfl) <| cp (oPkT (decide_eq_true hp43) tm tm) (s2 rfl rfl) <| .nil) (by kernel_rfl) ?_
        exact pJ1 _ (so h) ⟨rfl, rfl, rfl, rfl, rfl, rfl, trivial⟩ rfl
      · refine rg (cp (oMv tm) (s1 rfl) <| cp (oMv tm) (s1 rfl) <| cp (oIdx u89 z94 hy42 tm tm) (s2 rfl rfl) <| cp (oFld (fs := f_api_Tok) (k := 0) rfl o94_0 tm) (s1 rfl) <| cp (oLd t3 tm) (s1 rfl) <| cp (oEq rfl tm (cI (by decide))) (s1 rfl) <| cp (oMv tm) (s1 rfl) <| csB (decide_eq_false hp43) rfl rfl <| csB (decide_eq_false hp43) rfl rfl <| csB (decide_eq_false hp43) rfl rfl <| csB (decide_eq_false hp43) rfl rfl <| csB (decide_eq_false hp43) rfl rfl <| csB (decide_eq_false hp43) rfl rfl <| csB (decide_eq_false hp43) rfl rfl <| cp (oPkF (decide_eq_false hp43) tm cB) (s1 rfl) <| .nil) (by kernel_rfl) ?_
        exact pJ1 _ (so h) ⟨rfl, rfl, rfl, rfl, rfl, rfl, trivial⟩ rfl
    · rintro x41 rfl
      replace h := hk2
      rcases ic h with ⟨hp46, h⟩ | ⟨hp46, h⟩
      · refine wBT hp46 tm (s1 rfl) ?_
        refine wSkip ?_
        refine pSeq ?_
        refine wBlock ?_
        refine wSeq ?_
        refine wSeq ?_
        refine rg (cp (oMv tm) (s1 rfl) <| cr (oLenR (n := 0) u29 rfl tm) (s1 rfl) <| cp (oEq rfl tm (cI (by decide))) (s1 rfl) <| .nil) (by kernel_rfl) ?_
        refine pSeq ?_
        rcases ic h with ⟨hp47, h⟩ | ⟨hp47, h⟩
        · refine wCT hp47 tm (s1 rfl) ?_
          refine wSeq ?_
          refine rg (cp (oMv tm) (s1 rfl) <| cp (oBuild (fs := f_reticentref08_C) (u := ⟨[], v34, 8⟩) rfl ze188 pl188 po188 (.ze (zc := [(.slice none 0 0)]) zL (.op (zc := [(.int .i64 0)]) tm rfl (.op (zc := [(.int .i64 0)]) (cI (by decide)) rfl .nil)))) (s1 rfl) <| cwn (oStA (n := 1) (fs := f_reticentref08_C) rfl rfl z188 tm tm) (s2 rfl rfl) <| .nil) (by kernel_rfl) ?_
          refine pSeq ?_
          refine wRet ?_
          refine pThenR ?_
          refine pBlkR ?_
          refine pThenR ?_
          refine pBlkR ?_
          refine pThenR ?_
          obtain rfl := so h
          replace h := hk1
          obtain rfl := so h
          exact pR1 (.inl rfl) rfl (.box (n := 1) (fs := f_reticentref08_C) (u := ⟨[], v34, 8⟩) rfl rfl ⟨rfl, rfl, rfl, trivial⟩ t188 <| .nil)
        · refine wCF hp47 tm (s1 rfl) ?_
          refine wSkip ?_
          refine pSeq ?_
          refine wSeq ?_
          obtain ⟨y48, hy48, h⟩ := bd h
          obtain ⟨y49, hy49, h⟩ := bd h
          obtain ⟨y50, hy50, h⟩ := bd h
          refine rgD hm (cp (oLd t25 tm) (s1 rfl) <| cp (oMv tm) (s1 rfl) <| cp (oMv tm) (s1 rfl) <| cp (oMv tm) (s1 rfl) <| cp (oMv tm) (s1 rfl) <| cp (oIdx u89 z94 hy48 tm tm) (s2 rfl rfl) <| cp (oFld (fs := f_api_Tok) (k := 1) rfl o94_1 tm) (s1 rfl) <| cp (oLd t9 tm) (s1 rfl) <| cp (oCall rfl (reticentref06_Op.ok hy49) b225 (opds_cons tm opds_nil)) (s1 rfl) <| cp (oCall rfl (reticentref08_one.ok hy50) b226 (opds_cons tm (opds_cons tm (opds_cons tm (opds_cons tm opds_nil))))) ⟨rfl, rfl, rfl, rfl, trivial⟩ <| cw (oAlloc (id := 8) (ls := [.d (kI .i64) 0, .d (kI .i64) 0, .d (kI .i64) 0, .d (kI .i64) 0, .d (kI .i64) 0, .d (kI .i64) 0]) ze287 (fun g => ⟨[(.int .i64 0)], _, rfl, zI_i64 g.H, ⟨[(.int .i64 0)], _, rfl, zI_i64 g.H, ⟨[(.int .i64 0)], _, rfl, zI_i64 g.H, ⟨[(.int .i64 0)], _, rfl, zI_i64 g.H, ⟨[(.int .i64 0)], _, rfl, zI_i64 g.H, ⟨[(.int .i64 0)], _, rfl, zI_i64 g.H, rfl⟩⟩⟩⟩⟩⟩)) trivial <| cwn (oStP (n := 0) (k := 0) (m := 6) (d := (kR f_reticentref08_P)) (u := y50) (lfS (lfC lf1 (lfC lf1 (lfC (lfS (lfC lf1 (lfC lf1 (lfC lf1 lfN)))) (lfC lf1 lfN))))) rfl rfl rfl z287 tm tm) (s2 rfl rfl) <| .nil) (by kernel_rfl) (by kernel_rfl) ?_
          refine pSeq ?_
          refine wSeq ?_
          refine wSeq ?_
          refine rg (cp (oFldP o287_3 tm) (s1 rfl) <| cr (oLdB (n := 0) (k := 5) rfl rfl rfl t34 tm) (s1 rfl) <| cp (oNe rfl tm (cI (by decide))) (s1 rfl) <| .nil) (by kernel_rfl) ?_
          refine pSeq ?_
          rcases ic h with ⟨hp51, h⟩ | ⟨hp51, h⟩
          · refine wNT hp51 tm (s1 rfl) ?_
            refine wSkip ?_
            refine pSeq ?_
            refine wSeq ?_
            obtain ⟨hc52, h⟩ := ib h
            refine rg (cp (oMv tm) (s1 rfl) <| cp (oFldP o287_2 tm) (s1 rfl) <| cr (oLdP (n := 0) (k := 2) (m := 3) (d := (kR f_api_Instr)) (u := y50.X) (lfS (lfC lf1 (lfC lf1 (lfC lf1 lfN)))) rfl rfl rfl t136 tm) (s1 rfl) <| cp (oLit (d := (kR f_api_Instr)) el29 (by decide) rfl rfl rfl (e1 tm e0)) (s1 rfl) <| cw (oApp (n := 1) (id' := 52) el29 (by decide) rfl (by decide) hc52 tm tm) (s2 rfl rfl) <| cp (oAs tm) (s1 rfl) <| .nil) (by kernel_rfl) ?_
            refine pSeq ?_
            refine rg (cp (oFldP o287_0 tm) (s1 rfl) <| cr (oLdB (n := 0) (k := 0) rfl rfl rfl t3 tm) (s1 rfl) <| cp (oAs tm) (s1 rfl) <| .nil) (by kernel_rfl) ?_
            refine pBlkN ?_
            refine pDrop (.cons _ (.cons_cons _ (.cons_cons _ .slnil))) ?_
            refine pSub (Γ' := [(1, .d ((kL (kR f_api_Tok)).sig a1)), (2, .d ((kI .i64).sig y50.I)), (3, .d (sP (kR f_api_Lattice) a0)), (6, .p 6 0), (7, .v 52)]) ⟨rfl, rfl, rfl, rfl, rfl, trivial⟩ ?_
            refine pRen 52 1007 rfl ?_
            exact pLoop (lW (ih _ _ h) ⟨rfl, rfl, rfl, rfl, rfl, trivial⟩ rfl)
          · refine wNF hp51 tm (s1 rfl) ?_
            refine wSeq ?_
            refine rg (cp (oFldP o287_0 tm) (s1 rfl) <| cr (oLdB (n := 0) (k := 0) rfl rfl rfl t3 tm) (s1 rfl) <| cp (oFldP o287_3 tm) (s1 rfl) <| cr (oLdB (n := 0) (k := 5) rfl rfl rfl t34 tm) (s1 rfl) <| cp (oBuild (fs := f_reticentref08_C) (u := ⟨[], y50.I, y50.E⟩) rfl ze188 pl188 po188 (.ze (zc := [(.slice none 0 0)]) zL (.op (zc := [(.int .i64 0)]) tm rfl (.op (zc := [(.int .i64 0)]) tm rfl .nil)))) (s2 rfl rfl) <| cwn (oStA (n := 2) (fs := f_reticentref08_C) rfl rfl z188 tm tm) (s2 rfl rfl) <| .nil) (by kernel_rfl) ?_
            refine pSeq ?_
            refine wRet ?_
            refine pThenR ?_
            refine pBlkR ?_
            refine pThenR ?_
            refine pBlkR ?_
            refine pThenR ?_
            obtain rfl := so h
            replace h := hk1
            obtain rfl := so h
            exact pR1 (.inl rfl) rfl (.box (n := 2) (fs := f_reticentref08_C) (u := ⟨[], y50.I, y50.E⟩) rfl rfl ⟨rfl, rfl, rfl, trivial⟩ t188 <| .nil)
      · refine wBF hp46 tm (s1 rfl) ?_
        refine wExit ?_
        refine pThenX ?_
        refine pThenX ?_
        refine pBlkX ?_
        exact pJ2 _ _ (so h) ⟨rfl, rfl, rfl, trivial⟩ rfl
  · rintro x35 x36 rfl
    replace h := hk1
    refine wSeq ?_
    refine wFrzR (n := 0) (id := 1007) [7] rfl rfl ⟨rfl, trivial⟩ ?_
    refine rg (cp (oMv tm) (s1 rfl) <| cp (oMv tm) (s1 rfl) <| cp (oBuild (fs := f_reticentref08_C) (u := ⟨x35, x36, 0⟩) rfl ze188 pl188 po188 (.op (zc := [(.slice none 0 0)]) tm rfl (.op (zc := [(.int .i64 0)]) tm rfl (.ze (zc := [(.int .i64 0)]) zI_i64 .nil)))) (s2 rfl rfl) <| cwn (oStA (n := 0) (fs := f_reticentref08_C) rfl rfl z188 tm tm) (s2 rfl rfl) <| .nil) (by kernel_rfl) ?_
    refine pSeq ?_
    refine wRet ?_
    obtain rfl := so h
    exact pR1 (.inl rfl) rfl (.box (n := 0) (fs := f_reticentref08_C) (u := ⟨x35, x36, 0⟩) rfl rfl ⟨rfl, rfl, rfl, trivial⟩ t188 <| .nil)
end Go.Proofs.YtkmobcaobmchpaaGreatDoor.SR
