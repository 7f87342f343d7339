import Derived.Test.YtmegdednaimgcaaDoorCln
import Derived.Test.YtmegdednaimgcaaDoorWTTp2
import Derived.Test.YtmegdednaimgcaaDoorProg
set_option linter.unusedVariables false
set_option maxRecDepth 10000
set_option maxHeartbeats 2000000
namespace Go.Proofs.YtmegdednaimgcaaDoor.TT
open Go Go.Proofs.YtmegdednaimgcaaDoor.Ab

theorem judge_judge_both.ok {a0 : judge_judge} {a1 : Int} {a2 : If119} {a3 : If119} {r : judge_judge × If119} (h : judge_judge_both.f a0 a1 a2 a3 = some r) : FnS Tryd.prog 96 [.p 70000 0, .d ((kI .i64).sig a1), .d ((kF vIf119).sig a2), .d ((kF vIf119).sig a3)] [.box 70000 123 [.d (kL kS) a0.l_.Names, .d (kL (kI .u32)) a0.l_.Up, .d (kL (kI .i64)) a0.labels_, .v 70004], .row 70004 119 (kF vIf119) a0.pile_] [70000] (.d ((kF vIf119).sig r.2)) [.box 70000 123 [.d (kL kS) r.1.l_.Names, .d (kL (kI .u32)) r.1.l_.Up, .d (kL (kI .i64)) r.1.labels_, .v 70004], .row 70004 119 (kF vIf119) r.1.pile_] := by
  refine fnIntroS Tryd.func96 rfl (by kernel_rfl) fun X H0 w0 pv => ?_
  unfold judge_judge_both.f at h
  refine wSeq ?_
  refine rg (cp (oAs (cNil (view := vIf119) (x := .nil) rfl)) trivial <| .nil) (by kernel_rfl) ?_
  refine pSeq ?_
  refine wSeq ?_
  refine wSeq ?_
  refine rg (cp (oMv tm) (s1 rfl) <| .nil) (by kernel_rfl) ?_
  refine pSeq ?_
  refine wBlock ?_
  refine wSeq ?_
  refine rg (cp (oTA asOk119_116 cb116 zv116 zvB tm) (s1 rfl) <| cp (oExt (k := 1) rfl tm) (s1 rfl) <| cp (oExt (k := 0) rfl tm) (s1 rfl) <| .nil) (by kernel_rfl) ?_
  refine pSeq ?_
  rcases ic h with ⟨hp1, h⟩ | ⟨hp1, h⟩
  · refine wBT hp1 tm (s1 rfl) ?_
    refine wSeq ?_
    refine rg (cp (oAs tm) (s1 rfl) <| .nil) (by kernel_rfl) ?_
    refine pSeq ?_
    refine wSeq ?_
    refine rg (cp (oMv tm) (s1 rfl) <| cp (oTA asOk119_116 cb116 zv116 zvB tm) (s1 rfl) <| cp (oMv tm) (s1 rfl) <| cp (oExt (k := 0) rfl tm) (s1 rfl) <| cp (oExt (k := 1) rfl tm) (s1 rfl) <| cp (oAs tm) (s1 rfl) <| cp (oAs tm) (s1 rfl) <| .nil) (by kernel_rfl) ?_
    refine pSeq ?_
    refine wSeq ?_
    refine wSeq ?_
    refine rg (cp (oMv tm) (s1 rfl) <| cp (oEq rfl tm (cI (by decide))) (s1 rfl) <| .nil) (by kernel_rfl) ?_
    refine pSeq ?_
    rcases ic h with ⟨hp2, h⟩ | ⟨hp2, h⟩
    · refine wCT hp2 tm (s1 rfl) ?_
      refine wWeak (Γ' := [(8, .d ((kF vIf119).sig If119.nil)), (9, .d (kB.sig ((as119_116 a2).1))), (10, .d (kB.sig ((as119_116 a3).1)))]) ⟨rfl, rfl, rfl, trivial⟩ ?_
      refine wRen 70004 3505003 rfl ?_
      obtain ⟨o1, h, hk1⟩ := bd h
      refine wJ1 (fun x4 => x4 = o1) (fun x4 => [(8, .d ((kF vIf119).sig x4))]) (fun x4 => [.box 70000 123 [.d (kL kS) a0.l_.Names, .d (kL (kI .u32)) a0.l_.Up, .d (kL (kI .i64)) a0.labels_, .v 3505003], .row 3505003 119 (kF vIf119) a0.pile_]) ?_ ?_
      · rcases ic h with ⟨hp5, h⟩ | ⟨hp5, h⟩
        · refine rg (cp (oMv tm) (s1 rfl) <| cp (oMv tm) (s1 rfl) <| cgB hp5 rfl rfl (oMv tm) (s1 rfl) <| cp (oPkT hp5 tm tm) (s2 rfl rfl) <| cp (oMkI (view := vIf119) (x0 := If119.c116 ((as119_116 a3).1)) rfl cb116 tm) (s1 rfl) <| cp (oAs tm) (s1 rfl) <| .nil) (by kernel_rfl) ?_
          exact pJ1 _ (so h) ⟨rfl, trivial⟩ rfl
        · refine rg (cp (oMv tm) (s1 rfl) <| cp (oMv tm) (s1 rfl) <| csB (nb hp5) rfl rfl <| cp (oPkF (nb hp5) tm cB) (s1 rfl) <| cp (oMkI (view := vIf119) (x0 := If119.c116 false) rfl cb116 tm) (s1 rfl) <| cp (oAs tm) (s1 rfl) <| .nil) (by kernel_rfl) ?_
          exact pJ1 _ (so h) ⟨rfl, trivial⟩ rfl
      · rintro x4 rfl
        replace h := hk1
        refine wRet ?_
        refine pThenR ?_
        refine pBlkR ?_
        refine pThenR ?_
        obtain rfl := so h
        refine pSub (Γ' := [(8, .d ((kF vIf119).sig x4))]) ⟨rfl, trivial⟩ ?_
        refine pRen 3505003 70004 rfl ?_
        exact pS1 [0, 1] rfl rfl (.inl rfl) rfl (.tmp rfl <| .nil)
    · refine wCF hp2 tm (s1 rfl) ?_
      refine wSkip ?_
      refine pSeq ?_
      refine wWeak (Γ' := [(8, .d ((kF vIf119).sig If119.nil)), (9, .d (kB.sig ((as119_116 a2).1))), (10, .d (kB.sig ((as119_116 a3).1)))]) ⟨rfl, rfl, rfl, trivial⟩ ?_
      refine wRen 70004 3505003 rfl ?_
      obtain ⟨o1, h, hk1⟩ := bd h
      refine wJ1 (fun x7 => x7 = o1) (fun x7 => [(8, .d ((kF vIf119).sig x7))]) (fun x7 => [.box 70000 123 [.d (kL kS) a0.l_.Names, .d (kL (kI .u32)) a0.l_.Up, .d (kL (kI .i64)) a0.labels_, .v 3505003], .row 3505003 119 (kF vIf119) a0.pile_]) ?_ ?_
      · rcases ic h with ⟨hp8, h⟩ | ⟨hp8, h⟩
        · refine rg (cp (oMv tm) (s1 rfl) <| cp (oMv tm) (s1 rfl) <| csB hp8 rfl rfl <| cp (oPkT hp8 tm cB) (s1 rfl) <| cp (oMkI (view := vIf119) (x0 := If119.c116 true) rfl cb116 tm) (s1 rfl) <| cp (oAs tm) (s1 rfl) <| .nil) (by kernel_rfl) ?_
          exact pJ1 _ (so h) ⟨rfl, trivial⟩ rfl
        · refine rg (cp (oMv tm) (s1 rfl) <| cp (oMv tm) (s1 rfl) <| cgB (nb hp8) rfl rfl (oMv tm) (s1 rfl) <| cp (oPkF (nb hp8) tm tm) (s2 rfl rfl) <| cp (oMkI (view := vIf119) (x0 := If119.c116 ((as119_116 a3).1)) rfl cb116 tm) (s1 rfl) <| cp (oAs tm) (s1 rfl) <| .nil) (by kernel_rfl) ?_
          exact pJ1 _ (so h) ⟨rfl, trivial⟩ rfl
      · rintro x7 rfl
        replace h := hk1
        refine wRet ?_
        refine pBlkR ?_
        refine pThenR ?_
        obtain rfl := so h
        refine pSub (Γ' := [(8, .d ((kF vIf119).sig x7))]) ⟨rfl, trivial⟩ ?_
        refine pRen 3505003 70004 rfl ?_
        exact pS1 [0, 1] rfl rfl (.inl rfl) rfl (.tmp rfl <| .nil)
  · refine wBF hp1 tm (s1 rfl) ?_
    refine wSeq ?_
    refine rg (cp (oTA asOk119_125 cb125 zv125 (zvI (by decide)) tm) (s1 rfl) <| cp (oExt (k := 1) rfl tm) (s1 rfl) <| cp (oExt (k := 0) rfl tm) (s1 rfl) <| .nil) (by kernel_rfl) ?_
    refine pSeq ?_
    rcases ic h with ⟨hp9, h⟩ | ⟨hp9, h⟩
    · refine wBT hp9 tm (s1 rfl) ?_
      refine wSeq ?_
      refine rg (cp (oAs tm) (s1 rfl) <| .nil) (by kernel_rfl) ?_
      refine pSeq ?_
      refine wSeq ?_
      refine rg (cp (oMv tm) (s1 rfl) <| cp (oTA asOk119_125 cb125 zv125 (zvI (by decide)) tm) (s1 rfl) <| cp (oMv tm) (s1 rfl) <| cp (oExt (k := 0) rfl tm) (s1 rfl) <| cp (oExt (k := 1) rfl tm) (s1 rfl) <| cp (oAs tm) (s1 rfl) <| cp (oAs tm) (s1 rfl) <| .nil) (by kernel_rfl) ?_
      refine pSeq ?_
      refine wSeq ?_
      refine wSeq ?_
      refine rg (cp (oMv tm) (s1 rfl) <| .nil) (by kernel_rfl) ?_
      refine pSeq ?_
      refine wBlock ?_
      refine wSeq ?_
      refine rg (cp (oEq rfl tm (cI (by decide))) (s1 rfl) <| cp (oAs tm) (s1 rfl) <| .nil) (by kernel_rfl) ?_
      refine pSeq ?_
      rcases ic h with ⟨hp10, h⟩ | ⟨hp10, h⟩
      · refine wCT hp10 tm (s1 rfl) ?_
        refine wSeq ?_
        obtain ⟨y11, hy11, h⟩ := bd h
        refine rg (cp (oMv tm) (s1 rfl) <| cp (oNilP tm) (s1 rfl) <| cp (oFldP o123_0 tm) (s1 rfl) <| cr (oLdP (n := 0) (k := 0) (m := 2) (d := (kR f_api_Lattice)) (u := a0.l_) (lfS (lfC lf1 (lfC lf1 lfN))) rfl rfl rfl t25 tm) (s1 rfl) <| cp (oMv tm) (s1 rfl) <| cp (oMv tm) (s1 rfl) <| cp (oCall rfl (lattice_Flows.ok hy11) b104 (opds_cons tm (opds_cons tm (opds_cons tm opds_nil)))) (s3 rfl rfl rfl) <| cp (oMv tm) (s1 rfl) <| cp (oExt (k := 0) rfl tm) (s1 rfl) <| cp (oExt (k := 1) rfl tm) (s1 rfl) <| cp (oAs tm) (s1 rfl) <| cp (oAs tm) (s1 rfl) <| .nil) (by kernel_rfl) ?_
        refine pSeq ?_
        refine wSeq ?_
        refine rg (cp (oMv tm) (s1 rfl) <| cp (oMkI (view := vIf119) (x0 := If119.c116 y11.1) rfl cb116 tm) (s1 rfl) <| cp (oAs tm) (s1 rfl) <| .nil) (by kernel_rfl) ?_
        refine pSeq ?_
        refine wRet ?_
        refine pBlkR ?_
        refine pThenR ?_
        refine pBlkR ?_
        refine pThenR ?_
        obtain rfl := so h
        exact pS1 [0, 1] rfl rfl (.inl rfl) rfl (.tmp rfl <| .nil)
      · refine wCF hp10 tm (s1 rfl) ?_
        refine wSeq ?_
        refine rg (cp (oEq rfl tm (cI (by decide))) (s1 rfl) <| cp (oAs tm) (s1 rfl) <| .nil) (by kernel_rfl) ?_
        refine pSeq ?_
        rcases ic h with ⟨hp12, h⟩ | ⟨hp12, h⟩
        · refine wCT hp12 tm (s1 rfl) ?_
          refine wSeq ?_
          obtain ⟨y13, hy13, h⟩ := bd h
          refine rg (cp (oMv tm) (s1 rfl) <| cp (oNilP tm) (s1 rfl) <| cp (oFldP o123_0 tm) (s1 rfl) <| cr (oLdP (n := 0) (k := 0) (m := 2) (d := (kR f_api_Lattice)) (u := a0.l_) (lfS (lfC lf1 (lfC lf1 lfN))) rfl rfl rfl t25 tm) (s1 rfl) <| cp (oMv tm) (s1 rfl) <| cp (oMv tm) (s1 rfl) <| cp (oCall rfl (lattice_Join.ok hy13) b105 (opds_cons tm (opds_cons tm (opds_cons tm opds_nil)))) (s3 rfl rfl rfl) <| cp (oMv tm) (s1 rfl) <| cp (oExt (k := 0) rfl tm) (s1 rfl) <| cp (oExt (k := 1) rfl tm) (s1 rfl) <| cp (oAs tm) (s1 rfl) <| cp (oAs tm) (s1 rfl) <| .nil) (by kernel_rfl) ?_
          refine pSeq ?_
          refine wSeq ?_
          refine rg (cp (oMv tm) (s1 rfl) <| cp (oMkI (view := vIf119) (x0 := If119.c125 y13.1) rfl cb125 tm) (s1 rfl) <| cp (oAs tm) (s1 rfl) <| .nil) (by kernel_rfl) ?_
          refine pSeq ?_
          refine wRet ?_
          refine pBlkR ?_
          refine pThenR ?_
          refine pBlkR ?_
          refine pThenR ?_
          obtain rfl := so h
          exact pS1 [0, 1] rfl rfl (.inl rfl) rfl (.tmp rfl <| .nil)
        · refine wCF hp12 tm (s1 rfl) ?_
          refine wSkip ?_
          refine pBlkN ?_
          refine pSeq ?_
          refine wSeq ?_
          obtain ⟨y14, hy14, h⟩ := bd h
          refine rg (cp (oMv tm) (s1 rfl) <| cp (oNilP tm) (s1 rfl) <| cp (oFldP o123_0 tm) (s1 rfl) <| cr (oLdP (n := 0) (k := 0) (m := 2) (d := (kR f_api_Lattice)) (u := a0.l_) (lfS (lfC lf1 (lfC lf1 lfN))) rfl rfl rfl t25 tm) (s1 rfl) <| cp (oMv tm) (s1 rfl) <| cp (oMv tm) (s1 rfl) <| cp (oCall rfl (lattice_Meet.ok hy14) b106 (opds_cons tm (opds_cons tm (opds_cons tm opds_nil)))) (s3 rfl rfl rfl) <| cp (oMv tm) (s1 rfl) <| cp (oExt (k := 0) rfl tm) (s1 rfl) <| cp (oExt (k := 1) rfl tm) (s1 rfl) <| cp (oAs tm) (s1 rfl) <| cp (oAs tm) (s1 rfl) <| .nil) (by kernel_rfl) ?_
          refine pSeq ?_
          refine wSeq ?_
          refine rg (cp (oMv tm) (s1 rfl) <| cp (oMkI (view := vIf119) (x0 := If119.c125 y14.1) rfl cb125 tm) (s1 rfl) <| cp (oAs tm) (s1 rfl) <| .nil) (by kernel_rfl) ?_
          refine pSeq ?_
          refine wRet ?_
          refine pBlkR ?_
          refine pThenR ?_
          obtain rfl := so h
          exact pS1 [0, 1] rfl rfl (.inl rfl) rfl (.tmp rfl <| .nil)
    · refine wBF hp9 tm (s1 rfl) ?_
      refine wSkip ?_
      refine pBlkN ?_
      refine pSeq ?_
      refine wSeq ?_
      refine rg (cp (oMv tm) (s1 rfl) <| cp (oAs tm) (s1 rfl) <| .nil) (by kernel_rfl) ?_
      refine pSeq ?_
      refine wRet ?_
      obtain rfl := so h
      exact pS1 [0, 1] rfl rfl (.inl rfl) rfl (.tmp rfl <| .nil)

theorem judge_judge_comes.ok {a0 : judge_judge} {a1 : List Int} {r : judge_judge × If119} (h : judge_judge_comes.f a0 a1 = some r) : FnS Tryd.prog 78 [.p 70000 0, .d ((kL (kI .i64)).sig a1)] [.box 70000 123 [.d (kL kS) a0.l_.Names, .d (kL (kI .u32)) a0.l_.Up, .d (kL (kI .i64)) a0.labels_, .v 70004], .row 70004 119 (kF vIf119) a0.pile_] [70000] (.d ((kF vIf119).sig r.2)) [.box 70000 123 [.d (kL kS) r.1.l_.Names, .d (kL (kI .u32)) r.1.l_.Up, .d (kL (kI .i64)) r.1.labels_, .v 70004], .row 70004 119 (kF vIf119) r.1.pile_] := by
  refine fnIntroS Tryd.func78 rfl (by kernel_rfl) fun X H0 w0 pv => ?_
  unfold judge_judge_comes.f at h
  refine wSeq ?_
  refine rg (cp (oAs (cNil (view := vIf119) (x := .nil) rfl)) trivial <| .nil) (by kernel_rfl) ?_
  refine pSeq ?_
  refine wSeq ?_
  refine wSeq ?_
  refine rg (cp (oMv tm) (s1 rfl) <| cp (oLenL u44 tm) (s1 rfl) <| cp (oMv (cI (by decide))) trivial <| .nil) (by kernel_rfl) ?_
  refine pSeq ?_
  refine wWeak (Γ' := [(0, .p 70000 0), (13, .d ((kL (kI .i64)).sig a1)), (14, .d ((kI .i64).sig (a1.length : Int))), (15, .d ((kI .i64).sig 0))]) ⟨rfl, rfl, rfl, rfl, trivial⟩ ?_
  refine wRen 70004 3505003 rfl ?_
  obtain ⟨o1, h, hk1⟩ := bd h
  refine wK4 (fun x236 x237 x238 x239 => (x236, x237, x238, x239) = o1) (fun x236 x237 x238 x239 => [(0, .p 70000 0)]) (fun x236 x237 x238 x239 => [.box 70000 123 [.d (kL kS) x236, .d (kL (kI .u32)) x237, .d (kL (kI .i64)) x238, .v 3505003], .row 3505003 119 (kF vIf119) x239]) ?_ ?_
  · refine wBlock (wLoop ?_)
    refine lW (pc5 o1 (fun v231 v232 v233 v234 v235 => [(0, .p 70000 0), (13, .d ((kL (kI .i64)).sig a1)), (14, .d ((kI .i64).sig (a1.length : Int))), (15, .d ((kI .i64).sig v235))]) (fun v231 v232 v233 v234 v235 => [.box 70000 123 [.d (kL kS) v231, .d (kL (kI .u32)) v232, .d (kL (kI .i64)) v233, .v 3505003], .row 3505003 119 (kF vIf119) v234]) (judge_judge_comes.l0.partial_correctness a1) ?_ _ _ _ _ _ h) ⟨rfl, rfl, rfl, rfl, trivial⟩ rfl
    clear h
    intro f' ih v231 v232 v233 v234 v235 h
    refine wSeq ?_
    refine rg (cp (oLt rfl tm tm) (s2 rfl rfl) <| .nil) (by kernel_rfl) ?_
    refine pSeq ?_
    refine wSeq ?_
    rcases ic h with ⟨hp240, h⟩ | ⟨hp240, h⟩
    · refine wCT hp240 tm (s1 rfl) ?_
      refine wSkip ?_
      refine pSeq ?_
      obtain ⟨o2, h, hk2⟩ := bd h
      refine wJ4 (fun x296 x297 x298 x299 => (x296, x297, x298, x299) = o2) (fun x296 x297 x298 x299 => [(0, .p 70000 0), (13, .d ((kL (kI .i64)).sig a1)), (14, .d ((kI .i64).sig (a1.length : Int))), (15, .d ((kI .i64).sig v235))]) (fun x296 x297 x298 x299 => [.box 70000 123 [.d (kL kS) x296, .d (kL (kI .u32)) x297, .d (kL (kI .i64)) x298, .v 3505003], .row 3505003 119 (kF vIf119) x299]) ?_ ?_
      · refine wBlock ?_
        refine wSeq ?_
        obtain ⟨y300, hy300, h⟩ := bd h
        refine rg (cp (oIdx u44 z3 hy300 tm tm) (s2 rfl rfl) <| cp (oLd t3 tm) (s1 rfl) <| cp (oAs tm) (s1 rfl) <| .nil) (by kernel_rfl) ?_
        refine pSeq ?_
        refine wSeq ?_
        refine rg (cp (oMv tm) (s1 rfl) <| .nil) (by kernel_rfl) ?_
        refine pSeq ?_
        obtain ⟨o3, h, hk3⟩ := bd h
        refine wK4 (fun x326 x327 x328 x329 => (x326, x327, x328, x329) = o3) (fun x326 x327 x328 x329 => [(0, .p 70000 0), (13, .d ((kL (kI .i64)).sig a1)), (14, .d ((kI .i64).sig (a1.length : Int))), (15, .d ((kI .i64).sig v235))]) (fun x326 x327 x328 x329 => [.box 70000 123 [.d (kL kS) x326, .d (kL (kI .u32)) x327, .d (kL (kI .i64)) x328, .v 3505003], .row 3505003 119 (kF vIf119) x329]) ?_ ?_
        · refine wBlock ?_
          refine wSeq ?_
          refine wSeq ?_
          refine rg (cp (oEq rfl tm (cI (by decide))) (s1 rfl) <| cp (oAs tm) (s1 rfl) <| .nil) (by kernel_rfl) ?_
          refine pSeq ?_
          rcases ic h with ⟨hp330, h⟩ | ⟨hp330, h⟩
          · refine wCT hp330 tm (s1 rfl) ?_
            refine wSkip ?_
            refine pSeq ?_
            refine wCT hp330 tm (s1 rfl) ?_
            obtain ⟨y331, hy331, h⟩ := bd h
            refine rg (cp (oMv tm) (s1 rfl) <| cp (oMv tm) (s1 rfl) <| cp (oEq rfl tm (cI (by decide))) (s1 rfl) <| cp (oMkI (view := vIf119) (x0 := If119.c116 (decide (y300 = 1))) rfl cb116 tm) (s1 rfl) <| cm (oCallS (rest := []) (R' := [.box 70000 123 [.d (kL kS) y331.l_.Names, .d (kL (kI .u32)) y331.l_.Up, .d (kL (kI .i64)) y331.labels_, .v 390160], .row 390160 119 (kF vIf119) y331.pile_]) (out' := .d (tup [])) [(70000, 70000), (70004, 3505003)] [(70004, 390160)] [0, 1] [] [0, 1] rfl (judge_judge_put.ok hy331) b93 (oE1 tm (oE1 tm oE0)) rfl rfl rfl rfl rfl rfl rfl rfl) (s2 rfl rfl) <| .nil) (by kernel_rfl) ?_
            refine pBlkN ?_
            refine pSub (Γ' := [(0, .p 70000 0), (13, .d ((kL (kI .i64)).sig a1)), (14, .d ((kI .i64).sig (a1.length : Int))), (15, .d ((kI .i64).sig v235))]) ⟨rfl, rfl, rfl, rfl, trivial⟩ ?_
            refine pRen 390160 3505003 rfl ?_
            exact pJ4 _ _ _ _ (so h) ⟨rfl, rfl, rfl, rfl, trivial⟩ rfl
          · refine wCF hp330 tm (s1 rfl) ?_
            refine rg (cp (oEq rfl tm (cI (by decide))) (s1 rfl) <| cp (oAs tm) (s1 rfl) <| .nil) (by kernel_rfl) ?_
            refine pSeq ?_
            rcases ic h with ⟨hp332, h⟩ | ⟨hp332, h⟩
            · refine wCT hp332 tm (s1 rfl) ?_
              obtain ⟨y333, hy333, h⟩ := bd h
              refine rg (cp (oMv tm) (s1 rfl) <| cp (oMv tm) (s1 rfl) <| cp (oEq rfl tm (cI (by decide))) (s1 rfl) <| cp (oMkI (view := vIf119) (x0 := If119.c116 (decide (y300 = 1))) rfl cb116 tm) (s1 rfl) <| cm (oCallS (rest := []) (R' := [.box 70000 123 [.d (kL kS) y333.l_.Names, .d (kL (kI .u32)) y333.l_.Up, .d (kL (kI .i64)) y333.labels_, .v 390160], .row 390160 119 (kF vIf119) y333.pile_]) (out' := .d (tup [])) [(70000, 70000), (70004, 3505003)] [(70004, 390160)] [0, 1] [] [0, 1] rfl (judge_judge_put.ok hy333) b93 (oE1 tm (oE1 tm oE0)) rfl rfl rfl rfl rfl rfl rfl rfl) (s2 rfl rfl) <| .nil) (by kernel_rfl) ?_
              refine pBlkN ?_
              refine pSub (Γ' := [(0, .p 70000 0), (13, .d ((kL (kI .i64)).sig a1)), (14, .d ((kI .i64).sig (a1.length : Int))), (15, .d ((kI .i64).sig v235))]) ⟨rfl, rfl, rfl, rfl, trivial⟩ ?_
              refine pRen 390160 3505003 rfl ?_
              exact pJ4 _ _ _ _ (so h) ⟨rfl, rfl, rfl, rfl, trivial⟩ rfl
            · refine wCF hp332 tm (s1 rfl) ?_
              refine wSeq ?_
              refine rg (cp (oEq rfl tm (cI (by decide))) (s1 rfl) <| cp (oAs tm) (s1 rfl) <| .nil) (by kernel_rfl) ?_
              refine pSeq ?_
              rcases ic h with ⟨hp334, h⟩ | ⟨hp334, h⟩
              · refine wCT hp334 tm (s1 rfl) ?_
                refine wSeq ?_
                obtain ⟨y335, hy335, h⟩ := bd h
                refine rg (cp (oMv tm) (s1 rfl) <| cp (oNilP tm) (s1 rfl) <| cp (oFldP o123_0 tm) (s1 rfl) <| cr (oLdP (n := 0) (k := 0) (m := 2) (d := (kR f_api_Lattice)) (u := (⟨v231, v232⟩ : api_Lattice)) (lfS (lfC lf1 (lfC lf1 lfN))) rfl rfl rfl t25 tm) (s1 rfl) <| cp (oCall rfl (lattice_Bottom.ok hy335) b46 (opds_cons tm opds_nil)) (s1 rfl) <| cp (oMv tm) (s1 rfl) <| cp (oExt (k := 0) rfl tm) (s1 rfl) <| cp (oExt (k := 1) rfl tm) (s1 rfl) <| cp (oAs tm) (s1 rfl) <| cp (oAs tm) (s1 rfl) <| .nil) (by kernel_rfl) ?_
                refine pSeq ?_
                obtain ⟨y336, hy336, h⟩ := bd h
                refine rg (cp (oMv tm) (s1 rfl) <| cp (oMv tm) (s1 rfl) <| cp (oMkI (view := vIf119) (x0 := If119.c125 y335.1) rfl cb125 tm) (s1 rfl) <| cm (oCallS (rest := []) (R' := [.box 70000 123 [.d (kL kS) y336.l_.Names, .d (kL (kI .u32)) y336.l_.Up, .d (kL (kI .i64)) y336.labels_, .v 420120], .row 420120 119 (kF vIf119) y336.pile_]) (out' := .d (tup [])) [(70000, 70000), (70004, 3505003)] [(70004, 420120)] [0, 1] [] [0, 1] rfl (judge_judge_put.ok hy336) b93 (oE1 tm (oE1 tm oE0)) rfl rfl rfl rfl rfl rfl rfl rfl) (s2 rfl rfl) <| .nil) (by kernel_rfl) ?_
                refine pBlkN ?_
                refine pSub (Γ' := [(0, .p 70000 0), (13, .d ((kL (kI .i64)).sig a1)), (14, .d ((kI .i64).sig (a1.length : Int))), (15, .d ((kI .i64).sig v235))]) ⟨rfl, rfl, rfl, rfl, trivial⟩ ?_
                refine pRen 420120 3505003 rfl ?_
                exact pJ4 _ _ _ _ (so h) ⟨rfl, rfl, rfl, rfl, trivial⟩ rfl
              · refine wCF hp334 tm (s1 rfl) ?_
                refine wSeq ?_
                refine rg (cp (oEq rfl tm (cI (by decide))) (s1 rfl) <| cp (oAs tm) (s1 rfl) <| .nil) (by kernel_rfl) ?_
                refine pSeq ?_
                rcases ic h with ⟨hp337, h⟩ | ⟨hp337, h⟩
                · refine wCT hp337 tm (s1 rfl) ?_
                  refine wSeq ?_
                  obtain ⟨y338, hy338, h⟩ := bd h
                  refine rg (cp (oMv tm) (s1 rfl) <| cp (oNilP tm) (s1 rfl) <| cp (oFldP o123_0 tm) (s1 rfl) <| cr (oLdP (n := 0) (k := 0) (m := 2) (d := (kR f_api_Lattice)) (u := (⟨v231, v232⟩ : api_Lattice)) (lfS (lfC lf1 (lfC lf1 lfN))) rfl rfl rfl t25 tm) (s1 rfl) <| cp (oCall rfl (lattice_Top.ok hy338) b94 (opds_cons tm opds_nil)) (s1 rfl) <| cp (oMv tm) (s1 rfl) <| cp (oExt (k := 0) rfl tm) (s1 rfl) <| cp (oExt (k := 1) rfl tm) (s1 rfl) <| cp (oAs tm) (s1 rfl) <| cp (oAs tm) (s1 rfl) <| .nil) (by kernel_rfl) ?_
                  refine pSeq ?_
                  obtain ⟨y339, hy339, h⟩ := bd h
                  refine rg (cp (oMv tm) (s1 rfl) <| cp (oMv tm) (s1 rfl) <| cp (oMkI (view := vIf119) (x0 := If119.c125 y338.1) rfl cb125 tm) (s1 rfl) <| cm (oCallS (rest := []) (R' := [.box 70000 123 [.d (kL kS) y339.l_.Names, .d (kL (kI .u32)) y339.l_.Up, .d (kL (kI .i64)) y339.labels_, .v 450120], .row 450120 119 (kF vIf119) y339.pile_]) (out' := .d (tup [])) [(70000, 70000), (70004, 3505003)] [(70004, 450120)] [0, 1] [] [0, 1] rfl (judge_judge_put.ok hy339) b93 (oE1 tm (oE1 tm oE0)) rfl rfl rfl rfl rfl rfl rfl rfl) (s2 rfl rfl) <| .nil) (by kernel_rfl) ?_
                  refine pBlkN ?_
                  refine pSub (Γ' := [(0, .p 70000 0), (13, .d ((kL (kI .i64)).sig a1)), (14, .d ((kI .i64).sig (a1.length : Int))), (15, .d ((kI .i64).sig v235))]) ⟨rfl, rfl, rfl, rfl, trivial⟩ ?_
                  refine pRen 450120 3505003 rfl ?_
                  exact pJ4 _ _ _ _ (so h) ⟨rfl, rfl, rfl, rfl, trivial⟩ rfl
                · refine wCF hp337 tm (s1 rfl) ?_
                  refine wSeq ?_
                  refine wSeq ?_
                  refine rg (cp (oEq rfl tm (cI (by decide))) (s1 rfl) <| cp (oAs tm) (s1 rfl) <| .nil) (by kernel_rfl) ?_
                  refine pSeq ?_
                  rcases ic h with ⟨hp340, h⟩ | ⟨hp340, h⟩
                  · refine wCT hp340 tm (s1 rfl) ?_
                    refine wSkip ?_
                    refine pSeq ?_
                    refine wCT hp340 tm (s1 rfl) ?_
                    obtain ⟨y341, hy341, h⟩ := bd h
                    obtain ⟨y342, hy342, h⟩ := bd h
                    refine rg (cp (oMv tm) (s1 rfl) <| cp (oMv tm) (s1 rfl) <| cp (oNilP tm) (s1 rfl) <| cp (oFldP o123_1 tm) (s1 rfl) <| cr (oLdB (n := 0) (k := 2) rfl rfl rfl t44 tm) (s1 rfl) <| cp (oMv tm) (s1 rfl) <| cp (oSub tm (cI (by decide))) (s1 rfl) <| cp (oIdx u44 z3 hy341 tm tm) (s2 rfl rfl) <| cp (oLd t3 tm) (s1 rfl) <| cp (oMkI (view := vIf119) (x0 := If119.c125 y341) rfl cb125 tm) (s1 rfl) <| cm (oCallS (rest := []) (R' := [.box 70000 123 [.d (kL kS) y342.l_.Names, .d (kL (kI .u32)) y342.l_.Up, .d (kL (kI .i64)) y342.labels_, .v 500400], .row 500400 119 (kF vIf119) y342.pile_]) (out' := .d (tup [])) [(70000, 70000), (70004, 3505003)] [(70004, 500400)] [0, 1] [] [0, 1] rfl (judge_judge_put.ok hy342) b93 (oE1 tm (oE1 tm oE0)) rfl rfl rfl rfl rfl rfl rfl rfl) (s2 rfl rfl) <| .nil) (by kernel_rfl) ?_
                    refine pBlkN ?_
                    refine pSub (Γ' := [(0, .p 70000 0), (13, .d ((kL (kI .i64)).sig a1)), (14, .d ((kI .i64).sig (a1.length : Int))), (15, .d ((kI .i64).sig v235))]) ⟨rfl, rfl, rfl, rfl, trivial⟩ ?_
                    refine pRen 500400 3505003 rfl ?_
                    exact pJ4 _ _ _ _ (so h) ⟨rfl, rfl, rfl, rfl, trivial⟩ rfl
                  · refine wCF hp340 tm (s1 rfl) ?_
                    refine wSeq ?_
                    refine rg (cp (oEq rfl tm (cI (by decide))) (s1 rfl) <| cp (oAs tm) (s1 rfl) <| .nil) (by kernel_rfl) ?_
                    refine pSeq ?_
                    rcases ic h with ⟨hp343, h⟩ | ⟨hp343, h⟩
                    · refine wCT hp343 tm (s1 rfl) ?_
                      refine wSkip ?_
                      refine pSeq ?_
                      refine wCT hp343 tm (s1 rfl) ?_
                      obtain ⟨y344, hy344, h⟩ := bd h
                      obtain ⟨y345, hy345, h⟩ := bd h
                      refine rg (cp (oMv tm) (s1 rfl) <| cp (oMv tm) (s1 rfl) <| cp (oNilP tm) (s1 rfl) <| cp (oFldP o123_1 tm) (s1 rfl) <| cr (oLdB (n := 0) (k := 2) rfl rfl rfl t44 tm) (s1 rfl) <| cp (oMv tm) (s1 rfl) <| cp (oSub tm (cI (by decide))) (s1 rfl) <| cp (oIdx u44 z3 hy344 tm tm) (s2 rfl rfl) <| cp (oLd t3 tm) (s1 rfl) <| cp (oMkI (view := vIf119) (x0 := If119.c125 y344) rfl cb125 tm) (s1 rfl) <| cm (oCallS (rest := []) (R' := [.box 70000 123 [.d (kL kS) y345.l_.Names, .d (kL (kI .u32)) y345.l_.Up, .d (kL (kI .i64)) y345.labels_, .v 500400], .row 500400 119 (kF vIf119) y345.pile_]) (out' := .d (tup [])) [(70000, 70000), (70004, 3505003)] [(70004, 500400)] [0, 1] [] [0, 1] rfl (judge_judge_put.ok hy345) b93 (oE1 tm (oE1 tm oE0)) rfl rfl rfl rfl rfl rfl rfl rfl) (s2 rfl rfl) <| .nil) (by kernel_rfl) ?_
                      refine pBlkN ?_
                      refine pSub (Γ' := [(0, .p 70000 0), (13, .d ((kL (kI .i64)).sig a1)), (14, .d ((kI .i64).sig (a1.length : Int))), (15, .d ((kI .i64).sig v235))]) ⟨rfl, rfl, rfl, rfl, trivial⟩ ?_
                      refine pRen 500400 3505003 rfl ?_
                      exact pJ4 _ _ _ _ (so h) ⟨rfl, rfl, rfl, rfl, trivial⟩ rfl
                    · refine wCF hp343 tm (s1 rfl) ?_
                      refine wSeq ?_
                      refine rg (cp (oEq rfl tm (cI (by decide))) (s1 rfl) <| cp (oAs tm) (s1 rfl) <| .nil) (by kernel_rfl) ?_
                      refine pSeq ?_
                      rcases ic h with ⟨hp346, h⟩ | ⟨hp346, h⟩
                      · refine wCT hp346 tm (s1 rfl) ?_
                        refine wSkip ?_
                        refine pSeq ?_
                        refine wCT hp346 tm (s1 rfl) ?_
                        obtain ⟨y347, hy347, h⟩ := bd h
                        obtain ⟨y348, hy348, h⟩ := bd h
                        refine rg (cp (oMv tm) (s1 rfl) <| cp (oMv tm) (s1 rfl) <| cp (oNilP tm) (s1 rfl) <| cp (oFldP o123_1 tm) (s1 rfl) <| cr (oLdB (n := 0) (k := 2) rfl rfl rfl t44 tm) (s1 rfl) <| cp (oMv tm) (s1 rfl) <| cp (oSub tm (cI (by decide))) (s1 rfl) <| cp (oIdx u44 z3 hy347 tm tm) (s2 rfl rfl) <| cp (oLd t3 tm) (s1 rfl) <| cp (oMkI (view := vIf119) (x0 := If119.c125 y347) rfl cb125 tm) (s1 rfl) <| cm (oCallS (rest := []) (R' := [.box 70000 123 [.d (kL kS) y348.l_.Names, .d (kL (kI .u32)) y348.l_.Up, .d (kL (kI .i64)) y348.labels_, .v 500400], .row 500400 119 (kF vIf119) y348.pile_]) (out' := .d (tup [])) [(70000, 70000), (70004, 3505003)] [(70004, 500400)] [0, 1] [] [0, 1] rfl (judge_judge_put.ok hy348) b93 (oE1 tm (oE1 tm oE0)) rfl rfl rfl rfl rfl rfl rfl rfl) (s2 rfl rfl) <| .nil) (by kernel_rfl) ?_
                        refine pBlkN ?_
                        refine pSub (Γ' := [(0, .p 70000 0), (13, .d ((kL (kI .i64)).sig a1)), (14, .d ((kI .i64).sig (a1.length : Int))), (15, .d ((kI .i64).sig v235))]) ⟨rfl, rfl, rfl, rfl, trivial⟩ ?_
                        refine pRen 500400 3505003 rfl ?_
                        exact pJ4 _ _ _ _ (so h) ⟨rfl, rfl, rfl, rfl, trivial⟩ rfl
                      · refine wCF hp346 tm (s1 rfl) ?_
                        refine rg (cp (oEq rfl tm (cI (by decide))) (s1 rfl) <| cp (oAs tm) (s1 rfl) <| .nil) (by kernel_rfl) ?_
                        refine pSeq ?_
                        rcases ic h with ⟨hp349, h⟩ | ⟨hp349, h⟩
                        · refine wCT hp349 tm (s1 rfl) ?_
                          obtain ⟨y350, hy350, h⟩ := bd h
                          obtain ⟨y351, hy351, h⟩ := bd h
                          refine rg (cp (oMv tm) (s1 rfl) <| cp (oMv tm) (s1 rfl) <| cp (oNilP tm) (s1 rfl) <| cp (oFldP o123_1 tm) (s1 rfl) <| cr (oLdB (n := 0) (k := 2) rfl rfl rfl t44 tm) (s1 rfl) <| cp (oMv tm) (s1 rfl) <| cp (oSub tm (cI (by decide))) (s1 rfl) <| cp (oIdx u44 z3 hy350 tm tm) (s2 rfl rfl) <| cp (oLd t3 tm) (s1 rfl) <| cp (oMkI (view := vIf119) (x0 := If119.c125 y350) rfl cb125 tm) (s1 rfl) <| cm (oCallS (rest := []) (R' := [.box 70000 123 [.d (kL kS) y351.l_.Names, .d (kL (kI .u32)) y351.l_.Up, .d (kL (kI .i64)) y351.labels_, .v 500400], .row 500400 119 (kF vIf119) y351.pile_]) (out' := .d (tup [])) [(70000, 70000), (70004, 3505003)] [(70004, 500400)] [0, 1] [] [0, 1] rfl (judge_judge_put.ok hy351) b93 (oE1 tm (oE1 tm oE0)) rfl rfl rfl rfl rfl rfl rfl rfl) (s2 rfl rfl) <| .nil) (by kernel_rfl) ?_
                          refine pBlkN ?_
                          refine pSub (Γ' := [(0, .p 70000 0), (13, .d ((kL (kI .i64)).sig a1)), (14, .d ((kI .i64).sig (a1.length : Int))), (15, .d ((kI .i64).sig v235))]) ⟨rfl, rfl, rfl, rfl, trivial⟩ ?_
                          refine pRen 500400 3505003 rfl ?_
                          exact pJ4 _ _ _ _ (so h) ⟨rfl, rfl, rfl, rfl, trivial⟩ rfl
                        · refine wCF hp349 tm (s1 rfl) ?_
                          refine wSeq ?_
                          obtain ⟨y352, hy352, h⟩ := bd h
                          refine rg (cp (oMv tm) (s1 rfl) <| cm (oCallS (rest := []) (R' := [.box 70000 123 [.d (kL kS) y352.1.l_.Names, .d (kL (kI .u32)) y352.1.l_.Up, .d (kL (kI .i64)) y352.1.labels_, .v 350040], .row 350040 119 (kF vIf119) y352.1.pile_]) (out' := .d (tup [(kF vIf119).sig y352.2.1, (kF vIf119).sig y352.2.2])) [(70000, 70000), (70004, 3505003)] [(70004, 350040)] [0, 1] [] [0, 1] rfl (judge_judge_two.ok hy352) b95 (oE1 tm oE0) rfl rfl rfl rfl rfl rfl rfl rfl) (s1 rfl) <| cp (oMv tm) (s1 rfl) <| cp (oExt (k := 0) rfl tm) (s1 rfl) <| cp (oExt (k := 1) rfl tm) (s1 rfl) <| cp (oAs tm) (s1 rfl) <| cp (oAs tm) (s1 rfl) <| .nil) (by kernel_rfl) ?_
                          refine pSeq ?_
                          obtain ⟨y353, hy353, h⟩ := bd h
                          obtain ⟨y354, hy354, h⟩ := bd h
                          refine rg (cp (oMv tm) (s1 rfl) <| cp (oMv tm) (s1 rfl) <| cp (oMv tm) (s1 rfl) <| cp (oMv tm) (s1 rfl) <| cp (oMv tm) (s1 rfl) <| cm (oCallS (rest := []) (R' := [.box 70000 123 [.d (kL kS) y353.1.l_.Names, .d (kL (kI .u32)) y353.1.l_.Up, .d (kL (kI .i64)) y353.1.labels_, .v 360200], .row 360200 119 (kF vIf119) y353.1.pile_]) (out' := .d ((kF vIf119).sig y353.2)) [(70000, 70000), (70004, 350040)] [(70004, 360200)] [0, 1] [] [0, 1] rfl (judge_judge_both.ok hy353) b96 (oE1 tm (oE1 tm (oE1 tm (oE1 tm oE0)))) rfl rfl rfl rfl rfl rfl rfl rfl) ⟨rfl, rfl, rfl, rfl, trivial⟩ <| cm (oCallS (rest := []) (R' := [.box 70000 123 [.d (kL kS) y354.l_.Names, .d (kL (kI .u32)) y354.l_.Up, .d (kL (kI .i64)) y354.labels_, .v 360240], .row 360240 119 (kF vIf119) y354.pile_]) (out' := .d (tup [])) [(70000, 70000), (70004, 360200)] [(70004, 360240)] [0, 1] [] [0, 1] rfl (judge_judge_put.ok hy354) b93 (oE1 tm (oE1 tm oE0)) rfl rfl rfl rfl rfl rfl rfl rfl) (s2 rfl rfl) <| .nil) (by kernel_rfl) ?_
                          refine pBlkN ?_
                          refine pSub (Γ' := [(0, .p 70000 0), (13, .d ((kL (kI .i64)).sig a1)), (14, .d ((kI .i64).sig (a1.length : Int))), (15, .d ((kI .i64).sig v235))]) ⟨rfl, rfl, rfl, rfl, trivial⟩ ?_
                          refine pRen 360240 3505003 rfl ?_
                          exact pJ4 _ _ _ _ (so h) ⟨rfl, rfl, rfl, rfl, trivial⟩ rfl
        · rintro x326 x327 x328 x329 rfl
          replace h := hk3
          refine pBlkN ?_
          exact pJ4 _ _ _ _ (so h) ⟨rfl, rfl, rfl, rfl, trivial⟩ rfl
      · rintro x296 x297 x298 x299 rfl
        replace h := hk2
        refine rg (cp (oAdd tm (cI (by decide))) (s1 rfl) <| cp (oMv tm) (s1 rfl) <| .nil) (by kernel_rfl) ?_
        exact pLoop (lW (ih _ _ _ _ _ h) ⟨rfl, rfl, rfl, rfl, trivial⟩ rfl)
    · refine wCF hp240 tm (s1 rfl) ?_
      refine wExit ?_
      refine pThenX ?_
      refine pThenX ?_
      refine pBlkX ?_
      exact pJ4 _ _ _ _ (so h) ⟨rfl, trivial⟩ rfl
  · rintro x236 x237 x238 x239 rfl
    replace h := hk1
    refine pSeq ?_
    refine wSeq ?_
    obtain ⟨y355, hy355, h⟩ := bd h
    refine rg (cp (oMv tm) (s1 rfl) <| cp (oNilP tm) (s1 rfl) <| cp (oFldP o123_2 tm) (s1 rfl) <| cr (oLdN (n := 0) (k := 3) rfl rfl rfl t121 tm) (s1 rfl) <| cr (oIdxR (n := 1) u121 z119 rfl hy355 tm (cI (by decide))) (s1 rfl) <| cr (oLdE (n := 1) rfl hy355 rfl t119 tm) (s1 rfl) <| cp (oAs tm) (s1 rfl) <| .nil) (by kernel_rfl) ?_
    refine pSeq ?_
    refine wRet ?_
    obtain rfl := so h
    refine pSub (Γ' := [(4, .d ((kF vIf119).sig y355))]) ⟨rfl, trivial⟩ ?_
    refine pRen 3505003 70004 rfl ?_
    exact pS1 [0, 1] rfl rfl (.inl rfl) rfl (.tmp rfl <| .nil)

theorem judge_Cond.ok {a0 : api_Lattice} {a1 : List Int} {a2 : List Int} {r : Bool × Int} (h : judge_Cond.f a0 a1 a2 = some r) : FnA Tryd.prog 48 [(kR f_api_Lattice).sig a0, (kL (kI .i64)).sig a1, (kL (kI .i64)).sig a2] (tup [kB.sig r.1, (kI .i64).sig r.2]) := by
  refine fnIntro Tryd.func48 rfl (by kernel_rfl) fun H0 w0 => ?_
  unfold judge_Cond.f at h
  refine wSeq ?_
  refine rg (cp (oBox tm) (s1 rfl) <| cp (oAs cB) trivial <| cp (oAs (cI (by decide))) trivial <| .nil) (by kernel_rfl) ?_
  refine pSeq ?_
  refine wSeq ?_
  refine wSeq ?_
  obtain ⟨y1, hy1, h⟩ := bd h
  refine rg (cp (oLd t25 tm) (s1 rfl) <| cp (oMv tm) (s1 rfl) <| cp (oMv tm) (s1 rfl) <| cp (oCall rfl (judge_may.ok hy1) b77 (opds_cons tm (opds_cons tm (opds_cons tm (opds_cons cB opds_nil))))) (s3 rfl rfl rfl) <| cp (oAs tm) (s1 rfl) <| .nil) (by kernel_rfl) ?_
  refine pSeq ?_
  refine wSeq ?_
  refine rg (cp (oMv tm) (s1 rfl) <| cp (oNe rfl tm (cI (by decide))) (s1 rfl) <| .nil) (by kernel_rfl) ?_
  refine pSeq ?_
  rcases ic h with ⟨hp2, h⟩ | ⟨hp2, h⟩
  · refine wNT hp2 tm (s1 rfl) ?_
    refine wSkip ?_
    refine pSeq ?_
    refine wSeq ?_
    obtain ⟨y3, hy3, h⟩ := bd h
    refine rg (cp (oLd t25 tm) (s1 rfl) <| cp (oMv tm) (s1 rfl) <| cp (oBuild (fs := f_judge_judge_n2) (u := ⟨a0, a2, []⟩) rfl ze123 pl123 po123_2 (.op (zc := [(.slice none 0 0), (.slice none 0 0)]) tm rfl (.op (zc := [(.slice none 0 0)]) tm rfl (.ze (zc := [(.slice none 0 0)]) zN .nil)))) (s2 rfl rfl) <| cm (okNil (n := 0) (k := 3) (id := 6103) (kF vIf119) 119 ((Ok.toL (oBoxP (id := 22) (d := (kR f_judge_judge_n2)) (ls := [.d (kL kS) a0.Names, .d (kL (kI .u32)) a0.Up, .d (kL (kI .i64)) a2, .d (kN If119) []]) (lfS (lfC (lfS (lfC lf1 (lfC lf1 lfN))) (lfC lf1 (lfC lf1 lfN)))) rfl tm) (fun c e => by cases e))) rfl rfl rfl) (s1 rfl) <| cp (oMv tm) (s1 rfl) <| cm (oCallS (rest := []) (R' := [.row 340200 119 (kF vIf119) y3.1.pile_, .box 22 123 [.d (kL kS) y3.1.l_.Names, .d (kL (kI .u32)) y3.1.l_.Up, .d (kL (kI .i64)) y3.1.labels_, .v 340200]]) (out' := .d ((kF vIf119).sig y3.2)) [(70000, 22), (70004, 6103)] [(70004, 340200)] [1, 0] [] [1, 0] rfl (judge_judge_comes.ok hy3) b78 (oE1 tm (oE1 tm oE0)) rfl rfl rfl rfl rfl rfl rfl rfl) (s2 rfl rfl) <| cp (oTA asOk119_116 cb116 zv116 zvB tm) (s1 rfl) <| cp (oMv tm) (s1 rfl) <| cp (oExt (k := 0) rfl tm) (s1 rfl) <| cp (oExt (k := 1) rfl tm) (s1 rfl) <| cp (oAs tm) (s1 rfl) <| cp (oAs tm) (s1 rfl) <| .nil) (by kernel_rfl) ?_
    refine pSeq ?_
    refine wSeq ?_
    refine rg (cp (oMv tm) (s1 rfl) <| cp (oAs tm) (s1 rfl) <| cp (oAs (cI (by decide))) trivial <| .nil) (by kernel_rfl) ?_
    refine pSeq ?_
    refine wRet ?_
    obtain rfl := so h
    exact pRn (.inl rfl) rfl rfl (.tmp rfl <| .tmp rfl <| .nil)
  · refine wNF hp2 tm (s1 rfl) ?_
    refine wSeq ?_
    refine rg (cp (oMv tm) (s1 rfl) <| cp (oAs cB) trivial <| cp (oAs tm) (s1 rfl) <| .nil) (by kernel_rfl) ?_
    refine pSeq ?_
    refine wRet ?_
    refine pThenR ?_
    obtain rfl := so h
    exact pRn (.inl rfl) rfl rfl (.tmp rfl <| .tmp rfl <| .nil)

theorem judge_Label.ok {a0 : api_Lattice} {a1 : List Int} {a2 : List Int} {r : Int × Int} (h : judge_Label.f a0 a1 a2 = some r) : FnA Tryd.prog 49 [(kR f_api_Lattice).sig a0, (kL (kI .i64)).sig a1, (kL (kI .i64)).sig a2] (tup [(kI .i64).sig r.1, (kI .i64).sig r.2]) := by
  refine fnIntro Tryd.func49 rfl (by kernel_rfl) fun H0 w0 => ?_
  unfold judge_Label.f at h
  refine wSeq ?_
  refine rg (cp (oBox tm) (s1 rfl) <| cp (oAs (cI (by decide))) trivial <| cp (oAs (cI (by decide))) trivial <| .nil) (by kernel_rfl) ?_
  refine pSeq ?_
  refine wSeq ?_
  refine wSeq ?_
  obtain ⟨y1, hy1, h⟩ := bd h
  refine rg (cp (oLd t25 tm) (s1 rfl) <| cp (oMv tm) (s1 rfl) <| cp (oMv tm) (s1 rfl) <| cp (oCall rfl (judge_may.ok hy1) b77 (opds_cons tm (opds_cons tm (opds_cons tm (opds_cons cB opds_nil))))) (s3 rfl rfl rfl) <| cp (oAs tm) (s1 rfl) <| .nil) (by kernel_rfl) ?_
  refine pSeq ?_
  refine wSeq ?_
  refine rg (cp (oMv tm) (s1 rfl) <| cp (oNe rfl tm (cI (by decide))) (s1 rfl) <| .nil) (by kernel_rfl) ?_
  refine pSeq ?_
  rcases ic h with ⟨hp2, h⟩ | ⟨hp2, h⟩
  · refine wNT hp2 tm (s1 rfl) ?_
    refine wSkip ?_
    refine pSeq ?_
    refine wSeq ?_
    obtain ⟨y3, hy3, h⟩ := bd h
    refine rg (cp (oLd t25 tm) (s1 rfl) <| cp (oMv tm) (s1 rfl) <| cp (oBuild (fs := f_judge_judge_n2) (u := ⟨a0, a2, []⟩) rfl ze123 pl123 po123_2 (.op (zc := [(.slice none 0 0), (.slice none 0 0)]) tm rfl (.op (zc := [(.slice none 0 0)]) tm rfl (.ze (zc := [(.slice none 0 0)]) zN .nil)))) (s2 rfl rfl) <| cm (okNil (n := 0) (k := 3) (id := 6103) (kF vIf119) 119 ((Ok.toL (oBoxP (id := 22) (d := (kR f_judge_judge_n2)) (ls := [.d (kL kS) a0.Names, .d (kL (kI .u32)) a0.Up, .d (kL (kI .i64)) a2, .d (kN If119) []]) (lfS (lfC (lfS (lfC lf1 (lfC lf1 lfN))) (lfC lf1 (lfC lf1 lfN)))) rfl tm) (fun c e => by cases e))) rfl rfl rfl) (s1 rfl) <| cp (oMv tm) (s1 rfl) <| cm (oCallS (rest := []) (R' := [.row 340200 119 (kF vIf119) y3.1.pile_, .box 22 123 [.d (kL kS) y3.1.l_.Names, .d (kL (kI .u32)) y3.1.l_.Up, .d (kL (kI .i64)) y3.1.labels_, .v 340200]]) (out' := .d ((kF vIf119).sig y3.2)) [(70000, 22), (70004, 6103)] [(70004, 340200)] [1, 0] [] [1, 0] rfl (judge_judge_comes.ok hy3) b78 (oE1 tm (oE1 tm oE0)) rfl rfl rfl rfl rfl rfl rfl rfl) (s2 rfl rfl) <| cp (oTA asOk119_125 cb125 zv125 (zvI (by decide)) tm) (s1 rfl) <| cp (oMv tm) (s1 rfl) <| cp (oExt (k := 0) rfl tm) (s1 rfl) <| cp (oExt (k := 1) rfl tm) (s1 rfl) <| cp (oAs tm) (s1 rfl) <| cp (oAs tm) (s1 rfl) <| .nil) (by kernel_rfl) ?_
    refine pSeq ?_
    refine wSeq ?_
    refine rg (cp (oMv tm) (s1 rfl) <| cp (oAs tm) (s1 rfl) <| cp (oAs (cI (by decide))) trivial <| .nil) (by kernel_rfl) ?_
    refine pSeq ?_
    refine wRet ?_
    obtain rfl := so h
    exact pRn (.inl rfl) rfl rfl (.tmp rfl <| .tmp rfl <| .nil)
  · refine wNF hp2 tm (s1 rfl) ?_
    refine wSeq ?_
    refine rg (cp (oMv tm) (s1 rfl) <| cp (oAs (cI (by decide))) trivial <| cp (oAs tm) (s1 rfl) <| .nil) (by kernel_rfl) ?_
    refine pSeq ?_
    refine wRet ?_
    refine pThenR ?_
    obtain rfl := so h
    exact pRn (.inl rfl) rfl rfl (.tmp rfl <| .tmp rfl <| .nil)

theorem step_machine_put.ok {a0 : step_machine} {a1 : Int} {a2 : Int} {r : step_machine} (h : step_machine_put.f a0 a1 a2 = some r) : FnS Tryd.prog 80 [.p 70000 0, .d ((kI .i64).sig a1), .d ((kI .i64).sig a2)] [.box 70000 92 [.d (kL kS) a0.l_.Names, .d (kL (kI .u32)) a0.l_.Up, .d (kI .i64) a0.s_.Pc.V, .d (kI .i64) a0.s_.Pc.L, .d (kL (kR f_api_Instr)) a0.s_.Code, .d (kL (kR f_api_Atom)) a0.s_.Mem, .v 70007, .d (kL (kR f_api_Atom)) a0.s_.Out, .d (kI .i64) a0.x_.Op, .d (kI .i64) a0.x_.N, .d (kI .i64) a0.x_.L, .d kB a0.a_.Ret, .d (kI .i64) a0.a_.V, .d (kI .i64) a0.a_.L, .d kB a0.b_.Ret, .d (kI .i64) a0.b_.V, .d (kI .i64) a0.b_.L, .d kB a0.r_.Ret, .d (kI .i64) a0.r_.V, .d (kI .i64) a0.r_.L, .d (kI .i64) a0.below_, .d (kI .i64) a0.one_.x0_, .d (kI .i64) a0.one_.x1_, .d (kI .i64) a0.one_.x2_], .row 70007 68 (kR f_api_Slot) a0.s_.Stack] [70000] (.d (tup [])) [.box 70000 92 [.d (kL kS) r.l_.Names, .d (kL (kI .u32)) r.l_.Up, .d (kI .i64) r.s_.Pc.V, .d (kI .i64) r.s_.Pc.L, .d (kL (kR f_api_Instr)) r.s_.Code, .d (kL (kR f_api_Atom)) r.s_.Mem, .v 70007, .d (kL (kR f_api_Atom)) r.s_.Out, .d (kI .i64) r.x_.Op, .d (kI .i64) r.x_.N, .d (kI .i64) r.x_.L, .d kB r.a_.Ret, .d (kI .i64) r.a_.V, .d (kI .i64) r.a_.L, .d kB r.b_.Ret, .d (kI .i64) r.b_.V, .d (kI .i64) r.b_.L, .d kB r.r_.Ret, .d (kI .i64) r.r_.V, .d (kI .i64) r.r_.L, .d (kI .i64) r.below_, .d (kI .i64) r.one_.x0_, .d (kI .i64) r.one_.x1_, .d (kI .i64) r.one_.x2_], .row 70007 68 (kR f_api_Slot) r.s_.Stack] := by
  refine fnIntroS Tryd.func80 rfl (by kernel_rfl) fun X H0 w0 pv => ?_
  unfold step_machine_put.f at h
  obtain ⟨hc1, h⟩ := ib h
  refine rg (cp (oMv tm) (s1 rfl) <| cp (oMv tm) (s1 rfl) <| cp (oNilP tm) (s1 rfl) <| cp (oFldP o92_1 tm) (s1 rfl) <| cp (oFldP o35_3 tm) (s1 rfl) <| cr (oLdN (n := 0) (k := 6) rfl rfl rfl t33 tm) (s1 rfl) <| cp (oMv tm) (s1 rfl) <| cp (oMv tm) (s1 rfl) <| cp (oBuild (fs := f_api_Slot) (u := ⟨false, a1, a2⟩) rfl ze68 pl68 po68 (.ze (zc := [(.bool false)]) zB (.op (zc := [(.int .i64 0)]) tm rfl (.op (zc := [(.int .i64 0)]) tm rfl .nil)))) (s2 rfl rfl) <| cp (oLit (d := (kR f_api_Slot)) el33 (by decide) rfl rfl rfl (e1 tm e0)) (s1 rfl) <| cw (oApp (n := 1) (id' := 16) el33 (by decide) rfl (by decide) hc1 tm tm) (s2 rfl rfl) <| cp (oNilP tm) (s1 rfl) <| cp (oFldP o92_1 tm) (s1 rfl) <| cp (oFldP o35_3 tm) (s1 rfl) <| cwn (oStN (n := 0) (m := 1) (k := 6) rfl rfl rfl rfl z33 rfl tm tm) (s2 rfl rfl) <| .nil) (by kernel_rfl) ?_
  obtain rfl := so h
  refine pSub (Γ' := []) trivial ?_
  refine pRen 16 70007 rfl ?_
  exact pSn [0, 1] rfl rfl (.inr rfl) rfl rfl (.nil)

theorem slices_Grow_api_Slot_api_Slot_nil.ok {a1 : Int} {r : (List api_Slot)} (h : slices_Grow_api_Slot_api_Slot_nil.f a1 = some r) : FnS Tryd.prog 97 [.d (sV (.slice none 0 0)), .d ((kI .i64).sig a1)] [] [] (.v 80000) [.row 80000 68 (kR f_api_Slot) r] := by
  refine fnIntroS Tryd.func97 rfl (by kernel_rfl) fun X H0 w0 pv => ?_
  unfold slices_Grow_api_Slot_api_Slot_nil.f at h
  refine wSeq ?_
  refine rg (cp (oAs cV) trivial <| .nil) (by kernel_rfl) ?_
  refine pSeq ?_
  refine wSeq ?_
  refine wSeq ?_
  refine rg (cp (oMv tm) (s1 rfl) <| cp (oLt rfl tm (cI (by decide))) (s1 rfl) <| .nil) (by kernel_rfl) ?_
  refine pSeq ?_
  rcases ic h with ⟨hp1, h⟩ | ⟨hp1, h⟩
  · refine wCT hp1 tm (s1 rfl) ?_
    cases h
  · refine wCF hp1 tm (s1 rfl) ?_
    refine wSkip ?_
    refine pSeq ?_
    refine wSeq ?_
    refine wSeq ?_
    refine rg (cp (oMv tm) (s1 rfl) <| cp (oMv tm) (s1 rfl) <| cp (oCapN u33 tm) (s1 rfl) <| cp (oMv tm) (s1 rfl) <| cp (oLenL u33 (tmN (d := (kR f_api_Slot)))) (s1 rfl) <| cp (oSub tm tm) (s2 rfl rfl) <| cp (oSub tm tm) (s2 rfl rfl) <| cp (oAs tm) (s1 rfl) <| .nil) (by kernel_rfl) ?_
    refine pSeq ?_
    refine wSeq ?_
    refine rg (cp (oMv tm) (s1 rfl) <| cp (oGt rfl tm (cI (by decide))) (s1 rfl) <| .nil) (by kernel_rfl) ?_
    refine pSeq ?_
    rcases ic h with ⟨hp2, h⟩ | ⟨hp2, h⟩
    · refine wCT hp2 tm (s1 rfl) ?_
      obtain ⟨hc3, h⟩ := ib h
      obtain ⟨hc4, h⟩ := ib h
      refine rg (cp (oMv tm) (s1 rfl) <| cp (oMv tm) (s1 rfl) <| cp (oCapN u33 tm) (s1 rfl) <| cp (oCutN u33 z68 rfl tm tm) (s2 rfl rfl) <| cp (oMv tm) (s1 rfl) <| cw (oAppZ (id := 22) (d := (kR f_api_Slot)) el33 u3 (by decide) (by decide) ze68 zR_api_Slot hc3.1 hc3.2 tm tm) (s2 rfl rfl) <| cp (oMv tm) (s1 rfl) <| cp (oLenL u33 (tmN (d := (kR f_api_Slot)))) (s1 rfl) <| cw (oCutR (n := 0) (id' := 25) u33 z68 rfl hc4.1 hc4.2 tm tm) (s2 rfl rfl) <| cp (oAs tm) (s1 rfl) <| .nil) (by kernel_rfl) ?_
      refine pSeq ?_
      refine wSeq ?_
      refine rg (cp (oMv tm) (s1 rfl) <| cp (oAs tm) (s1 rfl) <| .nil) (by kernel_rfl) ?_
      refine pSeq ?_
      refine wRet ?_
      obtain rfl := so h
      refine pSub (Γ' := [(4, .v 25)]) ⟨rfl, trivial⟩ ?_
      refine pRen 25 80000 rfl ?_
      exact pSv [0] rfl rfl (.inl rfl) rfl rfl
    · refine wCF hp2 tm (s1 rfl) ?_
      refine wSkip ?_
      refine pSeq ?_
      refine wSeq ?_
      refine rg (cp (oMv tm) (s1 rfl) <| cp (oAs tm) (s1 rfl) <| .nil) (by kernel_rfl) ?_
      refine pSeq ?_
      refine wNil (kR f_api_Slot) 68 9004 4 rfl rfl ?_
      refine wRet ?_
      obtain rfl := so h
      refine pSub (Γ' := [(4, .v 9004)]) ⟨rfl, trivial⟩ ?_
      refine pRen 9004 80000 rfl ?_
      exact pSv [0] rfl rfl (.inl rfl) rfl rfl

theorem slices_Concat_api_Slot_api_Slot.ok {a0 : List (List api_Slot)} {r : List api_Slot} (h : slices_Concat_api_Slot_api_Slot.f a0 = some r) : FnA Tryd.prog 82 [(kL (kL (kR f_api_Slot))).sig a0] ((kL (kR f_api_Slot)).sig r) := by
  refine fnIntro Tryd.func82 rfl (by kernel_rfl) fun H0 w0 => ?_
  unfold slices_Concat_api_Slot_api_Slot.f at h
  refine wSeq ?_
  refine rg (cp (oAs cV) trivial <| .nil) (by kernel_rfl) ?_
  refine pSeq ?_
  refine wSeq ?_
  refine rg (cp (oAs (cI (by decide))) trivial <| .nil) (by kernel_rfl) ?_
  refine pSeq ?_
  refine wSeq ?_
  refine wSeq ?_
  refine rg (cp (oMv tm) (s1 rfl) <| cp (oLenL u149 tm) (s1 rfl) <| cp (oMv (cI (by decide))) trivial <| .nil) (by kernel_rfl) ?_
  refine pSeq ?_
  obtain ⟨o1, h, hk1⟩ := bd h
  refine wK1 (fun x15 => x15 = o1) (fun x15 => [(0, .d ((kL (kL (kR f_api_Slot))).sig a0)), (3, .d ((kI .i64).sig x15))]) (fun x15 => []) ?_ ?_
  · refine wBlock (wLoop ?_)
    refine lW (pc2 o1 (fun v13 v14 => [(0, .d ((kL (kL (kR f_api_Slot))).sig a0)), (3, .d ((kI .i64).sig v14)), (9, .d ((kL (kL (kR f_api_Slot))).sig a0)), (10, .d ((kI .i64).sig (a0.length : Int))), (11, .d ((kI .i64).sig v13))]) (fun v13 v14 => []) (slices_Concat_api_Slot_api_Slot.l0.partial_correctness a0) ?_ _ _ h) ⟨rfl, rfl, rfl, rfl, rfl, trivial⟩ rfl
    clear h
    intro f' ih v13 v14 h
    refine wSeq ?_
    refine rg (cp (oLt rfl tm tm) (s2 rfl rfl) <| .nil) (by kernel_rfl) ?_
    refine pSeq ?_
    refine wSeq ?_
    rcases ic h with ⟨hp16, h⟩ | ⟨hp16, h⟩
    · refine wCT hp16 tm (s1 rfl) ?_
      refine wSkip ?_
      refine pSeq ?_
      obtain ⟨o2, h, hk2⟩ := bd h
      refine wJ1 (fun x19 => x19 = o2) (fun x19 => [(0, .d ((kL (kL (kR f_api_Slot))).sig a0)), (3, .d ((kI .i64).sig x19)), (9, .d ((kL (kL (kR f_api_Slot))).sig a0)), (10, .d ((kI .i64).sig (a0.length : Int))), (11, .d ((kI .i64).sig v13))]) (fun x19 => []) ?_ ?_
      · refine wBlock ?_
        refine wSeq ?_
        obtain ⟨y20, hy20, h⟩ := bd h
        refine rg (cp (oIdx u149 z33 hy20 tm tm) (s2 rfl rfl) <| cp (oLd t33 tm) (s1 rfl) <| cp (oAs tm) (s1 rfl) <| .nil) (by kernel_rfl) ?_
        refine pSeq ?_
        refine wSeq ?_
        refine rg (cp (oMv tm) (s1 rfl) <| cp (oMv tm) (s1 rfl) <| cp (oLenL u33 tm) (s1 rfl) <| cp (oAdd tm tm) (s2 rfl rfl) <| cp (oAs tm) (s1 rfl) <| .nil) (by kernel_rfl) ?_
        refine pSeq ?_
        refine wSeq ?_
        refine rg (cp (oMv tm) (s1 rfl) <| cp (oLt rfl tm (cI (by decide))) (s1 rfl) <| .nil) (by kernel_rfl) ?_
        refine pSeq ?_
        rcases ic h with ⟨hp21, h⟩ | ⟨hp21, h⟩
        · refine wCT hp21 tm (s1 rfl) ?_
          cases h
        · refine wCF hp21 tm (s1 rfl) ?_
          refine wSkip ?_
          refine pBlkN ?_
          exact pJ1 _ (so h) ⟨rfl, rfl, rfl, rfl, rfl, trivial⟩ rfl
      · rintro x19 rfl
        replace h := hk2
        refine rg (cp (oAdd tm (cI (by decide))) (s1 rfl) <| cp (oMv tm) (s1 rfl) <| .nil) (by kernel_rfl) ?_
        exact pLoop (lW (ih _ _ h) ⟨rfl, rfl, rfl, rfl, rfl, trivial⟩ rfl)
    · refine wCF hp16 tm (s1 rfl) ?_
      refine wExit ?_
      refine pThenX ?_
      refine pThenX ?_
      refine pBlkX ?_
      exact pJ1 _ (so h) ⟨rfl, rfl, trivial⟩ rfl
  · rintro x15 rfl
    replace h := hk1
    refine pSeq ?_
    refine wSeq ?_
    obtain ⟨y22, hy22, h⟩ := bd h
    refine rg (cp (oMv tm) (s1 rfl) <| cm (oCallS (rest := []) (R' := [.row 390040 68 (kR f_api_Slot) y22]) (out' := .v 390040) [] [(80000, 390040)] [] [] [0] rfl (slices_Grow_api_Slot_api_Slot_nil.ok hy22) b97 (oE1 cV (oE1 tm oE0)) rfl rfl rfl rfl rfl rfl rfl rfl) (s1 rfl) <| cp (oAs tm) (s1 rfl) <| .nil) (by kernel_rfl) ?_
    refine pSeq ?_
    refine wSeq ?_
    refine wSeq ?_
    refine rg (cp (oMv tm) (s1 rfl) <| cp (oLenL u149 tm) (s1 rfl) <| cp (oMv (cI (by decide))) trivial <| .nil) (by kernel_rfl) ?_
    refine pSeq ?_
    refine wWeak (Γ' := [(6, .v 390040), (25, .d ((kL (kL (kR f_api_Slot))).sig a0)), (26, .d ((kI .i64).sig (a0.length : Int))), (27, .d ((kI .i64).sig 0))]) ⟨rfl, rfl, rfl, rfl, trivial⟩ ?_
    refine wRen 390040 1006 rfl ?_
    obtain ⟨o1, h, hk1⟩ := bd h
    refine wK1 (fun x31 => x31 = o1) (fun x31 => [(6, .v 1006)]) (fun x31 => [.row 1006 68 (kR f_api_Slot) x31]) ?_ ?_
    · refine wBlock (wLoop ?_)
      refine lW (pc2 o1 (fun v29 v30 => [(6, .v 1006), (25, .d ((kL (kL (kR f_api_Slot))).sig a0)), (26, .d ((kI .i64).sig (a0.length : Int))), (27, .d ((kI .i64).sig v30))]) (fun v29 v30 => [.row 1006 68 (kR f_api_Slot) v29]) (slices_Concat_api_Slot_api_Slot.l1.partial_correctness a0) ?_ _ _ h) ⟨rfl, rfl, rfl, rfl, trivial⟩ rfl
      clear h
      intro f' ih v29 v30 h
      refine wSeq ?_
      refine rg (cp (oLt rfl tm tm) (s2 rfl rfl) <| .nil) (by kernel_rfl) ?_
      refine pSeq ?_
      refine wSeq ?_
      rcases ic h with ⟨hp32, h⟩ | ⟨hp32, h⟩
      · refine wCT hp32 tm (s1 rfl) ?_
        refine wSkip ?_
        refine pSeq ?_
        refine wSeq ?_
        refine wBlock ?_
        refine wSeq ?_
        obtain ⟨y33, hy33, h⟩ := bd h
        refine rg (cp (oIdx u149 z33 hy33 tm tm) (s2 rfl rfl) <| cp (oLd t33 tm) (s1 rfl) <| cp (oAs tm) (s1 rfl) <| .nil) (by kernel_rfl) ?_
        refine pSeq ?_
        obtain ⟨hc34, h⟩ := ib h
        refine rg (cp (oMv tm) (s1 rfl) <| cp (oMv tm) (s1 rfl) <| cw (oApp (n := 0) (id' := 33) el33 (by decide) rfl (by decide) hc34 tm tm) (s2 rfl rfl) <| cp (oAs tm) (s1 rfl) <| .nil) (by kernel_rfl) ?_
        refine pBlkN ?_
        refine pSeq ?_
        refine rg (cp (oAdd tm (cI (by decide))) (s1 rfl) <| cp (oMv tm) (s1 rfl) <| .nil) (by kernel_rfl) ?_
        refine pSub (Γ' := [(6, .v 33), (25, .d ((kL (kL (kR f_api_Slot))).sig a0)), (26, .d ((kI .i64).sig (a0.length : Int))), (27, .d ((kI .i64).sig (IntKind.i64.wrap (v30 + 1))))]) ⟨rfl, rfl, rfl, rfl, trivial⟩ ?_
        refine pRen 33 1006 rfl ?_
        exact pLoop (lW (ih _ _ h) ⟨rfl, rfl, rfl, rfl, trivial⟩ rfl)
      · refine wCF hp32 tm (s1 rfl) ?_
        refine wExit ?_
        refine pThenX ?_
        refine pThenX ?_
        refine pBlkX ?_
        exact pJ1 _ (so h) ⟨rfl, trivial⟩ rfl
    · rintro x31 rfl
      replace h := hk1
      refine pSeq ?_
      refine wSeq ?_
      refine rg (cp (oMv tm) (s1 rfl) <| cp (oAs tm) (s1 rfl) <| .nil) (by kernel_rfl) ?_
      refine pSeq ?_
      refine wFrzR (n := 0) (id := 1006) [2] rfl rfl ⟨rfl, trivial⟩ ?_
      refine wRet ?_
      obtain rfl := so h
      exact pR1 (.inl rfl) rfl (.tmp rfl <| .nil)

theorem slices_Clone_api_Slot_api_Slot_nn.okN {a0 : List api_Slot} {r : (List api_Slot)} (h : slices_Clone_api_Slot_api_Slot_nn.f a0 = some r) : FnS Tryd.prog 79 [.d (sNN (kR f_api_Slot) a0)] [] [] (.v 80000) [.row 80000 68 (kR f_api_Slot) r] := by
  refine fnIntroS Tryd.func79 rfl (by kernel_rfl) fun X H0 w0 pv => ?_
  unfold slices_Clone_api_Slot_api_Slot_nn.f at h
  refine wSeq ?_
  refine rg (cp (oAs cV) trivial <| .nil) (by kernel_rfl) ?_
  refine pSeq ?_
  refine wSeq ?_
  refine wSeq ?_
  refine rg (cp (oMv tm) (s1 rfl) <| cp (oEqNF (d := (kR f_api_Slot)) u33 tm cV) (s1 rfl) <| .nil) (by kernel_rfl) ?_
  refine pSeq ?_
  refine wCondF tm (s1 rfl) ?_
  refine wSkip ?_
  refine pSeq ?_
  refine wSeq ?_
  obtain ⟨hc1, h⟩ := ib h
  refine rg (cw (oLitR (id := 5) (d := (kR f_api_Slot)) el33 (by decide) rfl rfl rfl e0) trivial <| cp (oMv tm) (s1 rfl) <| cw (oApp (n := 0) (id' := 7) el33 (by decide) rfl (by decide) hc1 tm tNN) (s2 rfl rfl) <| cp (oAs tm) (s1 rfl) <| .nil) (by kernel_rfl) ?_
  refine pSeq ?_
  refine wRet ?_
  obtain rfl := so h
  refine pSub (Γ' := [(2, .v 7)]) ⟨rfl, trivial⟩ ?_
  refine pRen 7 80000 rfl ?_
  exact pSv [0] rfl rfl (.inl rfl) rfl rfl
theorem slices_Clone_api_Slot_api_Slot_nn.ok {a0 : List api_Slot} {r : (List api_Slot)} (h : slices_Clone_api_Slot_api_Slot_nn.f a0 = some r) : FnS Tryd.prog 79 [.d ((kL (kR f_api_Slot)).sig a0)] [] [] (.v 80000) [.row 80000 68 (kR f_api_Slot) r] :=
  libClone clone79_nil (by rintro rfl; have h' := h; unfold slices_Clone_api_Slot_api_Slot_nn.f at h'; split at h' <;> cases h'; rfl) (slices_Clone_api_Slot_api_Slot_nn.okN h)

theorem slices_Clone_api_Atom_api_Atom_nn.okN {a0 : List api_Atom} {r : (List api_Atom)} (h : slices_Clone_api_Atom_api_Atom_nn.f a0 = some r) : FnS Tryd.prog 81 [.d (sNN (kR f_api_Atom) a0)] [] [] (.v 80000) [.row 80000 30 (kR f_api_Atom) r] := by
  refine fnIntroS Tryd.func81 rfl (by kernel_rfl) fun X H0 w0 pv => ?_
  unfold slices_Clone_api_Atom_api_Atom_nn.f at h
  refine wSeq ?_
  refine rg (cp (oAs cV) trivial <| .nil) (by kernel_rfl) ?_
  refine pSeq ?_
  refine wSeq ?_
  refine wSeq ?_
  refine rg (cp (oMv tm) (s1 rfl) <| cp (oEqNF (d := (kR f_api_Atom)) u32 tm cV) (s1 rfl) <| .nil) (by kernel_rfl) ?_
  refine pSeq ?_
  refine wCondF tm (s1 rfl) ?_
  refine wSkip ?_
  refine pSeq ?_
  refine wSeq ?_
  obtain ⟨hc1, h⟩ := ib h
  refine rg (cw (oLitR (id := 5) (d := (kR f_api_Atom)) el32 (by decide) rfl rfl rfl e0) trivial <| cp (oMv tm) (s1 rfl) <| cw (oApp (n := 0) (id' := 7) el32 (by decide) rfl (by decide) hc1 tm tNN) (s2 rfl rfl) <| cp (oAs tm) (s1 rfl) <| .nil) (by kernel_rfl) ?_
  refine pSeq ?_
  refine wRet ?_
  obtain rfl := so h
  refine pSub (Γ' := [(2, .v 7)]) ⟨rfl, trivial⟩ ?_
  refine pRen 7 80000 rfl ?_
  exact pSv [0] rfl rfl (.inl rfl) rfl rfl
theorem slices_Clone_api_Atom_api_Atom_nn.ok {a0 : List api_Atom} {r : (List api_Atom)} (h : slices_Clone_api_Atom_api_Atom_nn.f a0 = some r) : FnS Tryd.prog 81 [.d ((kL (kR f_api_Atom)).sig a0)] [] [] (.v 80000) [.row 80000 30 (kR f_api_Atom) r] :=
  libClone clone81_nil (by rintro rfl; have h' := h; unfold slices_Clone_api_Atom_api_Atom_nn.f at h'; split at h' <;> cases h'; rfl) (slices_Clone_api_Atom_api_Atom_nn.okN h)

theorem step_machine_does.ok {a0 : step_machine} {a1 : Int} {r : step_machine} (h : step_machine_does.f a0 a1 = some r) : FnS Tryd.prog 50 [.p 70000 0, .d ((kI .i64).sig a1)] [.box 70000 92 [.d (kL kS) a0.l_.Names, .d (kL (kI .u32)) a0.l_.Up, .d (kI .i64) a0.s_.Pc.V, .d (kI .i64) a0.s_.Pc.L, .d (kL (kR f_api_Instr)) a0.s_.Code, .d (kL (kR f_api_Atom)) a0.s_.Mem, .d (kL (kR f_api_Slot)) a0.s_.Stack, .d (kL (kR f_api_Atom)) a0.s_.Out, .d (kI .i64) a0.x_.Op, .d (kI .i64) a0.x_.N, .d (kI .i64) a0.x_.L, .d kB a0.a_.Ret, .d (kI .i64) a0.a_.V, .d (kI .i64) a0.a_.L, .d kB a0.b_.Ret, .d (kI .i64) a0.b_.V, .d (kI .i64) a0.b_.L, .d kB a0.r_.Ret, .d (kI .i64) a0.r_.V, .d (kI .i64) a0.r_.L, .d (kI .i64) a0.below_, .d (kI .i64) a0.one_.x0_, .d (kI .i64) a0.one_.x1_, .d (kI .i64) a0.one_.x2_]] [70000] (.d (tup [])) [.box 70000 92 [.d (kL kS) r.l_.Names, .d (kL (kI .u32)) r.l_.Up, .d (kI .i64) r.s_.Pc.V, .d (kI .i64) r.s_.Pc.L, .d (kL (kR f_api_Instr)) r.s_.Code, .d (kL (kR f_api_Atom)) r.s_.Mem, .d (kL (kR f_api_Slot)) r.s_.Stack, .d (kL (kR f_api_Atom)) r.s_.Out, .d (kI .i64) r.x_.Op, .d (kI .i64) r.x_.N, .d (kI .i64) r.x_.L, .d kB r.a_.Ret, .d (kI .i64) r.a_.V, .d (kI .i64) r.a_.L, .d kB r.b_.Ret, .d (kI .i64) r.b_.V, .d (kI .i64) r.b_.L, .d kB r.r_.Ret, .d (kI .i64) r.r_.V, .d (kI .i64) r.r_.L, .d (kI .i64) r.below_, .d (kI .i64) r.one_.x0_, .d (kI .i64) r.one_.x1_, .d (kI .i64) r.one_.x2_]] := by
  refine fnIntroS Tryd.func50 rfl (by kernel_rfl) fun X H0 w0 pv => ?_
  unfold step_machine_does.f at h
  refine wSeq ?_
  refine rg (cp (oMv tm) (s1 rfl) <| cp (oNilP tm) (s1 rfl) <| cp (oFldP o92_1 tm) (s1 rfl) <| cp (oFldP o35_3 tm) (s1 rfl) <| cr (oLdK (n := 0) (k := 6) rfl rfl (by kernel_rfl) t33 tm) (s1 rfl) <| cp (oAs tm) (s1 rfl) <| .nil) (by kernel_rfl) ?_
  refine pSeq ?_
  refine wSeq ?_
  obtain ⟨hc1, h⟩ := ib h
  obtain ⟨y2, hy2, h⟩ := bd h
  refine rg (cp (oMv tm) (s1 rfl) <| cp (oMv tm) (s1 rfl) <| cp (oMv tm) (s1 rfl) <| cp (oNilP tm) (s1 rfl) <| cp (oFldP o92_6 tm) (s1 rfl) <| cr (oLdK (n := 0) (k := 20) rfl rfl (by kernel_rfl) t3 tm) (s1 rfl) <| cp (oCutHi u33 z68 hc1.1 hc1.2 tm tm) (s2 rfl rfl) <| cm (oCallS (rest := [.box 70000 92 [.d (kL kS) a0.l_.Names, .d (kL (kI .u32)) a0.l_.Up, .d (kI .i64) a0.s_.Pc.V, .d (kI .i64) a0.s_.Pc.L, .d (kL (kR f_api_Instr)) a0.s_.Code, .d (kL (kR f_api_Atom)) a0.s_.Mem, .d (kL (kR f_api_Slot)) a0.s_.Stack, .d (kL (kR f_api_Atom)) a0.s_.Out, .d (kI .i64) a0.x_.Op, .d (kI .i64) a0.x_.N, .d (kI .i64) a0.x_.L, .d kB a0.a_.Ret, .d (kI .i64) a0.a_.V, .d (kI .i64) a0.a_.L, .d kB a0.b_.Ret, .d (kI .i64) a0.b_.V, .d (kI .i64) a0.b_.L, .d kB a0.r_.Ret, .d (kI .i64) a0.r_.V, .d (kI .i64) a0.r_.L, .d (kI .i64) a0.below_, .d (kI .i64) a0.one_.x0_, .d (kI .i64) a0.one_.x1_, .d (kI .i64) a0.one_.x2_]]) (R' := [.row 310280 68 (kR f_api_Slot) y2, .box 70000 92 [.d (kL kS) a0.l_.Names, .d (kL (kI .u32)) a0.l_.Up, .d (kI .i64) a0.s_.Pc.V, .d (kI .i64) a0.s_.Pc.L, .d (kL (kR f_api_Instr)) a0.s_.Code, .d (kL (kR f_api_Atom)) a0.s_.Mem, .d (kL (kR f_api_Slot)) a0.s_.Stack, .d (kL (kR f_api_Atom)) a0.s_.Out, .d (kI .i64) a0.x_.Op, .d (kI .i64) a0.x_.N, .d (kI .i64) a0.x_.L, .d kB a0.a_.Ret, .d (kI .i64) a0.a_.V, .d (kI .i64) a0.a_.L, .d kB a0.b_.Ret, .d (kI .i64) a0.b_.V, .d (kI .i64) a0.b_.L, .d kB a0.r_.Ret, .d (kI .i64) a0.r_.V, .d (kI .i64) a0.r_.L, .d (kI .i64) a0.below_, .d (kI .i64) a0.one_.x0_, .d (kI .i64) a0.one_.x1_, .d (kI .i64) a0.one_.x2_]]) (out' := .v 310280) [] [(80000, 310280)] [] [0] [0, 1] rfl (slices_Clone_api_Slot_api_Slot_nn.ok hy2) b79 (oE1 tm oE0) rfl rfl rfl rfl rfl rfl rfl rfl) (s1 rfl) <| cp (oNilP tm) (s1 rfl) <| cp (oFldP o92_1 tm) (s1 rfl) <| cp (oFldP o35_3 tm) (s1 rfl) <| cwn (oStN (n := 1) (m := 0) (k := 6) rfl rfl rfl rfl z33 rfl tm tm) (s2 rfl rfl) <| .nil) (by kernel_rfl) ?_
  refine pSeq ?_
  refine wSeq ?_
  refine rg (cp (oMv tm) (s1 rfl) <| cp (oNilP tm) (s1 rfl) <| cp (oFldP o92_1 tm) (s1 rfl) <| cp (oFldP o35_0 tm) (s1 rfl) <| cp (oFldP o30_0 tm) (s1 rfl) <| cr (oLdK (n := 1) (k := 2) rfl rfl (by kernel_rfl) t3 tm) (s1 rfl) <| cp (oAdd tm (cI (by decide))) (s1 rfl) <| cp (oAs tm) (s1 rfl) <| .nil) (by kernel_rfl) ?_
  refine pSeq ?_
  refine wSeq ?_
  refine wSeq ?_
  refine rg (cp (oMv tm) (s1 rfl) <| cp (oNilP tm) (s1 rfl) <| cp (oFldP o92_2 tm) (s1 rfl) <| cp (oFldP o48_0 tm) (s1 rfl) <| cr (oLdK (n := 1) (k := 8) rfl rfl (by kernel_rfl) t3 tm) (s1 rfl) <| .nil) (by kernel_rfl) ?_
  refine pSeq ?_
  refine wWeak (Γ' := [(0, .p 70000 0), (1, .d ((kI .i64).sig a1)), (4, .d ((kL (kR f_api_Slot)).sig a0.s_.Stack)), (5, .d ((kI .i64).sig (IntKind.i64.wrap (a0.s_.Pc.V + 1)))), (34, .d ((kI .i64).sig a0.x_.Op))]) ⟨rfl, rfl, rfl, rfl, rfl, trivial⟩ ?_
  refine wRen 310280 3505006 rfl ?_
  obtain ⟨o1, h, hk1⟩ := bd h
  refine wK2 (fun x28 x29 => (x28, x29) = o1) (fun x28 x29 => [(0, .p 70000 0), (5, .d ((kI .i64).sig x29))]) (fun x28 x29 => [.box 70000 92 [.d (kL kS) x28.l_.Names, .d (kL (kI .u32)) x28.l_.Up, .d (kI .i64) x28.s_.Pc.V, .d (kI .i64) x28.s_.Pc.L, .d (kL (kR f_api_Instr)) x28.s_.Code, .d (kL (kR f_api_Atom)) x28.s_.Mem, .d (kL (kR f_api_Slot)) x28.s_.Stack, .d (kL (kR f_api_Atom)) x28.s_.Out, .d (kI .i64) x28.x_.Op, .d (kI .i64) x28.x_.N, .d (kI .i64) x28.x_.L, .d kB x28.a_.Ret, .d (kI .i64) x28.a_.V, .d (kI .i64) x28.a_.L, .d kB x28.b_.Ret, .d (kI .i64) x28.b_.V, .d (kI .i64) x28.b_.L, .d kB x28.r_.Ret, .d (kI .i64) x28.r_.V, .d (kI .i64) x28.r_.L, .d (kI .i64) x28.below_, .d (kI .i64) x28.one_.x0_, .d (kI .i64) x28.one_.x1_, .d (kI .i64) x28.one_.x2_]]) ?_ ?_
  · refine wBlock ?_
    refine wSeq ?_
    refine rg (cp (oEq rfl tm (cI (by decide))) (s1 rfl) <| cp (oAs tm) (s1 rfl) <| .nil) (by kernel_rfl) ?_
    refine pSeq ?_
    rcases ic h with ⟨hp30, h⟩ | ⟨hp30, h⟩
    · refine wCT hp30 tm (s1 rfl) ?_
      obtain ⟨y31, hy31, h⟩ := bd h
      refine rg (cp (oMv tm) (s1 rfl) <| cp (oMv tm) (s1 rfl) <| cp (oNilP tm) (s1 rfl) <| cp (oFldP o92_2 tm) (s1 rfl) <| cp (oFldP o48_1 tm) (s1 rfl) <| cr (oLdK (n := 1) (k := 9) rfl rfl (by kernel_rfl) t3 tm) (s1 rfl) <| cp (oMv tm) (s1 rfl) <| cm (oCallS (rest := []) (R' := [.row 350280 68 (kR f_api_Slot) y31.s_.Stack, .box 70000 92 [.d (kL kS) y31.l_.Names, .d (kL (kI .u32)) y31.l_.Up, .d (kI .i64) y31.s_.Pc.V, .d (kI .i64) y31.s_.Pc.L, .d (kL (kR f_api_Instr)) y31.s_.Code, .d (kL (kR f_api_Atom)) y31.s_.Mem, .v 350280, .d (kL (kR f_api_Atom)) y31.s_.Out, .d (kI .i64) y31.x_.Op, .d (kI .i64) y31.x_.N, .d (kI .i64) y31.x_.L, .d kB y31.a_.Ret, .d (kI .i64) y31.a_.V, .d (kI .i64) y31.a_.L, .d kB y31.b_.Ret, .d (kI .i64) y31.b_.V, .d (kI .i64) y31.b_.L, .d kB y31.r_.Ret, .d (kI .i64) y31.r_.V, .d (kI .i64) y31.r_.L, .d (kI .i64) y31.below_, .d (kI .i64) y31.one_.x0_, .d (kI .i64) y31.one_.x1_, .d (kI .i64) y31.one_.x2_]]) (out' := .d (tup [])) [(70000, 70000), (70007, 3505006)] [(70007, 350280)] [1, 0] [] [1, 0] rfl (step_machine_put.ok hy31) b80 (oE1 tm (oE1 tm (oE1 tm oE0))) rfl rfl rfl rfl rfl rfl rfl rfl) (s3 rfl rfl rfl) <| .nil) (by kernel_rfl) ?_
      refine pBlkN ?_
      refine pFrzR (n := 0) (id := 350280) [] rfl rfl trivial ?_
      exact pJ2 _ _ (so h) ⟨rfl, rfl, trivial⟩ rfl
    · refine wCF hp30 tm (s1 rfl) ?_
      refine wSeq ?_
      refine rg (cp (oEq rfl tm (cI (by decide))) (s1 rfl) <| cp (oAs tm) (s1 rfl) <| .nil) (by kernel_rfl) ?_
      refine pSeq ?_
      rcases ic h with ⟨hp32, h⟩ | ⟨hp32, h⟩
      · refine wCT hp32 tm (s1 rfl) ?_
        obtain ⟨y33, hy33, h⟩ := bd h
        refine rgD hm (cp (oMv tm) (s1 rfl) <| cp (oMv tm) (s1 rfl) <| cp (oNilP tm) (s1 rfl) <| cp (oFldP o92_4 tm) (s1 rfl) <| cp (oFldP o68_1 tm) (s1 rfl) <| cr (oLdK (n := 1) (k := 15) rfl rfl (by kernel_rfl) t3 tm) (s1 rfl) <| cp (oMv tm) (s1 rfl) <| cp (oNilP tm) (s1 rfl) <| cp (oFldP o92_3 tm) (s1 rfl) <| cp (oFldP o68_1 tm) (s1 rfl) <| cr (oLdK (n := 1) (k := 12) rfl rfl (by kernel_rfl) t3 tm) (s1 rfl) <| cp (oAdd tm tm) (s2 rfl rfl) <| cp (oMv tm) (s1 rfl) <| cm (oCallS (rest := []) (R' := [.row 370520 68 (kR f_api_Slot) y33.s_.Stack, .box 70000 92 [.d (kL kS) y33.l_.Names, .d (kL (kI .u32)) y33.l_.Up, .d (kI .i64) y33.s_.Pc.V, .d (kI .i64) y33.s_.Pc.L, .d (kL (kR f_api_Instr)) y33.s_.Code, .d (kL (kR f_api_Atom)) y33.s_.Mem, .v 370520, .d (kL (kR f_api_Atom)) y33.s_.Out, .d (kI .i64) y33.x_.Op, .d (kI .i64) y33.x_.N, .d (kI .i64) y33.x_.L, .d kB y33.a_.Ret, .d (kI .i64) y33.a_.V, .d (kI .i64) y33.a_.L, .d kB y33.b_.Ret, .d (kI .i64) y33.b_.V, .d (kI .i64) y33.b_.L, .d kB y33.r_.Ret, .d (kI .i64) y33.r_.V, .d (kI .i64) y33.r_.L, .d (kI .i64) y33.below_, .d (kI .i64) y33.one_.x0_, .d (kI .i64) y33.one_.x1_, .d (kI .i64) y33.one_.x2_]]) (out' := .d (tup [])) [(70000, 70000), (70007, 3505006)] [(70007, 370520)] [1, 0] [] [1, 0] rfl (step_machine_put.ok hy33) b80 (oE1 tm (oE1 tm (oE1 tm oE0))) rfl rfl rfl rfl rfl rfl rfl rfl) (s3 rfl rfl rfl) <| .nil) (by kernel_rfl) (by kernel_rfl) ?_
        refine pBlkN ?_
        refine pFrzR (n := 0) (id := 370520) [] rfl rfl trivial ?_
        exact pJ2 _ _ (so h) ⟨rfl, rfl, trivial⟩ rfl
      · refine wCF hp32 tm (s1 rfl) ?_
        refine wSeq ?_
        refine rg (cp (oEq rfl tm (cI (by decide))) (s1 rfl) <| cp (oAs tm) (s1 rfl) <| .nil) (by kernel_rfl) ?_
        refine pSeq ?_
        rcases ic h with ⟨hp34, h⟩ | ⟨hp34, h⟩
        · refine wCT hp34 tm (s1 rfl) ?_
          obtain ⟨y35, hy35, h⟩ := bd h
          refine rgD hm (cp (oMv tm) (s1 rfl) <| cp (oMv tm) (s1 rfl) <| cp (oNilP tm) (s1 rfl) <| cp (oFldP o92_4 tm) (s1 rfl) <| cp (oFldP o68_1 tm) (s1 rfl) <| cr (oLdK (n := 1) (k := 15) rfl rfl (by kernel_rfl) t3 tm) (s1 rfl) <| cp (oMv tm) (s1 rfl) <| cp (oNilP tm) (s1 rfl) <| cp (oFldP o92_3 tm) (s1 rfl) <| cp (oFldP o68_1 tm) (s1 rfl) <| cr (oLdK (n := 1) (k := 12) rfl rfl (by kernel_rfl) t3 tm) (s1 rfl) <| cp (oSub tm tm) (s2 rfl rfl) <| cp (oMv tm) (s1 rfl) <| cm (oCallS (rest := []) (R' := [.row 390520 68 (kR f_api_Slot) y35.s_.Stack, .box 70000 92 [.d (kL kS) y35.l_.Names, .d (kL (kI .u32)) y35.l_.Up, .d (kI .i64) y35.s_.Pc.V, .d (kI .i64) y35.s_.Pc.L, .d (kL (kR f_api_Instr)) y35.s_.Code, .d (kL (kR f_api_Atom)) y35.s_.Mem, .v 390520, .d (kL (kR f_api_Atom)) y35.s_.Out, .d (kI .i64) y35.x_.Op, .d (kI .i64) y35.x_.N, .d (kI .i64) y35.x_.L, .d kB y35.a_.Ret, .d (kI .i64) y35.a_.V, .d (kI .i64) y35.a_.L, .d kB y35.b_.Ret, .d (kI .i64) y35.b_.V, .d (kI .i64) y35.b_.L, .d kB y35.r_.Ret, .d (kI .i64) y35.r_.V, .d (kI .i64) y35.r_.L, .d (kI .i64) y35.below_, .d (kI .i64) y35.one_.x0_, .d (kI .i64) y35.one_.x1_, .d (kI .i64) y35.one_.x2_]]) (out' := .d (tup [])) [(70000, 70000), (70007, 3505006)] [(70007, 390520)] [1, 0] [] [1, 0] rfl (step_machine_put.ok hy35) b80 (oE1 tm (oE1 tm (oE1 tm oE0))) rfl rfl rfl rfl rfl rfl rfl rfl) (s3 rfl rfl rfl) <| .nil) (by kernel_rfl) (by kernel_rfl) ?_
          refine pBlkN ?_
          refine pFrzR (n := 0) (id := 390520) [] rfl rfl trivial ?_
          exact pJ2 _ _ (so h) ⟨rfl, rfl, trivial⟩ rfl
        · refine wCF hp34 tm (s1 rfl) ?_
          refine wSeq ?_
          refine rg (cp (oEq rfl tm (cI (by decide))) (s1 rfl) <| cp (oAs tm) (s1 rfl) <| .nil) (by kernel_rfl) ?_
          refine pSeq ?_
          rcases ic h with ⟨hp36, h⟩ | ⟨hp36, h⟩
          · refine wCT hp36 tm (s1 rfl) ?_
            obtain ⟨y37, hy37, h⟩ := bd h
            obtain ⟨y38, hy38, h⟩ := bd h
            refine rgD hm (cp (oMv tm) (s1 rfl) <| cp (oMv tm) (s1 rfl) <| cp (oNilP tm) (s1 rfl) <| cp (oFldP o92_1 tm) (s1 rfl) <| cp (oFldP o35_2 tm) (s1 rfl) <| cr (oLdK (n := 1) (k := 5) rfl rfl (by kernel_rfl) t32 tm) (s1 rfl) <| cp (oMv tm) (s1 rfl) <| cp (oNilP tm) (s1 rfl) <| cp (oFldP o92_3 tm) (s1 rfl) <| cp (oFldP o68_1 tm) (s1 rfl) <| cr (oLdK (n := 1) (k := 12) rfl rfl (by kernel_rfl) t3 tm) (s1 rfl) <| cp (oIdx u32 z30 hy37 tm tm) (s2 rfl rfl) <| cp (oFld (fs := f_api_Atom) (k := 0) rfl o30_0 tm) (s1 rfl) <| cp (oLd t3 tm) (s1 rfl) <| cp (oMv tm) (s1 rfl) <| cm (oCallS (rest := []) (R' := [.row 410600 68 (kR f_api_Slot) y38.s_.Stack, .box 70000 92 [.d (kL kS) y38.l_.Names, .d (kL (kI .u32)) y38.l_.Up, .d (kI .i64) y38.s_.Pc.V, .d (kI .i64) y38.s_.Pc.L, .d (kL (kR f_api_Instr)) y38.s_.Code, .d (kL (kR f_api_Atom)) y38.s_.Mem, .v 410600, .d (kL (kR f_api_Atom)) y38.s_.Out, .d (kI .i64) y38.x_.Op, .d (kI .i64) y38.x_.N, .d (kI .i64) y38.x_.L, .d kB y38.a_.Ret, .d (kI .i64) y38.a_.V, .d (kI .i64) y38.a_.L, .d kB y38.b_.Ret, .d (kI .i64) y38.b_.V, .d (kI .i64) y38.b_.L, .d kB y38.r_.Ret, .d (kI .i64) y38.r_.V, .d (kI .i64) y38.r_.L, .d (kI .i64) y38.below_, .d (kI .i64) y38.one_.x0_, .d (kI .i64) y38.one_.x1_, .d (kI .i64) y38.one_.x2_]]) (out' := .d (tup [])) [(70000, 70000), (70007, 3505006)] [(70007, 410600)] [1, 0] [] [1, 0] rfl (step_machine_put.ok hy38) b80 (oE1 tm (oE1 tm (oE1 tm oE0))) rfl rfl rfl rfl rfl rfl rfl rfl) (s3 rfl rfl rfl) <| .nil) (by kernel_rfl) (by kernel_rfl) ?_
            refine pBlkN ?_
            refine pFrzR (n := 0) (id := 410600) [] rfl rfl trivial ?_
            exact pJ2 _ _ (so h) ⟨rfl, rfl, trivial⟩ rfl
          · refine wCF hp36 tm (s1 rfl) ?_
            refine wSeq ?_
            refine rg (cp (oEq rfl tm (cI (by decide))) (s1 rfl) <| cp (oAs tm) (s1 rfl) <| .nil) (by kernel_rfl) ?_
            refine pSeq ?_
            rcases ic h with ⟨hp39, h⟩ | ⟨hp39, h⟩
            · refine wCT hp39 tm (s1 rfl) ?_
              refine wSeq ?_
              obtain ⟨y40, hy40, h⟩ := bd h
              refine rg (cp (oMv tm) (s1 rfl) <| cp (oMv tm) (s1 rfl) <| cp (oNilP tm) (s1 rfl) <| cp (oFldP o92_1 tm) (s1 rfl) <| cp (oFldP o35_2 tm) (s1 rfl) <| cr (oLdK (n := 1) (k := 5) rfl rfl (by kernel_rfl) t32 tm) (s1 rfl) <| cm (oCallS (rest := [.row 3505006 68 (kR f_api_Slot) y2, .box 70000 92 [.d (kL kS) a0.l_.Names, .d (kL (kI .u32)) a0.l_.Up, .d (kI .i64) a0.s_.Pc.V, .d (kI .i64) a0.s_.Pc.L, .d (kL (kR f_api_Instr)) a0.s_.Code, .d (kL (kR f_api_Atom)) a0.s_.Mem, .v 3505006, .d (kL (kR f_api_Atom)) a0.s_.Out, .d (kI .i64) a0.x_.Op, .d (kI .i64) a0.x_.N, .d (kI .i64) a0.x_.L, .d kB a0.a_.Ret, .d (kI .i64) a0.a_.V, .d (kI .i64) a0.a_.L, .d kB a0.b_.Ret, .d (kI .i64) a0.b_.V, .d (kI .i64) a0.b_.L, .d kB a0.r_.Ret, .d (kI .i64) a0.r_.V, .d (kI .i64) a0.r_.L, .d (kI .i64) a0.below_, .d (kI .i64) a0.one_.x0_, .d (kI .i64) a0.one_.x1_, .d (kI .i64) a0.one_.x2_]]) (R' := [.row 430240 30 (kR f_api_Atom) y40, .row 3505006 68 (kR f_api_Slot) y2, .box 70000 92 [.d (kL kS) a0.l_.Names, .d (kL (kI .u32)) a0.l_.Up, .d (kI .i64) a0.s_.Pc.V, .d (kI .i64) a0.s_.Pc.L, .d (kL (kR f_api_Instr)) a0.s_.Code, .d (kL (kR f_api_Atom)) a0.s_.Mem, .v 3505006, .d (kL (kR f_api_Atom)) a0.s_.Out, .d (kI .i64) a0.x_.Op, .d (kI .i64) a0.x_.N, .d (kI .i64) a0.x_.L, .d kB a0.a_.Ret, .d (kI .i64) a0.a_.V, .d (kI .i64) a0.a_.L, .d kB a0.b_.Ret, .d (kI .i64) a0.b_.V, .d (kI .i64) a0.b_.L, .d kB a0.r_.Ret, .d (kI .i64) a0.r_.V, .d (kI .i64) a0.r_.L, .d (kI .i64) a0.below_, .d (kI .i64) a0.one_.x0_, .d (kI .i64) a0.one_.x1_, .d (kI .i64) a0.one_.x2_]]) (out' := .v 430240) [] [(80000, 430240)] [] [0, 1] [0, 1, 2] rfl (slices_Clone_api_Atom_api_Atom_nn.ok hy40) b81 (oE1 tm oE0) rfl rfl rfl rfl rfl rfl rfl rfl) (s1 rfl) <| cp (oNilP tm) (s1 rfl) <| cp (oFldP o92_1 tm) (s1 rfl) <| cp (oFldP o35_2 tm) (s1 rfl) <| cwn (oStN (n := 2) (m := 0) (k := 5) rfl rfl rfl rfl z32 rfl tm tm) (s2 rfl rfl) <| .nil) (by kernel_rfl) ?_
              refine pSeq ?_
              obtain ⟨y41, hy41, h⟩ := bd h
              refine rgD hm (cp (oMv tm) (s1 rfl) <| cp (oNilP tm) (s1 rfl) <| cp (oFldP o92_1 tm) (s1 rfl) <| cp (oFldP o35_2 tm) (s1 rfl) <| cr (oLdN (n := 2) (k := 5) rfl rfl rfl t32 tm) (s1 rfl) <| cp (oMv tm) (s1 rfl) <| cp (oNilP tm) (s1 rfl) <| cp (oFldP o92_3 tm) (s1 rfl) <| cp (oFldP o68_1 tm) (s1 rfl) <| cr (oLdK (n := 2) (k := 12) rfl rfl (by kernel_rfl) t3 tm) (s1 rfl) <| cp (oMv tm) (s1 rfl) <| cp (oNilP tm) (s1 rfl) <| cp (oFldP o92_4 tm) (s1 rfl) <| cp (oFldP o68_1 tm) (s1 rfl) <| cr (oLdK (n := 2) (k := 15) rfl rfl (by kernel_rfl) t3 tm) (s1 rfl) <| cp (oMv tm) (s1 rfl) <| cp (oBuild (fs := f_api_Atom) (u := ⟨a0.b_.V, a1⟩) rfl ze30 pl30 po30 (.op (zc := [(.int .i64 0)]) tm rfl (.op (zc := [(.int .i64 0)]) tm rfl .nil))) (s2 rfl rfl) <| cr (oIdxR (n := 0) u32 z30 rfl hy41 tm tm) (s2 rfl rfl) <| cwn (oStE (n := 0) rfl hy41 rfl z30 tm tm) (s2 rfl rfl) <| .nil) (by kernel_rfl) (by kernel_rfl) ?_
              refine pBlkN ?_
              refine pFrzR (n := 0) (id := 430240) [] rfl rfl trivial ?_
              refine pFrzR (n := 0) (id := 3505006) [] rfl rfl trivial ?_
              exact pJ2 _ _ (so h) ⟨rfl, rfl, trivial⟩ rfl
            · refine wCF hp39 tm (s1 rfl) ?_
              refine wSeq ?_
              refine rg (cp (oEq rfl tm (cI (by decide))) (s1 rfl) <| cp (oAs tm) (s1 rfl) <| .nil) (by kernel_rfl) ?_
              refine pSeq ?_
              rcases ic h with ⟨hp42, h⟩ | ⟨hp42, h⟩
              · refine wCT hp42 tm (s1 rfl) ?_
                obtain ⟨y43, hy43, h⟩ := bd h
                obtain ⟨hc44, h⟩ := ib h
                refine rgL hm (cp (oMv tm) (s1 rfl) <| cp (oMv tm) (s1 rfl) <| cp (oNilP tm) (s1 rfl) <| cp (oFldP o92_1 tm) (s1 rfl) <| cp (oFldP o35_4 tm) (s1 rfl) <| cl [] rfl (oLdK (n := 1) (k := 7) rfl rfl (by kernel_rfl) t32 tm) (s1 rfl) <| cnm (oCallS (rest := [.row 3505006 68 (kR f_api_Slot) y2, .box 70000 92 [.d (kL kS) a0.l_.Names, .d (kL (kI .u32)) a0.l_.Up, .d (kI .i64) a0.s_.Pc.V, .d (kI .i64) a0.s_.Pc.L, .d (kL (kR f_api_Instr)) a0.s_.Code, .d (kL (kR f_api_Atom)) a0.s_.Mem, .v 3505006, .d (kL (kR f_api_Atom)) a0.s_.Out, .d (kI .i64) a0.x_.Op, .d (kI .i64) a0.x_.N, .d (kI .i64) a0.x_.L, .d kB a0.a_.Ret, .d (kI .i64) a0.a_.V, .d (kI .i64) a0.a_.L, .d kB a0.b_.Ret, .d (kI .i64) a0.b_.V, .d (kI .i64) a0.b_.L, .d kB a0.r_.Ret, .d (kI .i64) a0.r_.V, .d (kI .i64) a0.r_.L, .d (kI .i64) a0.below_, .d (kI .i64) a0.one_.x0_, .d (kI .i64) a0.one_.x1_, .d (kI .i64) a0.one_.x2_]]) (R' := [.row 460240 30 (kR f_api_Atom) y43, .row 3505006 68 (kR f_api_Slot) y2, .box 70000 92 [.d (kL kS) a0.l_.Names, .d (kL (kI .u32)) a0.l_.Up, .d (kI .i64) a0.s_.Pc.V, .d (kI .i64) a0.s_.Pc.L, .d (kL (kR f_api_Instr)) a0.s_.Code, .d (kL (kR f_api_Atom)) a0.s_.Mem, .v 3505006, .d (kL (kR f_api_Atom)) a0.s_.Out, .d (kI .i64) a0.x_.Op, .d (kI .i64) a0.x_.N, .d (kI .i64) a0.x_.L, .d kB a0.a_.Ret, .d (kI .i64) a0.a_.V, .d (kI .i64) a0.a_.L, .d kB a0.b_.Ret, .d (kI .i64) a0.b_.V, .d (kI .i64) a0.b_.L, .d kB a0.r_.Ret, .d (kI .i64) a0.r_.V, .d (kI .i64) a0.r_.L, .d (kI .i64) a0.below_, .d (kI .i64) a0.one_.x0_, .d (kI .i64) a0.one_.x1_, .d (kI .i64) a0.one_.x2_]]) (out' := .v 460240) [] [(80000, 460240)] [] [0, 1] [0, 1, 2] rfl (slices_Clone_api_Atom_api_Atom_nn.ok hy43) b81 (oE1 tm oE0) rfl rfl rfl rfl rfl rfl rfl rfl) (s1 rfl) <| cp (oMv tm) (s1 rfl) <| cp (oNilP tm) (s1 rfl) <| cp (oFldP o92_3 tm) (s1 rfl) <| cp (oFldP o68_1 tm) (s1 rfl) <| cl [.row 460240 30 (kR f_api_Atom) y43] rfl (oLdK (n := 1) (k := 12) rfl rfl (by kernel_rfl) t3 tm) (s1 rfl) <| cp (oMv tm) (s1 rfl) <| cp (oBuild (fs := f_api_Atom) (u := ⟨a0.a_.V, a1⟩) rfl ze30 pl30 po30 (.op (zc := [(.int .i64 0)]) tm rfl (.op (zc := [(.int .i64 0)]) tm rfl .nil))) (s2 rfl rfl) <| cp (oLit (d := (kR f_api_Atom)) el32 (by decide) rfl rfl rfl (e1 tm e0)) (s1 rfl) <| cw (oApp (n := 0) (id' := 142) el32 (by decide) rfl (by decide) hc44 tm tm) (s2 rfl rfl) <| cp (oNilP tm) (s1 rfl) <| cp (oFldP o92_1 tm) (s1 rfl) <| cp (oFldP o35_4 tm) (s1 rfl) <| cwn (oStN (n := 2) (m := 0) (k := 7) rfl rfl rfl rfl z32 rfl tm tm) (s2 rfl rfl) <| .nil) (by kernel_rfl) (by kernel_rfl) (by kernel_rfl) ?_
                refine pBlkN ?_
                refine pFrzR (n := 1) (id := 3505006) [] rfl rfl trivial ?_
                refine pFrzR (n := 0) (id := 142) [] rfl rfl trivial ?_
                exact pJ2 _ _ (so h) ⟨rfl, rfl, trivial⟩ rfl
              · refine wCF hp42 tm (s1 rfl) ?_
                refine wSeq ?_
                refine rg (cp (oEq rfl tm (cI (by decide))) (s1 rfl) <| cp (oAs tm) (s1 rfl) <| .nil) (by kernel_rfl) ?_
                refine pSeq ?_
                rcases ic h with ⟨hp45, h⟩ | ⟨hp45, h⟩
                · refine wCT hp45 tm (s1 rfl) ?_
                  refine rg (cp (oMv tm) (s1 rfl) <| cp (oNilP tm) (s1 rfl) <| cp (oFldP o92_3 tm) (s1 rfl) <| cp (oFldP o68_1 tm) (s1 rfl) <| cr (oLdK (n := 1) (k := 12) rfl rfl (by kernel_rfl) t3 tm) (s1 rfl) <| cp (oAs tm) (s1 rfl) <| .nil) (by kernel_rfl) ?_
                  refine pBlkN ?_
                  refine pFrzR (n := 0) (id := 3505006) [] rfl rfl trivial ?_
                  exact pJ2 _ _ (so h) ⟨rfl, rfl, trivial⟩ rfl
                · refine wCF hp45 tm (s1 rfl) ?_
                  refine wSeq ?_
                  refine rg (cp (oEq rfl tm (cI (by decide))) (s1 rfl) <| cp (oAs tm) (s1 rfl) <| .nil) (by kernel_rfl) ?_
                  refine pSeq ?_
                  rcases ic h with ⟨hp46, h⟩ | ⟨hp46, h⟩
                  · refine wCT hp46 tm (s1 rfl) ?_
                    refine wSeq ?_
                    refine rg (cp (oMv tm) (s1 rfl) <| cp (oNilP tm) (s1 rfl) <| cp (oFldP o92_3 tm) (s1 rfl) <| cp (oFldP o68_1 tm) (s1 rfl) <| cr (oLdK (n := 1) (k := 12) rfl rfl (by kernel_rfl) t3 tm) (s1 rfl) <| cp (oNe rfl tm (cI (by decide))) (s1 rfl) <| .nil) (by kernel_rfl) ?_
                    refine pSeq ?_
                    rcases ic h with ⟨hp47, h⟩ | ⟨hp47, h⟩
                    · refine wNT hp47 tm (s1 rfl) ?_
                      refine wSkip ?_
                      refine pBlkN ?_
                      refine pFrzR (n := 0) (id := 3505006) [] rfl rfl trivial ?_
                      exact pJ2 _ _ (so h) ⟨rfl, rfl, trivial⟩ rfl
                    · refine wNF hp47 tm (s1 rfl) ?_
                      refine rg (cp (oMv tm) (s1 rfl) <| cp (oNilP tm) (s1 rfl) <| cp (oFldP o92_2 tm) (s1 rfl) <| cp (oFldP o48_1 tm) (s1 rfl) <| cr (oLdK (n := 1) (k := 9) rfl rfl (by kernel_rfl) t3 tm) (s1 rfl) <| cp (oAs tm) (s1 rfl) <| .nil) (by kernel_rfl) ?_
                      refine pBlkN ?_
                      refine pFrzR (n := 0) (id := 3505006) [] rfl rfl trivial ?_
                      exact pJ2 _ _ (so h) ⟨rfl, rfl, trivial⟩ rfl
                  · refine wCF hp46 tm (s1 rfl) ?_
                    refine wSeq ?_
                    refine rg (cp (oEq rfl tm (cI (by decide))) (s1 rfl) <| cp (oAs tm) (s1 rfl) <| .nil) (by kernel_rfl) ?_
                    refine pSeq ?_
                    rcases ic h with ⟨hp48, h⟩ | ⟨hp48, h⟩
                    · refine wCT hp48 tm (s1 rfl) ?_
                      refine wSeq ?_
                      obtain ⟨hc49, h⟩ := ib h
                      refine rgD hm (cp (oMv tm) (s1 rfl) <| cp (oMv tm) (s1 rfl) <| cp (oNilP tm) (s1 rfl) <| cp (oFldP o92_6 tm) (s1 rfl) <| cr (oLdK (n := 1) (k := 20) rfl rfl (by kernel_rfl) t3 tm) (s1 rfl) <| cp (oMv tm) (s1 rfl) <| cp (oNilP tm) (s1 rfl) <| cp (oFldP o92_2 tm) (s1 rfl) <| cp (oFldP o48_1 tm) (s1 rfl) <| cr (oLdK (n := 1) (k := 9) rfl rfl (by kernel_rfl) t3 tm) (s1 rfl) <| cp (oSub tm tm) (s2 rfl rfl) <| cp (oMv tm) (s1 rfl) <| cp (oNilP tm) (s1 rfl) <| cp (oFldP o92_6 tm) (s1 rfl) <| cr (oLdK (n := 1) (k := 20) rfl rfl (by kernel_rfl) t3 tm) (s1 rfl) <| cp (oCut u33 z68 hc49.1 hc49.2.1 hc49.2.2 tm tm tm) (s3 rfl rfl rfl) <| cp (oAs tm) (s1 rfl) <| .nil) (by kernel_rfl) (by kernel_rfl) ?_
                      refine pSeq ?_
                      refine wSeq ?_
                      obtain ⟨hc50, h⟩ := ib h
                      obtain ⟨y51, hy51, h⟩ := bd h
                      refine rgD hm (cp (oMv tm) (s1 rfl) <| cp (oMv tm) (s1 rfl) <| cp (oMv tm) (s1 rfl) <| cp (oNilP tm) (s1 rfl) <| cp (oFldP o92_6 tm) (s1 rfl) <| cr (oLdK (n := 1) (k := 20) rfl rfl (by kernel_rfl) t3 tm) (s1 rfl) <| cp (oMv tm) (s1 rfl) <| cp (oNilP tm) (s1 rfl) <| cp (oFldP o92_2 tm) (s1 rfl) <| cp (oFldP o48_1 tm) (s1 rfl) <| cr (oLdK (n := 1) (k := 9) rfl rfl (by kernel_rfl) t3 tm) (s1 rfl) <| cp (oSub tm tm) (s2 rfl rfl) <| cp (oCutHi u33 z68 hc50.1 hc50.2 tm tm) (s2 rfl rfl) <| cp (oMv tm) (s1 rfl) <| cp (oMv tm) (s1 rfl) <| cp (oNilP tm) (s1 rfl) <| cp (oFldP o92_1 tm) (s1 rfl) <| cp (oFldP o35_0 tm) (s1 rfl) <| cp (oFldP o30_1 tm) (s1 rfl) <| cr (oLdK (n := 1) (k := 3) rfl rfl (by kernel_rfl) t3 tm) (s1 rfl) <| cp (oBuild (fs := f_api_Slot) (u := ⟨true, IntKind.i64.wrap (a0.s_.Pc.V + 1), a0.s_.Pc.L⟩) rfl ze68 pl68 po68 (.op (zc := [(.bool false)]) cB rfl (.op (zc := [(.int .i64 0)]) tm rfl (.op (zc := [(.int .i64 0)]) tm rfl .nil)))) (s2 rfl rfl) <| cp (oLit (d := (kR f_api_Slot)) el33 (by decide) rfl rfl rfl (e1 tm e0)) (s1 rfl) <| cp (oMv tm) (s1 rfl) <| cp (oLit (d := (kL (kR f_api_Slot))) el149 (by decide) rfl rfl rfl (e1 tm (e1 tm (e1 tm e0)))) (s3 rfl rfl rfl) <| cp (oCall rfl (slices_Concat_api_Slot_api_Slot.ok hy51) b82 (opds_cons tm opds_nil)) (s1 rfl) <| cp (oNilP tm) (s1 rfl) <| cp (oFldP o92_1 tm) (s1 rfl) <| cp (oFldP o35_3 tm) (s1 rfl) <| cwn (oStK (n := 1) (k := 6) rfl rfl rfl (by kernel_rfl) z33 tm tm) (s2 rfl rfl) <| .nil) (by kernel_rfl) (by kernel_rfl) ?_
                      refine pSeq ?_
                      refine rg (cp (oMv tm) (s1 rfl) <| cp (oNilP tm) (s1 rfl) <| cp (oFldP o92_3 tm) (s1 rfl) <| cp (oFldP o68_1 tm) (s1 rfl) <| cr (oLdK (n := 1) (k := 12) rfl rfl (by kernel_rfl) t3 tm) (s1 rfl) <| cp (oAs tm) (s1 rfl) <| .nil) (by kernel_rfl) ?_
                      refine pBlkN ?_
                      refine pDrop (.cons _ (.cons_cons _ .slnil)) ?_
                      exact pJ2 _ _ (so h) ⟨rfl, rfl, trivial⟩ rfl
                    · refine wCF hp48 tm (s1 rfl) ?_
                      refine wSeq ?_
                      refine rg (cp (oEq rfl tm (cI (by decide))) (s1 rfl) <| cp (oAs tm) (s1 rfl) <| .nil) (by kernel_rfl) ?_
                      refine pSeq ?_
                      rcases ic h with ⟨hp52, h⟩ | ⟨hp52, h⟩
                      · refine wCT hp52 tm (s1 rfl) ?_
                        refine wSeq ?_
                        refine wSeq ?_
                        refine rg (cp (oMv tm) (s1 rfl) <| cp (oNilP tm) (s1 rfl) <| cp (oFldP o92_2 tm) (s1 rfl) <| cp (oFldP o48_1 tm) (s1 rfl) <| cr (oLdK (n := 1) (k := 9) rfl rfl (by kernel_rfl) t3 tm) (s1 rfl) <| cp (oEq rfl tm (cI (by decide))) (s1 rfl) <| .nil) (by kernel_rfl) ?_
                        refine pSeq ?_
                        rcases ic h with ⟨hp53, h⟩ | ⟨hp53, h⟩
                        · refine wCT hp53 tm (s1 rfl) ?_
                          obtain ⟨y54, hy54, h⟩ := bd h
                          refine rg (cp (oMv tm) (s1 rfl) <| cp (oMv tm) (s1 rfl) <| cp (oNilP tm) (s1 rfl) <| cp (oFldP o92_3 tm) (s1 rfl) <| cp (oFldP o68_1 tm) (s1 rfl) <| cr (oLdK (n := 1) (k := 12) rfl rfl (by kernel_rfl) t3 tm) (s1 rfl) <| cp (oMv tm) (s1 rfl) <| cm (oCallS (rest := []) (R' := [.row 580280 68 (kR f_api_Slot) y54.s_.Stack, .box 70000 92 [.d (kL kS) y54.l_.Names, .d (kL (kI .u32)) y54.l_.Up, .d (kI .i64) y54.s_.Pc.V, .d (kI .i64) y54.s_.Pc.L, .d (kL (kR f_api_Instr)) y54.s_.Code, .d (kL (kR f_api_Atom)) y54.s_.Mem, .v 580280, .d (kL (kR f_api_Atom)) y54.s_.Out, .d (kI .i64) y54.x_.Op, .d (kI .i64) y54.x_.N, .d (kI .i64) y54.x_.L, .d kB y54.a_.Ret, .d (kI .i64) y54.a_.V, .d (kI .i64) y54.a_.L, .d kB y54.b_.Ret, .d (kI .i64) y54.b_.V, .d (kI .i64) y54.b_.L, .d kB y54.r_.Ret, .d (kI .i64) y54.r_.V, .d (kI .i64) y54.r_.L, .d (kI .i64) y54.below_, .d (kI .i64) y54.one_.x0_, .d (kI .i64) y54.one_.x1_, .d (kI .i64) y54.one_.x2_]]) (out' := .d (tup [])) [(70000, 70000), (70007, 3505006)] [(70007, 580280)] [1, 0] [] [1, 0] rfl (step_machine_put.ok hy54) b80 (oE1 tm (oE1 tm (oE1 tm oE0))) rfl rfl rfl rfl rfl rfl rfl rfl) (s3 rfl rfl rfl) <| .nil) (by kernel_rfl) ?_
                          refine pSeq ?_
                          refine rg (cp (oMv tm) (s1 rfl) <| cp (oNilP tm) (s1 rfl) <| cp (oFldP o92_5 tm) (s1 rfl) <| cp (oFldP o68_1 tm) (s1 rfl) <| cr (oLdK (n := 1) (k := 18) rfl rfl (by kernel_rfl) t3 tm) (s1 rfl) <| cp (oAs tm) (s1 rfl) <| .nil) (by kernel_rfl) ?_
                          refine pBlkN ?_
                          refine pFrzR (n := 0) (id := 580280) [] rfl rfl trivial ?_
                          exact pJ2 _ _ (so h) ⟨rfl, rfl, trivial⟩ rfl
                        · refine wCF hp53 tm (s1 rfl) ?_
                          refine wSkip ?_
                          refine pSeq ?_
                          refine rg (cp (oMv tm) (s1 rfl) <| cp (oNilP tm) (s1 rfl) <| cp (oFldP o92_5 tm) (s1 rfl) <| cp (oFldP o68_1 tm) (s1 rfl) <| cr (oLdK (n := 1) (k := 18) rfl rfl (by kernel_rfl) t3 tm) (s1 rfl) <| cp (oAs tm) (s1 rfl) <| .nil) (by kernel_rfl) ?_
                          refine pBlkN ?_
                          refine pFrzR (n := 0) (id := 3505006) [] rfl rfl trivial ?_
                          exact pJ2 _ _ (so h) ⟨rfl, rfl, trivial⟩ rfl
                      · refine wCF hp52 tm (s1 rfl) ?_
                        refine wSkip ?_
                        refine pBlkN ?_
                        refine pFrzR (n := 0) (id := 3505006) [] rfl rfl trivial ?_
                        exact pJ2 _ _ (so h) ⟨rfl, rfl, trivial⟩ rfl
  · rintro x28 x29 rfl
    replace h := hk1
    refine pSeq ?_
    refine rg (cp (oMv tm) (s1 rfl) <| cp (oMv tm) (s1 rfl) <| cp (oNilP tm) (s1 rfl) <| cp (oFldP o92_1 tm) (s1 rfl) <| cp (oFldP o35_0 tm) (s1 rfl) <| cp (oFldP o30_0 tm) (s1 rfl) <| cwn (oStK (n := 0) (k := 2) rfl rfl rfl (by kernel_rfl) z3 tm tm) (s2 rfl rfl) <| .nil) (by kernel_rfl) ?_
    obtain rfl := so h
    exact pSn [0] rfl rfl (.inr rfl) rfl rfl (.nil)

theorem step_step.ok {a0 : api_Lattice} {a1 : api_Table} {a2 : api_State} {r : api_State × Int} (h : step_step.f a0 a1 a2 = some r) : FnA Tryd.prog 24 [(kR f_api_Lattice).sig a0, (kR f_api_Table).sig a1, (kR f_api_State).sig a2] (tup [(kR f_api_State).sig r.1, (kI .i64).sig r.2]) := by
  unfold step_step.f at h
  obtain ⟨z, hB, hr⟩ := bd h
  clear h
  obtain rfl := so hr
  replace h := hB
  refine fnDefer (Γ := [(0, .d ((kR f_api_Lattice).sig a0)), (1, .d ((kR f_api_Table).sig a1)), (2, .d ((kR f_api_State).sig a2)), (3, .d (sP (kR f_api_Lattice) a0)), (4, .d (sP (kR f_api_Table) a1)), (5, .d (sP (kR f_api_State) a2)), (6, .p 6 0), (7, .p 7 0)]) (R := [.box 7 3 [.d (kI .i64) 0], .box 6 35 [.d (kI .i64) 0, .d (kI .i64) 0, .d (kL (kR f_api_Instr)) [], .d (kL (kR f_api_Atom)) [], .d (kL (kR f_api_Slot)) [], .d (kL (kR f_api_Atom)) []]]) (n6 := 1) (n7 := 0) Tryd.func24 rfl (by kernel_rfl) (by kernel_rfl) rfl Tryd.func44 ((rfl : Tryd.f44.body = some (recX _ _ _ _ _ _ _ _ _ _ _ _ _ _ _ _ _ _ _)).trans (congrArg some (recX_eq (A := 20) (E := 86) (S := 35) (I := 3) ⟨rfl, rfl, rfl⟩ ⟨rfl, rfl, rfl⟩ ⟨rfl, rfl, rfl⟩ ⟨rfl, rfl, rfl⟩ ⟨rfl, rfl, rfl⟩ ⟨rfl, rfl, rfl⟩ ⟨rfl, rfl, rfl⟩ ⟨rfl, rfl, rfl⟩ ⟨rfl, rfl, rfl⟩ ⟨rfl, rfl, rfl⟩ ⟨rfl, rfl, rfl⟩))) rfl rfl u20 cb86 b44 t35 z35 t3 z3 rfl rfl rfl rfl rfl rfl (fun H0 w0 Q hpost => ?_) (fun X H0 w0 pv ds => ?_)
  · refine rg (cp (oBox tm) (s1 rfl) <| cp (oBox tm) (s1 rfl) <| cp (oBox tm) (s1 rfl) <| cw (oAlloc (id := 6) (ls := [.d (kI .i64) 0, .d (kI .i64) 0, .d (kL (kR f_api_Instr)) [], .d (kL (kR f_api_Atom)) [], .d (kL (kR f_api_Slot)) [], .d (kL (kR f_api_Atom)) []]) ze35 (fun g => ⟨[(.int .i64 0)], _, rfl, zI_i64 g.H, ⟨[(.int .i64 0)], _, rfl, zI_i64 g.H, ⟨[(.slice none 0 0)], _, rfl, zL g.H, ⟨[(.slice none 0 0)], _, rfl, zL g.H, ⟨[(.slice none 0 0)], _, rfl, zL g.H, ⟨[(.slice none 0 0)], _, rfl, zL g.H, rfl⟩⟩⟩⟩⟩⟩)) trivial <| cw (oAlloc (id := 7) (ls := [.d (kI .i64) 0]) ze3 (fun g => ⟨[(.int .i64 0)], _, rfl, zI_i64 g.H, rfl⟩)) trivial <| .nil) (by kernel_rfl) ?_
    exact pSub (Γ' := [(0, .d ((kR f_api_Lattice).sig a0)), (1, .d ((kR f_api_Table).sig a1)), (2, .d ((kR f_api_State).sig a2)), (3, .d (sP (kR f_api_Lattice) a0)), (4, .d (sP (kR f_api_Table) a1)), (5, .d (sP (kR f_api_State) a2)), (6, .p 6 0), (7, .p 7 0)]) ⟨rfl, rfl, rfl, rfl, rfl, rfl, rfl, rfl, trivial⟩ hpost
  · unfold step_step.B at h
    refine wSeq ?_
    refine wT0 ?_
    refine wTk 0 7 (cp (oFld (fs := f_api_State) (k := 0) rfl o35_0 tm) (s1 rfl) <| cp (oFld (fs := f_api_Atom) (k := 0) rfl o30_0 tm) (s1 rfl) <| cp (oLd t3 tm) (s1 rfl) <| cp (oFld (fs := f_api_State) (k := 1) rfl o35_1 tm) (s1 rfl) <| cp (oLd t31 tm) (s1 rfl) <| cp (oLenL u31 tm) (s1 rfl) <| cp (oLt rfl tm tm) (s2 rfl rfl) <| .nil) (by kernel_rfl) rfl ?_
    obtain ⟨z1, hz1, h⟩ := bd h
    rcases z1 with p2 | y3
    · refine wTx (Γp := [(6, .p 6 0), (7, .p 7 0)]) 7 rfl (oCallX (rest := [.box 7 3 [.d (kI .i64) 0], .box 6 35 [.d (kI .i64) 0, .d (kI .i64) 0, .d (kL (kR f_api_Instr)) [], .d (kL (kR f_api_Atom)) [], .d (kL (kR f_api_Slot)) [], .d (kL (kR f_api_Atom)) []]]) [] [] [0, 1] rfl (step_need.okP hz1) b45 (oE1 tm oE0) rfl rfl) rfl rfl (s1 rfl) ⟨rfl, rfl, trivial⟩ ?_
      refine pThenP ?_
      obtain rfl := so h
      exact pDpan (n6 := 1) (n7 := 0) rfl rfl rfl (by kernel_rfl) (by kernel_rfl)
    · refine wTe 7 (cm (oCallS (rest := [.box 7 3 [.d (kI .i64) 0], .box 6 35 [.d (kI .i64) 0, .d (kI .i64) 0, .d (kL (kR f_api_Instr)) [], .d (kL (kR f_api_Atom)) [], .d (kL (kR f_api_Slot)) [], .d (kL (kR f_api_Atom)) []]]) (R' := [.box 7 3 [.d (kI .i64) 0], .box 6 35 [.d (kI .i64) 0, .d (kI .i64) 0, .d (kL (kR f_api_Instr)) [], .d (kL (kR f_api_Atom)) [], .d (kL (kR f_api_Slot)) [], .d (kL (kR f_api_Atom)) []]]) (out' := .d (tup [])) [] [] [] [0, 1] [0, 1] rfl (step_need.okR hz1) b45 (oE1 tm oE0) rfl rfl rfl rfl rfl rfl rfl rfl) (s1 rfl) <| .nil) (by kernel_rfl) ?_
      refine pSeq ?_
      refine wSeq ?_
      obtain ⟨y4, hy4, h⟩ := bd h
      refine rg (cp (oLd t25 tm) (s1 rfl) <| cp (oCall rfl (lattice_Bottom.ok hy4) b46 (opds_cons tm opds_nil)) (s1 rfl) <| cp (oMv tm) (s1 rfl) <| cp (oExt (k := 0) rfl tm) (s1 rfl) <| cp (oExt (k := 1) rfl tm) (s1 rfl) <| cp (oAs tm) (s1 rfl) <| cp (oAs tm) (s1 rfl) <| .nil) (by kernel_rfl) ?_
      refine pSeq ?_
      refine wSeq ?_
      obtain ⟨y5, hy5, h⟩ := bd h
      refine rgD hm (cp (oLd t25 tm) (s1 rfl) <| cp (oLd t35 tm) (s1 rfl) <| cp (oFld (fs := f_api_State) (k := 1) rfl o35_1 tm) (s1 rfl) <| cp (oLd t31 tm) (s1 rfl) <| cp (oFld (fs := f_api_State) (k := 0) rfl o35_0 tm) (s1 rfl) <| cp (oFld (fs := f_api_Atom) (k := 0) rfl o30_0 tm) (s1 rfl) <| cp (oLd t3 tm) (s1 rfl) <| cp (oIdx u31 z48 hy5 tm tm) (s2 rfl rfl) <| cp (oLd t48 tm) (s1 rfl) <| cp (oMv tm) (s1 rfl) <| cp (oMv tm) (s1 rfl) <| cp (oMv tm) (s1 rfl) <| cp (oBuildA (fs := f_S90) (u := ⟨y4.1, y4.1, y4.1⟩) rfl ze90 u90 z3 po90 (.op (zc := [(.int .i64 0)]) tm rfl (.op (zc := [(.int .i64 0)]) tm rfl (.op (zc := [(.int .i64 0)]) tm rfl .nil)))) (s3 rfl rfl rfl) <| cp (oBuild (fs := f_step_machine) (u := ⟨a0, a2, y5, (⟨false, 0, 0⟩ : api_Slot), (⟨false, 0, 0⟩ : api_Slot), (⟨false, 0, 0⟩ : api_Slot), 0, (⟨y4.1, y4.1, y4.1⟩ : S90)⟩) rfl ze92 pl92 po92 (.op (zc := [(.slice none 0 0), (.slice none 0 0)]) tm rfl (.op (zc := [(.int .i64 0), (.int .i64 0), (.slice none 0 0), (.slice none 0 0), (.slice none 0 0), (.slice none 0 0)]) tm rfl (.op (zc := [(.int .i64 0), (.int .i64 0), (.int .i64 0)]) tm rfl (.ze (zc := [(.bool false), (.int .i64 0), (.int .i64 0)]) zR_api_Slot (.ze (zc := [(.bool false), (.int .i64 0), (.int .i64 0)]) zR_api_Slot (.ze (zc := [(.bool false), (.int .i64 0), (.int .i64 0)]) zR_api_Slot (.ze (zc := [(.int .i64 0)]) zI_i64 (.op (zc := [(.int .i64 0), (.int .i64 0), (.int .i64 0)]) tm rfl .nil))))))))) ⟨rfl, rfl, rfl, rfl, trivial⟩ <| cw (oBoxP (id := 47) (d := (kR f_step_machine)) (ls := [.d (kL kS) a0.Names, .d (kL (kI .u32)) a0.Up, .d (kI .i64) a2.Pc.V, .d (kI .i64) a2.Pc.L, .d (kL (kR f_api_Instr)) a2.Code, .d (kL (kR f_api_Atom)) a2.Mem, .d (kL (kR f_api_Slot)) a2.Stack, .d (kL (kR f_api_Atom)) a2.Out, .d (kI .i64) y5.Op, .d (kI .i64) y5.N, .d (kI .i64) y5.L, .d kB false, .d (kI .i64) 0, .d (kI .i64) 0, .d kB false, .d (kI .i64) 0, .d (kI .i64) 0, .d kB false, .d (kI .i64) 0, .d (kI .i64) 0, .d (kI .i64) 0, .d (kI .i64) y4.1, .d (kI .i64) y4.1, .d (kI .i64) y4.1]) (lfS (lfC (lfS (lfC lf1 (lfC lf1 lfN))) (lfC (lfS (lfC (lfS (lfC lf1 (lfC lf1 lfN))) (lfC lf1 (lfC lf1 (lfC lf1 (lfC lf1 lfN)))))) (lfC (lfS (lfC lf1 (lfC lf1 (lfC lf1 lfN)))) (lfC (lfS (lfC lf1 (lfC lf1 (lfC lf1 lfN)))) (lfC (lfS (lfC lf1 (lfC lf1 (lfC lf1 lfN)))) (lfC (lfS (lfC lf1 (lfC lf1 (lfC lf1 lfN)))) (lfC lf1 (lfC (lfS (lfC lf1 (lfC lf1 (lfC lf1 lfN)))) lfN))))))))) rfl tm) (s1 rfl) <| cp (oAs tm) (s1 rfl) <| .nil) (by kernel_rfl) (by kernel_rfl) ?_
      refine pSeq ?_
      refine wSeq ?_
      refine wT0 ?_
      refine wTk 0 1 (cp (oMv tm) (s1 rfl) <| .nil) (by kernel_rfl) rfl ?_
      obtain ⟨z6, hz6, h⟩ := bd h
      rcases z6 with p7 | y8
      · refine wTx (Γp := [(6, .p 6 0), (7, .p 7 0)]) 1 rfl (oCallX (rest := [.box 7 3 [.d (kI .i64) 0], .box 6 35 [.d (kI .i64) 0, .d (kI .i64) 0, .d (kL (kR f_api_Instr)) [], .d (kL (kR f_api_Atom)) [], .d (kL (kR f_api_Slot)) [], .d (kL (kR f_api_Atom)) []]]) [(70000, 47)] [0] [1, 2] rfl (step_machine_needs.okP hz6) b47 (oE1 tm oE0) rfl rfl) rfl rfl (s1 rfl) ⟨rfl, rfl, trivial⟩ ?_
        refine pThenP ?_
        obtain rfl := so h
        exact pDpan (n6 := 1) (n7 := 0) rfl rfl rfl (by kernel_rfl) (by kernel_rfl)
      · refine wTe 1 (cm (oCallS (rest := [.box 7 3 [.d (kI .i64) 0], .box 6 35 [.d (kI .i64) 0, .d (kI .i64) 0, .d (kL (kR f_api_Instr)) [], .d (kL (kR f_api_Atom)) [], .d (kL (kR f_api_Slot)) [], .d (kL (kR f_api_Atom)) []]]) (R' := [.box 47 92 [.d (kL kS) y8.l_.Names, .d (kL (kI .u32)) y8.l_.Up, .d (kI .i64) y8.s_.Pc.V, .d (kI .i64) y8.s_.Pc.L, .d (kL (kR f_api_Instr)) y8.s_.Code, .d (kL (kR f_api_Atom)) y8.s_.Mem, .d (kL (kR f_api_Slot)) y8.s_.Stack, .d (kL (kR f_api_Atom)) y8.s_.Out, .d (kI .i64) y8.x_.Op, .d (kI .i64) y8.x_.N, .d (kI .i64) y8.x_.L, .d kB y8.a_.Ret, .d (kI .i64) y8.a_.V, .d (kI .i64) y8.a_.L, .d kB y8.b_.Ret, .d (kI .i64) y8.b_.V, .d (kI .i64) y8.b_.L, .d kB y8.r_.Ret, .d (kI .i64) y8.r_.V, .d (kI .i64) y8.r_.L, .d (kI .i64) y8.below_, .d (kI .i64) y8.one_.x0_, .d (kI .i64) y8.one_.x1_, .d (kI .i64) y8.one_.x2_], .box 7 3 [.d (kI .i64) 0], .box 6 35 [.d (kI .i64) 0, .d (kI .i64) 0, .d (kL (kR f_api_Instr)) [], .d (kL (kR f_api_Atom)) [], .d (kL (kR f_api_Slot)) [], .d (kL (kR f_api_Atom)) []]]) (out' := .d (tup [])) [(70000, 47)] [] [0] [1, 2] [0, 1, 2] rfl (step_machine_needs.okR hz6) b47 (oE1 tm oE0) rfl rfl rfl rfl rfl rfl rfl rfl) (s1 rfl) <| .nil) (by kernel_rfl) ?_
        refine pSeq ?_
        refine wSeq ?_
        refine wSeq ?_
        refine rg (cp (oMv tm) (s1 rfl) <| cp (oNilP tm) (s1 rfl) <| cp (oFldP o92_2 tm) (s1 rfl) <| cp (oFldP o48_0 tm) (s1 rfl) <| cr (oLdK (n := 0) (k := 8) rfl rfl (by kernel_rfl) t3 tm) (s1 rfl) <| cp (oEq rfl tm (cI (by decide))) (s1 rfl) <| .nil) (by kernel_rfl) ?_
        refine pSeq ?_
        rcases ic h with ⟨hp9, h⟩ | ⟨hp9, h⟩
        · refine wCT hp9 tm (s1 rfl) ?_
          refine wT0 ?_
          refine wTk 0 1 (cp (oMkX 1 cb86 (cI (by decide))) trivial <| .nil) (by kernel_rfl) rfl ?_
          refine wTx (Γp := [(6, .p 6 0), (7, .p 7 0)]) 1 rfl (oPanic tm) rfl rfl (s1 rfl) ⟨rfl, rfl, trivial⟩ ?_
          refine pThenP ?_
          obtain rfl := so h
          exact pDpan (n6 := 2) (n7 := 1) rfl rfl rfl (by kernel_rfl) (by kernel_rfl)
        · refine wCF hp9 tm (s1 rfl) ?_
          refine wSkip ?_
          refine pSeq ?_
          refine wSeq ?_
          obtain ⟨y10, hy10, h⟩ := bd h
          refine rgL hm (cp (oFld (fs := f_api_Table) (k := 0) rfl o28_0 tm) (s1 rfl) <| cp (oLd t26 tm) (s1 rfl) <| cp (oMv tm) (s1 rfl) <| cp (oNilP tm) (s1 rfl) <| cp (oFldP o92_2 tm) (s1 rfl) <| cp (oFldP o48_0 tm) (s1 rfl) <| cl [] rfl (oLdK (n := 0) (k := 8) rfl rfl (by kernel_rfl) t3 tm) (s1 rfl) <| cp (oIdx u26 z46 hy10 tm tm) (s2 rfl rfl) <| cp (oLd t46 tm) (s1 rfl) <| cn (oAlloc (id := 11) (ls := [.d (kL (kI .i64)) [], .d (kL (kI .i64)) [], .d (kL (kI .i64)) []]) ze46 (fun g => ⟨[(.slice none 0 0)], _, rfl, zL g.H, ⟨[(.slice none 0 0)], _, rfl, zL g.H, ⟨[(.slice none 0 0)], _, rfl, zL g.H, rfl⟩⟩⟩)) trivial <| cwn (oStA (n := 0) (fs := f_api_Row) rfl rfl z46 tm tm) (s2 rfl rfl) <| .nil) (by kernel_rfl) (by kernel_rfl) (by kernel_rfl) ?_
          refine pSeq ?_
          refine wSeq ?_
          refine rgD hm (cp (oFld (fs := f_api_State) (k := 0) rfl o35_0 tm) (s1 rfl) <| cp (oFld (fs := f_api_Atom) (k := 1) rfl o30_1 tm) (s1 rfl) <| cp (oLd t3 tm) (s1 rfl) <| cp (oMv tm) (s1 rfl) <| cp (oNilP tm) (s1 rfl) <| cp (oFldP o92_7 tm) (s1 rfl) <| cp (oIdxA 0 0 rfl u90 z3 rfl tm (cI (by decide))) (s1 rfl) <| cr (oLdK (n := 1) (k := 21) rfl rfl (by kernel_rfl) t3 tm) (s1 rfl) <| cp (oMv tm) (s1 rfl) <| cp (oNilP tm) (s1 rfl) <| cp (oFldP o92_7 tm) (s1 rfl) <| cp (oIdxA 1 1 rfl u90 z3 rfl tm (cI (by decide))) (s1 rfl) <| cr (oLdK (n := 1) (k := 22) rfl rfl (by kernel_rfl) t3 tm) (s1 rfl) <| cp (oMv tm) (s1 rfl) <| cp (oNilP tm) (s1 rfl) <| cp (oFldP o92_7 tm) (s1 rfl) <| cp (oIdxA 2 2 rfl u90 z3 rfl tm (cI (by decide))) (s1 rfl) <| cr (oLdK (n := 1) (k := 23) rfl rfl (by kernel_rfl) t3 tm) (s1 rfl) <| cp (oLit (d := (kI .i64)) el44 (by decide) rfl rfl rfl (e1 tm (e1 tm (e1 tm (e1 tm e0))))) ⟨rfl, rfl, rfl, rfl, trivial⟩ <| cp (oAs tm) (s1 rfl) <| .nil) (by kernel_rfl) (by kernel_rfl) ?_
          refine pSeq ?_
          refine wSeq ?_
          refine wSeq ?_
          obtain ⟨y11, hy11, h⟩ := bd h
          refine rg (cp (oLd t25 tm) (s1 rfl) <| cp (oFldP o46_0 tm) (s1 rfl) <| cr (oLdB (n := 0) (k := 0) rfl rfl rfl t44 tm) (s1 rfl) <| cp (oMv tm) (s1 rfl) <| cp (oCall rfl (judge_Cond.ok hy11) b48 (opds_cons tm (opds_cons tm (opds_cons tm opds_nil)))) (s3 rfl rfl rfl) <| cp (oMv tm) (s1 rfl) <| cp (oExt (k := 0) rfl tm) (s1 rfl) <| cp (oExt (k := 1) rfl tm) (s1 rfl) <| cp (oAs tm) (s1 rfl) <| cp (oAs tm) (s1 rfl) <| .nil) (by kernel_rfl) ?_
          refine pSeq ?_
          refine wSeq ?_
          refine rg (cp (oMv tm) (s1 rfl) <| cp (oNot tm) (s1 rfl) <| .nil) (by kernel_rfl) ?_
          refine pSeq ?_
          rcases ic h with ⟨hp12, h⟩ | ⟨hp12, h⟩
          · refine wBT hp12 tm (s1 rfl) ?_
            refine wT0 ?_
            refine wTk 0 1 (cp (oMkX 2 cb86 (cI (by decide))) trivial <| .nil) (by kernel_rfl) rfl ?_
            refine wTx (Γp := [(6, .p 6 0), (7, .p 7 0)]) 1 rfl (oPanic tm) rfl rfl (s1 rfl) ⟨rfl, rfl, trivial⟩ ?_
            refine pThenP ?_
            obtain rfl := so h
            exact pDpan (n6 := 3) (n7 := 2) rfl rfl rfl (by kernel_rfl) (by kernel_rfl)
          · refine wBF hp12 tm (s1 rfl) ?_
            refine wSkip ?_
            refine pSeq ?_
            refine wSeq ?_
            obtain ⟨y13, hy13, h⟩ := bd h
            refine rg (cp (oLd t25 tm) (s1 rfl) <| cp (oFldP o46_1 tm) (s1 rfl) <| cr (oLdB (n := 0) (k := 1) rfl rfl rfl t44 tm) (s1 rfl) <| cp (oMv tm) (s1 rfl) <| cp (oCall rfl (judge_Label.ok hy13) b49 (opds_cons tm (opds_cons tm (opds_cons tm opds_nil)))) (s3 rfl rfl rfl) <| cp (oMv tm) (s1 rfl) <| cp (oExt (k := 0) rfl tm) (s1 rfl) <| cp (oExt (k := 1) rfl tm) (s1 rfl) <| cp (oAs tm) (s1 rfl) <| cp (oAs tm) (s1 rfl) <| .nil) (by kernel_rfl) ?_
            refine pSeq ?_
            refine wSeq ?_
            obtain ⟨y14, hy14, h⟩ := bd h
            refine rg (cp (oLd t25 tm) (s1 rfl) <| cp (oFldP o46_2 tm) (s1 rfl) <| cr (oLdB (n := 0) (k := 2) rfl rfl rfl t44 tm) (s1 rfl) <| cp (oMv tm) (s1 rfl) <| cp (oCall rfl (judge_Label.ok hy14) b49 (opds_cons tm (opds_cons tm (opds_cons tm opds_nil)))) (s3 rfl rfl rfl) <| cp (oMv tm) (s1 rfl) <| cp (oExt (k := 0) rfl tm) (s1 rfl) <| cp (oExt (k := 1) rfl tm) (s1 rfl) <| cp (oAs tm) (s1 rfl) <| cp (oAs tm) (s1 rfl) <| .nil) (by kernel_rfl) ?_
            refine pSeq ?_
            refine wSeq ?_
            obtain ⟨y15, hy15, h⟩ := bd h
            refine rg (cp (oMv tm) (s1 rfl) <| cp (oMv tm) (s1 rfl) <| cm (oCallS (rest := [.box 11 46 [.d (kL (kI .i64)) y10.May, .d (kL (kI .i64)) y10.Res, .d (kL (kI .i64)) y10.Pc], .box 7 3 [.d (kI .i64) 0], .box 6 35 [.d (kI .i64) 0, .d (kI .i64) 0, .d (kL (kR f_api_Instr)) [], .d (kL (kR f_api_Atom)) [], .d (kL (kR f_api_Slot)) [], .d (kL (kR f_api_Atom)) []]]) (R' := [.box 11 46 [.d (kL (kI .i64)) y10.May, .d (kL (kI .i64)) y10.Res, .d (kL (kI .i64)) y10.Pc], .box 47 92 [.d (kL kS) y15.l_.Names, .d (kL (kI .u32)) y15.l_.Up, .d (kI .i64) y15.s_.Pc.V, .d (kI .i64) y15.s_.Pc.L, .d (kL (kR f_api_Instr)) y15.s_.Code, .d (kL (kR f_api_Atom)) y15.s_.Mem, .d (kL (kR f_api_Slot)) y15.s_.Stack, .d (kL (kR f_api_Atom)) y15.s_.Out, .d (kI .i64) y15.x_.Op, .d (kI .i64) y15.x_.N, .d (kI .i64) y15.x_.L, .d kB y15.a_.Ret, .d (kI .i64) y15.a_.V, .d (kI .i64) y15.a_.L, .d kB y15.b_.Ret, .d (kI .i64) y15.b_.V, .d (kI .i64) y15.b_.L, .d kB y15.r_.Ret, .d (kI .i64) y15.r_.V, .d (kI .i64) y15.r_.L, .d (kI .i64) y15.below_, .d (kI .i64) y15.one_.x0_, .d (kI .i64) y15.one_.x1_, .d (kI .i64) y15.one_.x2_], .box 7 3 [.d (kI .i64) 0], .box 6 35 [.d (kI .i64) 0, .d (kI .i64) 0, .d (kL (kR f_api_Instr)) [], .d (kL (kR f_api_Atom)) [], .d (kL (kR f_api_Slot)) [], .d (kL (kR f_api_Atom)) []]]) (out' := .d (tup [])) [(70000, 47)] [] [1] [0, 2, 3] [1, 0, 2, 3] rfl (step_machine_does.ok hy15) b50 (oE1 tm (oE1 tm oE0)) rfl rfl rfl rfl rfl rfl rfl rfl) (s2 rfl rfl) <| .nil) (by kernel_rfl) ?_
            refine pSeq ?_
            refine wSeq ?_
            refine rg (cp (oMv tm) (s1 rfl) <| cp (oMv tm) (s1 rfl) <| cp (oNilP tm) (s1 rfl) <| cp (oFldP o92_1 tm) (s1 rfl) <| cp (oFldP o35_0 tm) (s1 rfl) <| cp (oFldP o30_1 tm) (s1 rfl) <| cwn (oStK (n := 1) (k := 3) rfl rfl rfl (by kernel_rfl) z3 tm tm) (s2 rfl rfl) <| .nil) (by kernel_rfl) ?_
            refine pSeq ?_
            refine wSeq ?_
            obtain ⟨y16, hy16, h⟩ := bd h
            obtain ⟨z17, hz17, h⟩ := bd h
            rcases z17 with p18 | y19
            · refine rgXD (Γp := [(6, .p 6 0), (7, .p 7 0)]) hm (cp (oLd t25 tm) (s1 rfl) <| cp (oMv tm) (s1 rfl) <| cp (oNilP tm) (s1 rfl) <| cp (oFldP o92_1 tm) (s1 rfl) <| cr (oLdPK (n := 1) (k := 2) (m := 6) (d := (kR f_api_State)) (u := (⟨⟨y15.s_.Pc.V, y14.1⟩, y15.s_.Code, y15.s_.Mem, y15.s_.Stack, y15.s_.Out⟩ : api_State)) (lfS (lfC (lfS (lfC lf1 (lfC lf1 lfN))) (lfC lf1 (lfC lf1 (lfC lf1 (lfC lf1 lfN)))))) rfl rfl (by kernel_rfl) t35 tm) (s1 rfl) <| cp (oCall rfl (state_Right.ok hy16) b13 (opds_cons tm (opds_cons tm opds_nil))) (s2 rfl rfl) <| cb (oCallX (rest := [.box 11 46 [.d (kL (kI .i64)) y10.May, .d (kL (kI .i64)) y10.Res, .d (kL (kI .i64)) y10.Pc], .box 47 92 [.d (kL kS) y15.l_.Names, .d (kL (kI .u32)) y15.l_.Up, .d (kI .i64) y15.s_.Pc.V, .d (kI .i64) y14.1, .d (kL (kR f_api_Instr)) y15.s_.Code, .d (kL (kR f_api_Atom)) y15.s_.Mem, .d (kL (kR f_api_Slot)) y15.s_.Stack, .d (kL (kR f_api_Atom)) y15.s_.Out, .d (kI .i64) y15.x_.Op, .d (kI .i64) y15.x_.N, .d (kI .i64) y15.x_.L, .d kB y15.a_.Ret, .d (kI .i64) y15.a_.V, .d (kI .i64) y15.a_.L, .d kB y15.b_.Ret, .d (kI .i64) y15.b_.V, .d (kI .i64) y15.b_.L, .d kB y15.r_.Ret, .d (kI .i64) y15.r_.V, .d (kI .i64) y15.r_.L, .d (kI .i64) y15.below_, .d (kI .i64) y15.one_.x0_, .d (kI .i64) y15.one_.x1_, .d (kI .i64) y15.one_.x2_], .box 7 3 [.d (kI .i64) 0], .box 6 35 [.d (kI .i64) 0, .d (kI .i64) 0, .d (kL (kR f_api_Instr)) [], .d (kL (kR f_api_Atom)) [], .d (kL (kR f_api_Slot)) [], .d (kL (kR f_api_Atom)) []]]) [] [] [0, 1, 2, 3] rfl (step_need.okP hz17) b45 (oE1 tm oE0) rfl rfl) (s1 rfl) <| .nil) (by kernel_rfl) (by kernel_rfl) ⟨rfl, rfl, trivial⟩ ?_
              refine pThenP ?_
              obtain rfl := so h
              exact pDpan (n6 := 3) (n7 := 2) rfl rfl rfl (by kernel_rfl) (by kernel_rfl)
            · refine rgD hm (cp (oLd t25 tm) (s1 rfl) <| cp (oMv tm) (s1 rfl) <| cp (oNilP tm) (s1 rfl) <| cp (oFldP o92_1 tm) (s1 rfl) <| cr (oLdPK (n := 1) (k := 2) (m := 6) (d := (kR f_api_State)) (u := (⟨⟨y15.s_.Pc.V, y14.1⟩, y15.s_.Code, y15.s_.Mem, y15.s_.Stack, y15.s_.Out⟩ : api_State)) (lfS (lfC (lfS (lfC lf1 (lfC lf1 lfN))) (lfC lf1 (lfC lf1 (lfC lf1 (lfC lf1 lfN)))))) rfl rfl (by kernel_rfl) t35 tm) (s1 rfl) <| cp (oCall rfl (state_Right.ok hy16) b13 (opds_cons tm (opds_cons tm opds_nil))) (s2 rfl rfl) <| cm (oCallS (rest := [.box 11 46 [.d (kL (kI .i64)) y10.May, .d (kL (kI .i64)) y10.Res, .d (kL (kI .i64)) y10.Pc], .box 47 92 [.d (kL kS) y15.l_.Names, .d (kL (kI .u32)) y15.l_.Up, .d (kI .i64) y15.s_.Pc.V, .d (kI .i64) y14.1, .d (kL (kR f_api_Instr)) y15.s_.Code, .d (kL (kR f_api_Atom)) y15.s_.Mem, .d (kL (kR f_api_Slot)) y15.s_.Stack, .d (kL (kR f_api_Atom)) y15.s_.Out, .d (kI .i64) y15.x_.Op, .d (kI .i64) y15.x_.N, .d (kI .i64) y15.x_.L, .d kB y15.a_.Ret, .d (kI .i64) y15.a_.V, .d (kI .i64) y15.a_.L, .d kB y15.b_.Ret, .d (kI .i64) y15.b_.V, .d (kI .i64) y15.b_.L, .d kB y15.r_.Ret, .d (kI .i64) y15.r_.V, .d (kI .i64) y15.r_.L, .d (kI .i64) y15.below_, .d (kI .i64) y15.one_.x0_, .d (kI .i64) y15.one_.x1_, .d (kI .i64) y15.one_.x2_], .box 7 3 [.d (kI .i64) 0], .box 6 35 [.d (kI .i64) 0, .d (kI .i64) 0, .d (kL (kR f_api_Instr)) [], .d (kL (kR f_api_Atom)) [], .d (kL (kR f_api_Slot)) [], .d (kL (kR f_api_Atom)) []]]) (R' := [.box 11 46 [.d (kL (kI .i64)) y10.May, .d (kL (kI .i64)) y10.Res, .d (kL (kI .i64)) y10.Pc], .box 47 92 [.d (kL kS) y15.l_.Names, .d (kL (kI .u32)) y15.l_.Up, .d (kI .i64) y15.s_.Pc.V, .d (kI .i64) y14.1, .d (kL (kR f_api_Instr)) y15.s_.Code, .d (kL (kR f_api_Atom)) y15.s_.Mem, .d (kL (kR f_api_Slot)) y15.s_.Stack, .d (kL (kR f_api_Atom)) y15.s_.Out, .d (kI .i64) y15.x_.Op, .d (kI .i64) y15.x_.N, .d (kI .i64) y15.x_.L, .d kB y15.a_.Ret, .d (kI .i64) y15.a_.V, .d (kI .i64) y15.a_.L, .d kB y15.b_.Ret, .d (kI .i64) y15.b_.V, .d (kI .i64) y15.b_.L, .d kB y15.r_.Ret, .d (kI .i64) y15.r_.V, .d (kI .i64) y15.r_.L, .d (kI .i64) y15.below_, .d (kI .i64) y15.one_.x0_, .d (kI .i64) y15.one_.x1_, .d (kI .i64) y15.one_.x2_], .box 7 3 [.d (kI .i64) 0], .box 6 35 [.d (kI .i64) 0, .d (kI .i64) 0, .d (kL (kR f_api_Instr)) [], .d (kL (kR f_api_Atom)) [], .d (kL (kR f_api_Slot)) [], .d (kL (kR f_api_Atom)) []]]) (out' := .d (tup [])) [] [] [] [0, 1, 2, 3] [0, 1, 2, 3] rfl (step_need.okR hz17) b45 (oE1 tm oE0) rfl rfl rfl rfl rfl rfl rfl rfl) (s1 rfl) <| .nil) (by kernel_rfl) (by kernel_rfl) ?_
              refine pSeq ?_
              refine wSeq ?_
              refine rg (cp (oMv tm) (s1 rfl) <| cp (oNilP tm) (s1 rfl) <| cp (oFldP o92_1 tm) (s1 rfl) <| cr (oLdPK (n := 1) (k := 2) (m := 6) (d := (kR f_api_State)) (u := (⟨⟨y15.s_.Pc.V, y14.1⟩, y15.s_.Code, y15.s_.Mem, y15.s_.Stack, y15.s_.Out⟩ : api_State)) (lfS (lfC (lfS (lfC lf1 (lfC lf1 lfN))) (lfC lf1 (lfC lf1 (lfC lf1 (lfC lf1 lfN)))))) rfl rfl (by kernel_rfl) t35 tm) (s1 rfl) <| cwn (oStP (n := 3) (k := 0) (m := 6) (d := (kR f_api_State)) (u := (⟨⟨y15.s_.Pc.V, y14.1⟩, y15.s_.Code, y15.s_.Mem, y15.s_.Stack, y15.s_.Out⟩ : api_State)) (lfS (lfC (lfS (lfC lf1 (lfC lf1 lfN))) (lfC lf1 (lfC lf1 (lfC lf1 (lfC lf1 lfN)))))) rfl rfl rfl z35 tm tm) (s2 rfl rfl) <| cwn (oSt (n := 2) (k := 0) rfl rfl rfl rfl z3 tm (cI (by decide))) (s1 rfl) <| .nil) (by kernel_rfl) ?_
              refine pSeq ?_
              refine wRet ?_
              obtain rfl := so h
              exact pDret (.inl rfl) (.boxP (n := 3) (d := (kR f_api_State)) (u := (⟨⟨y15.s_.Pc.V, y14.1⟩, y15.s_.Code, y15.s_.Mem, y15.s_.Stack, y15.s_.Out⟩ : api_State)) rfl rfl (lfS (lfC (lfS (lfC lf1 (lfC lf1 lfN))) (lfC lf1 (lfC lf1 (lfC lf1 (lfC lf1 lfN)))))) rfl t35 <| .boxV (n := 2) rfl rfl t3 <| .nil)

theorem step_One.ok {a0 : api_Lattice} {a1 : api_Table} {a2 : api_State} {r : api_State × Int × Int} (h : step_One.f a0 a1 a2 = some r) : FnA Tryd.prog 9 [(kR f_api_Lattice).sig a0, (kR f_api_Table).sig a1, (kR f_api_State).sig a2] (tup [(kR f_api_State).sig r.1, (kI .i64).sig r.2.1, (kI .i64).sig r.2.2]) := by
  refine fnIntro Tryd.func9 rfl (by kernel_rfl) fun H0 w0 => ?_
  unfold step_One.f at h
  refine wSeq ?_
  refine rg (cp (oBox tm) (s1 rfl) <| cp (oBox tm) (s1 rfl) <| cp (oBox tm) (s1 rfl) <| cw (oAlloc (id := 6) (ls := [.d (kI .i64) 0, .d (kI .i64) 0, .d (kL (kR f_api_Instr)) [], .d (kL (kR f_api_Atom)) [], .d (kL (kR f_api_Slot)) [], .d (kL (kR f_api_Atom)) []]) ze35 (fun g => ⟨[(.int .i64 0)], _, rfl, zI_i64 g.H, ⟨[(.int .i64 0)], _, rfl, zI_i64 g.H, ⟨[(.slice none 0 0)], _, rfl, zL g.H, ⟨[(.slice none 0 0)], _, rfl, zL g.H, ⟨[(.slice none 0 0)], _, rfl, zL g.H, ⟨[(.slice none 0 0)], _, rfl, zL g.H, rfl⟩⟩⟩⟩⟩⟩)) trivial <| cp (oAs (cI (by decide))) trivial <| cp (oAs (cI (by decide))) trivial <| .nil) (by kernel_rfl) ?_
  refine pSeq ?_
  refine wSeq ?_
  refine wSeq ?_
  obtain ⟨y1, hy1, h⟩ := bd h
  refine rg (cp (oLd t25 tm) (s1 rfl) <| cp (oCall rfl (lattice_Check.ok hy1) b22 (opds_cons tm opds_nil)) (s1 rfl) <| cp (oAs tm) (s1 rfl) <| .nil) (by kernel_rfl) ?_
  refine pSeq ?_
  refine wSeq ?_
  refine rg (cp (oMv tm) (s1 rfl) <| cp (oNe rfl tm (cI (by decide))) (s1 rfl) <| .nil) (by kernel_rfl) ?_
  refine pSeq ?_
  rcases ic h with ⟨hp2, h⟩ | ⟨hp2, h⟩
  · refine wNT hp2 tm (s1 rfl) ?_
    refine wSkip ?_
    refine pSeq ?_
    refine wSeq ?_
    refine wSeq ?_
    obtain ⟨y3, hy3, h⟩ := bd h
    refine rg (cp (oLd t28 tm) (s1 rfl) <| cp (oCall rfl (table_Check.ok hy3) b23 (opds_cons tm opds_nil)) (s1 rfl) <| cp (oMv tm) (s1 rfl) <| cp (oExt (k := 0) rfl tm) (s1 rfl) <| cp (oExt (k := 1) rfl tm) (s1 rfl) <| cp (oAs tm) (s1 rfl) <| cp (oAs tm) (s1 rfl) <| .nil) (by kernel_rfl) ?_
    refine pSeq ?_
    refine wSeq ?_
    refine rg (cp (oMv tm) (s1 rfl) <| cp (oNe rfl tm (cI (by decide))) (s1 rfl) <| .nil) (by kernel_rfl) ?_
    refine pSeq ?_
    rcases ic h with ⟨hp4, h⟩ | ⟨hp4, h⟩
    · refine wNT hp4 tm (s1 rfl) ?_
      refine wSkip ?_
      refine pSeq ?_
      refine wSeq ?_
      refine wSeq ?_
      obtain ⟨y5, hy5, h⟩ := bd h
      refine rg (cp (oLd t25 tm) (s1 rfl) <| cp (oLd t35 tm) (s1 rfl) <| cp (oCall rfl (state_Right.ok hy5) b13 (opds_cons tm (opds_cons tm opds_nil))) (s2 rfl rfl) <| cp (oNot tm) (s1 rfl) <| .nil) (by kernel_rfl) ?_
      refine pSeq ?_
      rcases ic h with ⟨hp6, h⟩ | ⟨hp6, h⟩
      · refine wBT hp6 tm (s1 rfl) ?_
        refine wSeq ?_
        refine rg (cp (oBuild (fs := f_api_State) (u := ⟨(⟨0, 0⟩ : api_Atom), [], [], [], []⟩) rfl ze35 pl35 po35 (.ze (zc := [(.int .i64 0), (.int .i64 0)]) zR_api_Atom (.ze (zc := [(.slice none 0 0)]) zL (.ze (zc := [(.slice none 0 0)]) zL (.ze (zc := [(.slice none 0 0)]) zL (.ze (zc := [(.slice none 0 0)]) zL .nil)))))) trivial <| cwn (oStP (n := 0) (k := 0) (m := 6) (d := (kR f_api_State)) (u := (⟨(⟨0, 0⟩ : api_Atom), [], [], [], []⟩ : api_State)) (lfS (lfC (lfS (lfC lf1 (lfC lf1 lfN))) (lfC lf1 (lfC lf1 (lfC lf1 (lfC lf1 lfN)))))) rfl rfl rfl z35 tm tm) (s2 rfl rfl) <| cp (oAs (cI (by decide))) trivial <| cp (oAs (cI (by decide))) trivial <| .nil) (by kernel_rfl) ?_
        refine pSeq ?_
        refine wRet ?_
        refine pThenR ?_
        obtain rfl := so h
        exact pRn (.inl rfl) rfl rfl (.boxP (n := 0) (d := (kR f_api_State)) (u := (⟨⟨0, 0⟩, [], [], [], []⟩ : api_State)) rfl rfl (lfS (lfC (lfS (lfC lf1 (lfC lf1 lfN))) (lfC lf1 (lfC lf1 (lfC lf1 (lfC lf1 lfN)))))) rfl t35 <| .tmp rfl <| .tmp rfl <| .nil)
      · refine wBF hp6 tm (s1 rfl) ?_
        refine wSkip ?_
        refine pSeq ?_
        refine wSeq ?_
        obtain ⟨y7, hy7, h⟩ := bd h
        refine rg (cp (oLd t25 tm) (s1 rfl) <| cp (oLd t28 tm) (s1 rfl) <| cp (oLd t35 tm) (s1 rfl) <| cp (oCall rfl (step_step.ok hy7) b24 (opds_cons tm (opds_cons tm (opds_cons tm opds_nil)))) (s3 rfl rfl rfl) <| cp (oMv tm) (s1 rfl) <| cp (oExt (k := 0) rfl tm) (s1 rfl) <| cp (oExt (k := 1) rfl tm) (s1 rfl) <| cw (oAlloc (id := 12) (ls := [.d (kI .i64) 0, .d (kI .i64) 0, .d (kL (kR f_api_Instr)) [], .d (kL (kR f_api_Atom)) [], .d (kL (kR f_api_Slot)) [], .d (kL (kR f_api_Atom)) []]) ze35 (fun g => ⟨[(.int .i64 0)], _, rfl, zI_i64 g.H, ⟨[(.int .i64 0)], _, rfl, zI_i64 g.H, ⟨[(.slice none 0 0)], _, rfl, zL g.H, ⟨[(.slice none 0 0)], _, rfl, zL g.H, ⟨[(.slice none 0 0)], _, rfl, zL g.H, ⟨[(.slice none 0 0)], _, rfl, zL g.H, rfl⟩⟩⟩⟩⟩⟩)) trivial <| cwn (oStP (n := 0) (k := 0) (m := 6) (d := (kR f_api_State)) (u := y7.1) (lfS (lfC (lfS (lfC lf1 (lfC lf1 lfN))) (lfC lf1 (lfC lf1 (lfC lf1 (lfC lf1 lfN)))))) rfl rfl rfl z35 tm tm) (s2 rfl rfl) <| cp (oAs tm) (s1 rfl) <| .nil) (by kernel_rfl) ?_
        refine pSeq ?_
        refine wSeq ?_
        refine rg (cr (oLdP (n := 0) (k := 0) (m := 6) (d := (kR f_api_State)) (u := y7.1) (lfS (lfC (lfS (lfC lf1 (lfC lf1 lfN))) (lfC lf1 (lfC lf1 (lfC lf1 (lfC lf1 lfN)))))) rfl rfl rfl t35 tm) (s1 rfl) <| cp (oMv tm) (s1 rfl) <| cwn (oStP (n := 1) (k := 0) (m := 6) (d := (kR f_api_State)) (u := y7.1) (lfS (lfC (lfS (lfC lf1 (lfC lf1 lfN))) (lfC lf1 (lfC lf1 (lfC lf1 (lfC lf1 lfN)))))) rfl rfl rfl z35 tm tm) (s2 rfl rfl) <| cp (oAs tm) (s1 rfl) <| cp (oAs (cI (by decide))) trivial <| .nil) (by kernel_rfl) ?_
        refine pSeq ?_
        refine wRet ?_
        obtain rfl := so h
        exact pRn (.inl rfl) rfl rfl (.boxP (n := 1) (d := (kR f_api_State)) (u := y7.1) rfl rfl (lfS (lfC (lfS (lfC lf1 (lfC lf1 lfN))) (lfC lf1 (lfC lf1 (lfC lf1 (lfC lf1 lfN)))))) rfl t35 <| .tmp rfl <| .tmp rfl <| .nil)
    · refine wNF hp4 tm (s1 rfl) ?_
      refine wSeq ?_
      refine rg (cp (oBuild (fs := f_api_State) (u := ⟨(⟨0, 0⟩ : api_Atom), [], [], [], []⟩) rfl ze35 pl35 po35 (.ze (zc := [(.int .i64 0), (.int .i64 0)]) zR_api_Atom (.ze (zc := [(.slice none 0 0)]) zL (.ze (zc := [(.slice none 0 0)]) zL (.ze (zc := [(.slice none 0 0)]) zL (.ze (zc := [(.slice none 0 0)]) zL .nil)))))) trivial <| cp (oMv tm) (s1 rfl) <| cwn (oStP (n := 0) (k := 0) (m := 6) (d := (kR f_api_State)) (u := (⟨(⟨0, 0⟩ : api_Atom), [], [], [], []⟩ : api_State)) (lfS (lfC (lfS (lfC lf1 (lfC lf1 lfN))) (lfC lf1 (lfC lf1 (lfC lf1 (lfC lf1 lfN)))))) rfl rfl rfl z35 tm tm) (s2 rfl rfl) <| cp (oAs (cI (by decide))) trivial <| cp (oAs tm) (s1 rfl) <| .nil) (by kernel_rfl) ?_
      refine pSeq ?_
      refine wRet ?_
      refine pThenR ?_
      obtain rfl := so h
      exact pRn (.inl rfl) rfl rfl (.boxP (n := 0) (d := (kR f_api_State)) (u := (⟨⟨0, 0⟩, [], [], [], []⟩ : api_State)) rfl rfl (lfS (lfC (lfS (lfC lf1 (lfC lf1 lfN))) (lfC lf1 (lfC lf1 (lfC lf1 (lfC lf1 lfN)))))) rfl t35 <| .tmp rfl <| .tmp rfl <| .nil)
  · refine wNF hp2 tm (s1 rfl) ?_
    refine wSeq ?_
    refine rg (cp (oBuild (fs := f_api_State) (u := ⟨(⟨0, 0⟩ : api_Atom), [], [], [], []⟩) rfl ze35 pl35 po35 (.ze (zc := [(.int .i64 0), (.int .i64 0)]) zR_api_Atom (.ze (zc := [(.slice none 0 0)]) zL (.ze (zc := [(.slice none 0 0)]) zL (.ze (zc := [(.slice none 0 0)]) zL (.ze (zc := [(.slice none 0 0)]) zL .nil)))))) trivial <| cp (oMv tm) (s1 rfl) <| cwn (oStP (n := 0) (k := 0) (m := 6) (d := (kR f_api_State)) (u := (⟨(⟨0, 0⟩ : api_Atom), [], [], [], []⟩ : api_State)) (lfS (lfC (lfS (lfC lf1 (lfC lf1 lfN))) (lfC lf1 (lfC lf1 (lfC lf1 (lfC lf1 lfN)))))) rfl rfl rfl z35 tm tm) (s2 rfl rfl) <| cp (oAs (cI (by decide))) trivial <| cp (oAs tm) (s1 rfl) <| .nil) (by kernel_rfl) ?_
    refine pSeq ?_
    refine wRet ?_
    refine pThenR ?_
    obtain rfl := so h
    exact pRn (.inl rfl) rfl rfl (.boxP (n := 0) (d := (kR f_api_State)) (u := (⟨⟨0, 0⟩, [], [], [], []⟩ : api_State)) rfl rfl (lfS (lfC (lfS (lfC lf1 (lfC lf1 lfN))) (lfC lf1 (lfC lf1 (lfC lf1 (lfC lf1 lfN)))))) rfl t35 <| .tmp rfl <| .tmp rfl <| .nil)

theorem run_may.ok {a0 : api_Lattice} {a1 : api_Table} {a2 : api_State} {a3 : Int} {r : Int} (h : run_may.f a0 a1 a2 a3 = some r) : FnA Tryd.prog 35 [(kR f_api_Lattice).sig a0, (kR f_api_Table).sig a1, (kR f_api_State).sig a2, (kI .i64).sig a3] ((kI .i64).sig r) := by
  refine fnIntro Tryd.func35 rfl (by kernel_rfl) fun H0 w0 => ?_
  unfold run_may.f at h
  refine wSeq ?_
  refine rg (cp (oBox tm) (s1 rfl) <| cp (oBox tm) (s1 rfl) <| cp (oBox tm) (s1 rfl) <| cp (oAs (cI (by decide))) trivial <| .nil) (by kernel_rfl) ?_
  refine pSeq ?_
  refine wSeq ?_
  refine wSeq ?_
  obtain ⟨y1, hy1, h⟩ := bd h
  refine rg (cp (oLd t25 tm) (s1 rfl) <| cp (oLd t28 tm) (s1 rfl) <| cp (oLd t35 tm) (s1 rfl) <| cp (oCall rfl (step_One.ok hy1) b9 (opds_cons tm (opds_cons tm (opds_cons tm opds_nil)))) (s3 rfl rfl rfl) <| cp (oMv tm) (s1 rfl) <| cp (oExt (k := 0) rfl tm) (s1 rfl) <| cp (oExt (k := 1) rfl tm) (s1 rfl) <| cp (oExt (k := 2) rfl tm) (s1 rfl) <| cw (oAlloc (id := 9) (ls := [.d (kI .i64) 0, .d (kI .i64) 0, .d (kL (kR f_api_Instr)) [], .d (kL (kR f_api_Atom)) [], .d (kL (kR f_api_Slot)) [], .d (kL (kR f_api_Atom)) []]) ze35 (fun g => ⟨[(.int .i64 0)], _, rfl, zI_i64 g.H, ⟨[(.int .i64 0)], _, rfl, zI_i64 g.H, ⟨[(.slice none 0 0)], _, rfl, zL g.H, ⟨[(.slice none 0 0)], _, rfl, zL g.H, ⟨[(.slice none 0 0)], _, rfl, zL g.H, ⟨[(.slice none 0 0)], _, rfl, zL g.H, rfl⟩⟩⟩⟩⟩⟩)) trivial <| cwn (oStP (n := 0) (k := 0) (m := 6) (d := (kR f_api_State)) (u := y1.1) (lfS (lfC (lfS (lfC lf1 (lfC lf1 lfN))) (lfC lf1 (lfC lf1 (lfC lf1 (lfC lf1 lfN)))))) rfl rfl rfl z35 tm tm) (s2 rfl rfl) <| cp (oAs tm) (s1 rfl) <| cp (oAs tm) (s1 rfl) <| .nil) (by kernel_rfl) ?_
  refine pSeq ?_
  refine wSeq ?_
  refine rg (cp (oMv tm) (s1 rfl) <| cp (oNe rfl tm (cI (by decide))) (s1 rfl) <| .nil) (by kernel_rfl) ?_
  refine pSeq ?_
  rcases ic h with ⟨hp2, h⟩ | ⟨hp2, h⟩
  · refine wNT hp2 tm (s1 rfl) ?_
    refine wSkip ?_
    refine pSeq ?_
    refine wSeq ?_
    obtain ⟨o1, h, hk1⟩ := bd h
    refine wJ1 (fun x4 => x4 = o1) (fun x4 => [(28, .d (kB.sig x4))]) (fun x4 => [.box 9 35 [.d (kI .i64) y1.1.Pc.V, .d (kI .i64) y1.1.Pc.L, .d (kL (kR f_api_Instr)) y1.1.Code, .d (kL (kR f_api_Atom)) y1.1.Mem, .d (kL (kR f_api_Slot)) y1.1.Stack, .d (kL (kR f_api_Atom)) y1.1.Out]]) ?_ ?_
    · rcases ic h with ⟨hp5, h⟩ | ⟨hp5, h⟩
      · refine rg (cp (oMv tm) (s1 rfl) <| cp (oLt rfl tm (cI (by decide))) (s1 rfl) <| cp (oMv tm) (s1 rfl) <| csB (decide_eq_true hp5) rfl rfl <| csB (decide_eq_true hp5) rfl rfl <| cp (oPkT (decide_eq_true hp5) tm cB) (s1 rfl) <| .nil) (by kernel_rfl) ?_
        exact pJ1 _ (so h) ⟨rfl, trivial⟩ rfl
      · refine rg (cp (oMv tm) (s1 rfl) <| cp (oLt rfl tm (cI (by decide))) (s1 rfl) <| cp (oMv tm) (s1 rfl) <| cgB (decide_eq_false hp5) rfl rfl (oMv tm) (s1 rfl) <| cgB (decide_eq_false hp5) rfl rfl (oGt rfl tm (cI (by decide))) (s1 rfl) <| cp (oPkF (decide_eq_false hp5) tm tm) (s2 rfl rfl) <| .nil) (by kernel_rfl) ?_
        exact pJ1 _ (so h) ⟨rfl, trivial⟩ rfl
    · rintro x4 rfl
      replace h := hk1
      rcases ic h with ⟨hp6, h⟩ | ⟨hp6, h⟩
      · refine wBT hp6 tm (s1 rfl) ?_
        refine wSeq ?_
        refine rg (cp (oAs (cI (by decide))) trivial <| .nil) (by kernel_rfl) ?_
        refine pSeq ?_
        refine wRet ?_
        refine pThenR ?_
        obtain rfl := so h
        exact pR1 (.inl rfl) rfl (.tmp rfl <| .nil)
      · refine wBF hp6 tm (s1 rfl) ?_
        refine wSkip ?_
        refine pSeq ?_
        refine wSeq ?_
        refine rg (cp (oAs (cI (by decide))) trivial <| .nil) (by kernel_rfl) ?_
        refine pSeq ?_
        refine wRet ?_
        obtain rfl := so h
        exact pR1 (.inl rfl) rfl (.tmp rfl <| .nil)
  · refine wNF hp2 tm (s1 rfl) ?_
    refine wSeq ?_
    refine rg (cp (oMv tm) (s1 rfl) <| cp (oAs tm) (s1 rfl) <| .nil) (by kernel_rfl) ?_
    refine pSeq ?_
    refine wRet ?_
    refine pThenR ?_
    obtain rfl := so h
    exact pR1 (.inl rfl) rfl (.tmp rfl <| .nil)

theorem run_states_1.ok {a1 : Int} {a2 : api_Lattice} {a3 : api_Table} {a4 : api_State} : FnYN Tryd.prog 56 (fun z => (kR f_api_State).sig z) (fun z => (kI .i64).sig z) [.d (sP (kI .i64) a1), .d (sP (kR f_api_Lattice) a2), .d (sP (kR f_api_Table) a3), .p 70400 0] [.box 70400 35 [.d (kI .i64) a4.Pc.V, .d (kI .i64) a4.Pc.L, .d (kL (kR f_api_Instr)) a4.Code, .d (kL (kR f_api_Atom)) a4.Mem, .d (kL (kR f_api_Slot)) a4.Stack, .d (kL (kR f_api_Atom)) a4.Out]] (fun {σ} a_y a_s => run_states_1.f a_y a_s a1 a2 a3 a4) := by
  refine fnIntroYN 7777 Tryd.func56 rfl (by kernel_rfl) rfl (fun σ A a_y a_s a_r h bs X H0 w0 => ?_)
  replace h : run_states_1.f a_y a_s a1 a2 a3 a4 = some a_r := h
  unfold run_states_1.f at h
  refine wSeq ?_
  refine wSeq ?_
  refine rg (cp (oLd t3 tm) (s1 rfl) <| cp (oMv (cI (by decide))) trivial <| .nil) (by kernel_rfl) ?_
  refine pSeq ?_
  obtain ⟨o1, h, hk1⟩ := bd h
  refine wK2 (fun x22 x23 => .inr (x22, x23) = o1) (fun x22 x23 => [(0, .d (sYield Tryd.prog A a_y (fun z => (kR f_api_State).sig z) (fun z => (kI .i64).sig z))), (4, .p 70400 0)]) (fun x22 x23 => [.abs 7777 A x23, .box 70400 35 [.d (kI .i64) x22.Pc.V, .d (kI .i64) x22.Pc.L, .d (kL (kR f_api_Instr)) x22.Code, .d (kL (kR f_api_Atom)) x22.Mem, .d (kL (kR f_api_Slot)) x22.Stack, .d (kL (kR f_api_Atom)) x22.Out]]) ?_ ?_
  · refine wBlock (wLoop ?_)
    refine lW (pc3 o1 (fun v19 v20 v21 => [(0, .d (sYield Tryd.prog A a_y (fun z => (kR f_api_State).sig z) (fun z => (kI .i64).sig z))), (2, .d (sP (kR f_api_Lattice) a2)), (3, .d (sP (kR f_api_Table) a3)), (4, .p 70400 0), (9, .d ((kI .i64).sig a1)), (10, .d ((kI .i64).sig v21))]) (fun v19 v20 v21 => [.abs 7777 A v20, .box 70400 35 [.d (kI .i64) v19.Pc.V, .d (kI .i64) v19.Pc.L, .d (kL (kR f_api_Instr)) v19.Code, .d (kL (kR f_api_Atom)) v19.Mem, .d (kL (kR f_api_Slot)) v19.Stack, .d (kL (kR f_api_Atom)) v19.Out]]) (run_states_1.l0.partial_correctness a_y a1 a2 a3) ?_ _ _ _ h) ⟨rfl, rfl, rfl, rfl, rfl, rfl, trivial⟩ rfl
    clear h
    intro f' ih v19 v20 v21 h
    refine wSeq ?_
    refine rg (cp (oLt rfl tm tm) (s2 rfl rfl) <| .nil) (by kernel_rfl) ?_
    refine pSeq ?_
    refine wSeq ?_
    rcases ic h with ⟨hp24, h⟩ | ⟨hp24, h⟩
    · refine wCT hp24 tm (s1 rfl) ?_
      refine wSkip ?_
      refine pSeq ?_
      refine wSeq ?_
      refine wBlock ?_
      refine wSeq ?_
      obtain ⟨y25, hy25, h⟩ := bd h
      refine rg (cp (oLd t25 tm) (s1 rfl) <| cp (oLd t28 tm) (s1 rfl) <| cr (oLdP (n := 1) (k := 0) (m := 6) (d := (kR f_api_State)) (u := v19) (lfS (lfC (lfS (lfC lf1 (lfC lf1 lfN))) (lfC lf1 (lfC lf1 (lfC lf1 (lfC lf1 lfN)))))) rfl rfl rfl t35 tm) (s1 rfl) <| cp (oCall rfl (step_One.ok hy25) b9 (opds_cons tm (opds_cons tm (opds_cons tm opds_nil)))) (s3 rfl rfl rfl) <| cp (oMv tm) (s1 rfl) <| cp (oExt (k := 0) rfl tm) (s1 rfl) <| cp (oExt (k := 1) rfl tm) (s1 rfl) <| cp (oExt (k := 2) rfl tm) (s1 rfl) <| cw (oAlloc (id := 6) (ls := [.d (kI .i64) 0, .d (kI .i64) 0, .d (kL (kR f_api_Instr)) [], .d (kL (kR f_api_Atom)) [], .d (kL (kR f_api_Slot)) [], .d (kL (kR f_api_Atom)) []]) ze35 (fun g => ⟨[(.int .i64 0)], _, rfl, zI_i64 g.H, ⟨[(.int .i64 0)], _, rfl, zI_i64 g.H, ⟨[(.slice none 0 0)], _, rfl, zL g.H, ⟨[(.slice none 0 0)], _, rfl, zL g.H, ⟨[(.slice none 0 0)], _, rfl, zL g.H, ⟨[(.slice none 0 0)], _, rfl, zL g.H, rfl⟩⟩⟩⟩⟩⟩)) trivial <| cwn (oStP (n := 0) (k := 0) (m := 6) (d := (kR f_api_State)) (u := y25.1) (lfS (lfC (lfS (lfC lf1 (lfC lf1 lfN))) (lfC lf1 (lfC lf1 (lfC lf1 (lfC lf1 lfN)))))) rfl rfl rfl z35 tm tm) (s2 rfl rfl) <| cp (oAs tm) (s1 rfl) <| cp (oAs tm) (s1 rfl) <| .nil) (by kernel_rfl) ?_
      refine pSeq ?_
      refine wSeq ?_
      obtain ⟨o2, h, hk2⟩ := bd h
      refine wJ2 (fun x28 x29 => (x28, x29) = o2) (fun x28 x29 => [(0, .d (sYield Tryd.prog A a_y (fun z => (kR f_api_State).sig z) (fun z => (kI .i64).sig z))), (2, .d (sP (kR f_api_Lattice) a2)), (3, .d (sP (kR f_api_Table) a3)), (4, .p 70400 0), (6, .p 6 0), (9, .d ((kI .i64).sig a1)), (10, .d ((kI .i64).sig v21)), (28, .d (kB.sig x29))]) (fun x28 x29 => [.box 6 35 [.d (kI .i64) y25.1.Pc.V, .d (kI .i64) y25.1.Pc.L, .d (kL (kR f_api_Instr)) y25.1.Code, .d (kL (kR f_api_Atom)) y25.1.Mem, .d (kL (kR f_api_Slot)) y25.1.Stack, .d (kL (kR f_api_Atom)) y25.1.Out], .abs 7777 A x28, .box 70400 35 [.d (kI .i64) v19.Pc.V, .d (kI .i64) v19.Pc.L, .d (kL (kR f_api_Instr)) v19.Code, .d (kL (kR f_api_Atom)) v19.Mem, .d (kL (kR f_api_Slot)) v19.Stack, .d (kL (kR f_api_Atom)) v19.Out]]) ?_ ?_
      · obtain ⟨y30, hy30, h⟩ := bd h
        rcases ic h with ⟨hp31, h⟩ | ⟨hp31, h⟩
        · refine rg (cp (oMv tm) (s1 rfl) <| cr (oLdP (n := 2) (k := 0) (m := 6) (d := (kR f_api_State)) (u := v19) (lfS (lfC (lfS (lfC lf1 (lfC lf1 lfN))) (lfC lf1 (lfC lf1 (lfC lf1 (lfC lf1 lfN)))))) rfl rfl rfl t35 tm) (s1 rfl) <| cp (oMv tm) (s1 rfl) <| cm (oYield (n := 1) (id' := 23) rfl hy30 tm tm tm) (s3 rfl rfl rfl) <| cp (oNot tm) (s1 rfl) <| cp (oMv tm) (s1 rfl) <| csB hp31 rfl rfl <| csB hp31 rfl rfl <| cp (oPkT hp31 tm cB) (s1 rfl) <| .nil) (by kernel_rfl) ?_
          refine pSub (Γ' := [(0, .d (sYield Tryd.prog A a_y (fun z => (kR f_api_State).sig z) (fun z => (kI .i64).sig z))), (2, .d (sP (kR f_api_Lattice) a2)), (3, .d (sP (kR f_api_Table) a3)), (4, .p 70400 0), (6, .p 6 0), (9, .d ((kI .i64).sig a1)), (10, .d ((kI .i64).sig v21)), (28, .d (kB.sig true))]) ⟨rfl, rfl, rfl, rfl, rfl, rfl, rfl, rfl, trivial⟩ ?_
          refine pRen 23 7777 rfl ?_
          exact pJ2 _ _ (so h) ⟨rfl, rfl, rfl, rfl, rfl, rfl, rfl, rfl, trivial⟩ rfl
        · refine rg (cp (oMv tm) (s1 rfl) <| cr (oLdP (n := 2) (k := 0) (m := 6) (d := (kR f_api_State)) (u := v19) (lfS (lfC (lfS (lfC lf1 (lfC lf1 lfN))) (lfC lf1 (lfC lf1 (lfC lf1 (lfC lf1 lfN)))))) rfl rfl rfl t35 tm) (s1 rfl) <| cp (oMv tm) (s1 rfl) <| cm (oYield (n := 1) (id' := 23) rfl hy30 tm tm tm) (s3 rfl rfl rfl) <| cp (oNot tm) (s1 rfl) <| cp (oMv tm) (s1 rfl) <| cgB (nb hp31) rfl rfl (oMv tm) (s1 rfl) <| cgB (nb hp31) rfl rfl (oNe rfl tm (cI (by decide))) (s1 rfl) <| cp (oPkF (nb hp31) tm tm) (s2 rfl rfl) <| .nil) (by kernel_rfl) ?_
          refine pSub (Γ' := [(0, .d (sYield Tryd.prog A a_y (fun z => (kR f_api_State).sig z) (fun z => (kI .i64).sig z))), (2, .d (sP (kR f_api_Lattice) a2)), (3, .d (sP (kR f_api_Table) a3)), (4, .p 70400 0), (6, .p 6 0), (9, .d ((kI .i64).sig a1)), (10, .d ((kI .i64).sig v21)), (28, .d (kB.sig (!decide (y25.2.1 = 0))))]) ⟨rfl, rfl, rfl, rfl, rfl, rfl, rfl, rfl, trivial⟩ ?_
          refine pRen 23 7777 rfl ?_
          exact pJ2 _ _ (so h) ⟨rfl, rfl, rfl, rfl, rfl, rfl, rfl, rfl, trivial⟩ rfl
      · rintro x28 x29 rfl
        replace h := hk2
        rcases ic h with ⟨hp32, h⟩ | ⟨hp32, h⟩
        · refine wBT hp32 tm (s1 rfl) ?_
          refine wRet ?_
          refine pThenR ?_
          refine pBlkR ?_
          refine pThenR ?_
          refine pThenR ?_
          refine pBlkR ?_
          refine pThenR ?_
          obtain rfl := so h
          replace h := hk1
          refine pThenR ?_
          obtain rfl := so h
          exact pRYN (n := 1) (.inl rfl) rfl rfl rfl
        · refine wBF hp32 tm (s1 rfl) ?_
          refine wSkip ?_
          refine pSeq ?_
          refine rg (cr (oLdP (n := 0) (k := 0) (m := 6) (d := (kR f_api_State)) (u := y25.1) (lfS (lfC (lfS (lfC lf1 (lfC lf1 lfN))) (lfC lf1 (lfC lf1 (lfC lf1 (lfC lf1 lfN)))))) rfl rfl rfl t35 tm) (s1 rfl) <| cwn (oStP (n := 2) (k := 0) (m := 6) (d := (kR f_api_State)) (u := y25.1) (lfS (lfC (lfS (lfC lf1 (lfC lf1 lfN))) (lfC lf1 (lfC lf1 (lfC lf1 (lfC lf1 lfN)))))) rfl rfl rfl z35 tm tm) (s2 rfl rfl) <| .nil) (by kernel_rfl) ?_
          refine pBlkN ?_
          refine pSeq ?_
          refine rg (cp (oAdd tm (cI (by decide))) (s1 rfl) <| cp (oMv tm) (s1 rfl) <| .nil) (by kernel_rfl) ?_
          refine pDrop (.cons _ (.cons_cons _ (.cons_cons _ .slnil))) ?_
          exact pLoop (lW (ih _ _ _ h) ⟨rfl, rfl, rfl, rfl, rfl, rfl, trivial⟩ rfl)
    · refine wCF hp24 tm (s1 rfl) ?_
      refine wExit ?_
      refine pThenX ?_
      refine pThenX ?_
      refine pBlkX ?_
      exact pJ2 _ _ (so h) ⟨rfl, rfl, trivial⟩ rfl
  · rintro x22 x23 rfl
    replace h := hk1
    refine pSeq ?_
    obtain ⟨y33, hy33, h⟩ := bd h
    refine rg (cp (oMv tm) (s1 rfl) <| cr (oLdP (n := 1) (k := 0) (m := 6) (d := (kR f_api_State)) (u := x22) (lfS (lfC (lfS (lfC lf1 (lfC lf1 lfN))) (lfC lf1 (lfC lf1 (lfC lf1 (lfC lf1 lfN)))))) rfl rfl rfl t35 tm) (s1 rfl) <| cm (oYield (n := 0) (id' := 33) rfl hy33 tm tm (cI (by decide))) (s2 rfl rfl) <| .nil) (by kernel_rfl) ?_
    obtain rfl := so h
    exact pRYN (n := 0) (.inr rfl) rfl rfl rfl

theorem run_states.ok {a0 : api_Lattice} {a1 : api_Table} {a2 : api_State} {a3 : Int} {r : Int × api_Lattice × api_Table × api_State} (h : run_states.f a0 a1 a2 a3 = some r) : FnS Tryd.prog 36 [.d ((kR f_api_Lattice).sig a0), .d ((kR f_api_Table).sig a1), .d ((kR f_api_State).sig a2), .d ((kI .i64).sig a3)] [] [] (.f [6] (sCloN 56 [some (sP (kI .i64) r.1), some (sP (kR f_api_Lattice) r.2.1), some (sP (kR f_api_Table) r.2.2.1), none])) [.box 6 35 [.d (kI .i64) r.2.2.2.Pc.V, .d (kI .i64) r.2.2.2.Pc.L, .d (kL (kR f_api_Instr)) r.2.2.2.Code, .d (kL (kR f_api_Atom)) r.2.2.2.Mem, .d (kL (kR f_api_Slot)) r.2.2.2.Stack, .d (kL (kR f_api_Atom)) r.2.2.2.Out]] := by
  refine fnIntroS Tryd.func36 rfl (by kernel_rfl) fun X H0 w0 pv => ?_
  unfold run_states.f at h
  refine wSeq ?_
  refine rg (cp (oBox tm) (s1 rfl) <| cp (oBox tm) (s1 rfl) <| cw (oBoxP (id := 6) (d := (kR f_api_State)) (ls := [.d (kI .i64) a2.Pc.V, .d (kI .i64) a2.Pc.L, .d (kL (kR f_api_Instr)) a2.Code, .d (kL (kR f_api_Atom)) a2.Mem, .d (kL (kR f_api_Slot)) a2.Stack, .d (kL (kR f_api_Atom)) a2.Out]) (lfS (lfC (lfS (lfC lf1 (lfC lf1 lfN))) (lfC lf1 (lfC lf1 (lfC lf1 (lfC lf1 lfN)))))) rfl tm) (s1 rfl) <| cp (oBox tm) (s1 rfl) <| cp (oAs cV) trivial <| .nil) (by kernel_rfl) ?_
  refine pSeq ?_
  refine wSeq ?_
  refine rg (cp (oMkN (ids := [6]) (caps := [some (sP (kI .i64) a3), some (sP (kR f_api_Lattice) a0), some (sP (kR f_api_Table) a1), none]) rfl (oNs tm (oNs tm (oNs tm (oNp tm oN0))))) ⟨rfl, rfl, rfl, rfl, trivial⟩ <| cp (oAs tm) (s1 rfl) <| .nil) (by kernel_rfl) ?_
  refine pSeq ?_
  refine wRet ?_
  obtain rfl := so h
  exact pSF [0] rfl rfl (.inl rfl) rfl rfl

theorem run_Run.ok {a0 : api_Lattice} {a1 : api_Table} {a2 : api_State} {a3 : Int} {r : (List api_State) × Int × Int} (h : run_Run.f a0 a1 a2 a3 = some r) : FnA Tryd.prog 19 [(kR f_api_Lattice).sig a0, (kR f_api_Table).sig a1, (kR f_api_State).sig a2, (kI .i64).sig a3] (tup [(kL (kR f_api_State)).sig r.1, (kI .i64).sig r.2.1, (kI .i64).sig r.2.2]) := by
  refine fnIntro Tryd.func19 rfl (by kernel_rfl) fun H0 w0 => ?_
  unfold run_Run.f at h
  refine wSeq ?_
  refine rg (cp (oBox tm) (s1 rfl) <| cp (oBox tm) (s1 rfl) <| cp (oBox tm) (s1 rfl) <| cp (oAs cV) trivial <| cp (oAs (cI (by decide))) trivial <| cp (oAs (cI (by decide))) trivial <| .nil) (by kernel_rfl) ?_
  refine pSeq ?_
  refine wSeq ?_
  refine wSeq ?_
  obtain ⟨y1, hy1, h⟩ := bd h
  refine rg (cp (oLd t25 tm) (s1 rfl) <| cp (oLd t28 tm) (s1 rfl) <| cp (oLd t35 tm) (s1 rfl) <| cp (oMv tm) (s1 rfl) <| cp (oCall rfl (run_may.ok hy1) b35 (opds_cons tm (opds_cons tm (opds_cons tm (opds_cons tm opds_nil))))) ⟨rfl, rfl, rfl, rfl, trivial⟩ <| cp (oAs tm) (s1 rfl) <| .nil) (by kernel_rfl) ?_
  refine pSeq ?_
  refine wSeq ?_
  refine rg (cp (oMv tm) (s1 rfl) <| cp (oNe rfl tm (cI (by decide))) (s1 rfl) <| .nil) (by kernel_rfl) ?_
  refine pSeq ?_
  rcases ic h with ⟨hp2, h⟩ | ⟨hp2, h⟩
  · refine wNT hp2 tm (s1 rfl) ?_
    refine wSkip ?_
    refine pSeq ?_
    refine wSeq ?_
    refine rg (cw (oAlloc (id := 12) (ls := [.d (kN api_State) []]) ze55 (fun g => ⟨[(.slice none 0 0)], _, rfl, zN g.H, rfl⟩)) trivial <| .nil) (by kernel_rfl) ?_
    refine pSeq ?_
    refine wSeq ?_
    refine rg (cw (oAlloc (id := 13) (ls := [.d (kI .i64) 0]) ze3 (fun g => ⟨[(.int .i64 0)], _, rfl, zI_i64 g.H, rfl⟩)) trivial <| cwn (oSt (n := 0) (k := 0) rfl rfl rfl rfl z3 tm (cI (by decide))) (s1 rfl) <| .nil) (by kernel_rfl) ?_
    refine pSeq ?_
    refine wSeq ?_
    refine wSeq ?_
    obtain ⟨y3, hy3, h⟩ := bd h
    refine rg (cp (oLd t25 tm) (s1 rfl) <| cp (oLd t28 tm) (s1 rfl) <| cp (oLd t35 tm) (s1 rfl) <| cp (oMv tm) (s1 rfl) <| cm (oCallS (rest := [.box 13 3 [.d (kI .i64) 0], .box 12 55 [.d (kN api_State) []]]) (R' := [.box 360160 35 [.d (kI .i64) y3.2.2.2.Pc.V, .d (kI .i64) y3.2.2.2.Pc.L, .d (kL (kR f_api_Instr)) y3.2.2.2.Code, .d (kL (kR f_api_Atom)) y3.2.2.2.Mem, .d (kL (kR f_api_Slot)) y3.2.2.2.Stack, .d (kL (kR f_api_Atom)) y3.2.2.2.Out], .box 13 3 [.d (kI .i64) 0], .box 12 55 [.d (kN api_State) []]]) (out' := .f [360160] (sCloN 56 [some (sP (kI .i64) y3.1), some (sP (kR f_api_Lattice) y3.2.1), some (sP (kR f_api_Table) y3.2.2.1), none])) [] [(6, 360160)] [] [0, 1] [0, 1, 2] rfl (run_states.ok hy3) b36 (oE1 tm (oE1 tm (oE1 tm (oE1 tm oE0)))) rfl rfl rfl rfl rfl rfl rfl rfl) ⟨rfl, rfl, rfl, rfl, trivial⟩ <| .nil) (by kernel_rfl) ?_
    refine pSeq ?_
    refine wBlock ?_
    refine wPick (R' := [.box 13 3 [.d (kI .i64) 0], .box 12 55 [.d (kN api_State) []], .box 360160 35 [.d (kI .i64) y3.2.2.2.Pc.V, .d (kI .i64) y3.2.2.2.Pc.L, .d (kL (kR f_api_Instr)) y3.2.2.2.Code, .d (kL (kR f_api_Atom)) y3.2.2.2.Mem, .d (kL (kR f_api_Slot)) y3.2.2.2.Stack, .d (kL (kR f_api_Atom)) y3.2.2.2.Out]]) [1, 2, 0] rfl rfl ?_
    refine wNilL (kR f_api_State) 35 5600 (n := 1) (k := 0) rfl rfl rfl ?_
    obtain ⟨y10, hy10, h⟩ := bd h
    refine wRangeN (Γ' := [(12, .p 12 0), (13, .p 13 0)]) (Γ2 := fun v7 v8 => [(12, .p 12 0), (13, .p 13 0), (14, .p 14 0), (15, .d ((kI .i64).sig v8))]) (caps := [some (sP (kI .i64) y3.1), some (sP (kR f_api_Lattice) y3.2.1), some (sP (kR f_api_Table) y3.2.2.1), none]) (kn := [70400]) (Rc := [.box 70400 35 [.d (kI .i64) y3.2.2.2.Pc.V, .d (kI .i64) y3.2.2.2.Pc.L, .d (kL (kR f_api_Instr)) y3.2.2.2.Code, .d (kL (kR f_api_Atom)) y3.2.2.2.Mem, .d (kL (kR f_api_Slot)) y3.2.2.2.Stack, .d (kL (kR f_api_Atom)) y3.2.2.2.Out]]) [(70400, 360160)] (fun (v6 : Int × (List api_State)) => [.row 5600 35 (kR f_api_State) v6.2, .box 13 3 [.d (kI .i64) v6.1], .box 12 55 [.v 5600]]) (fun (v6 : Int × (List api_State)) v7 v8 => [.box 14 35 [.d (kI .i64) v7.Pc.V, .d (kI .i64) v7.Pc.L, .d (kL (kR f_api_Instr)) v7.Code, .d (kL (kR f_api_Atom)) v7.Mem, .d (kL (kR f_api_Slot)) v7.Stack, .d (kL (kR f_api_Atom)) v7.Out], .row 5600 35 (kR f_api_State) v6.2, .box 13 3 [.d (kI .i64) v6.1], .box 12 55 [.v 5600]]) [] [12, 13] (run_Run.y0) (0, ([] : List api_State)) rfl (run_states_1.ok (a1 := y3.1) (a2 := y3.2.1) (a3 := y3.2.2.1) (a4 := y3.2.2.2)) rfl b56 hy10 rfl ⟨rfl, rfl, trivial⟩ rfl rfl rfl ?_ ?_ ?_
    · intro X H0 w0 l pv v6 v7 v8
      refine wSeq ?_
      refine rg (cw (oAlloc (id := 14) (ls := [.d (kI .i64) 0, .d (kI .i64) 0, .d (kL (kR f_api_Instr)) [], .d (kL (kR f_api_Atom)) [], .d (kL (kR f_api_Slot)) [], .d (kL (kR f_api_Atom)) []]) ze35 (fun g => ⟨[(.int .i64 0)], _, rfl, zI_i64 g.H, ⟨[(.int .i64 0)], _, rfl, zI_i64 g.H, ⟨[(.slice none 0 0)], _, rfl, zL g.H, ⟨[(.slice none 0 0)], _, rfl, zL g.H, ⟨[(.slice none 0 0)], _, rfl, zL g.H, ⟨[(.slice none 0 0)], _, rfl, zL g.H, rfl⟩⟩⟩⟩⟩⟩)) trivial <| cwn (oStP (n := 0) (k := 0) (m := 6) (d := (kR f_api_State)) (u := v7) (lfS (lfC (lfS (lfC lf1 (lfC lf1 lfN))) (lfC lf1 (lfC lf1 (lfC lf1 (lfC lf1 lfN)))))) rfl rfl rfl z35 tm tm) (s2 rfl rfl) <| .nil) (by kernel_rfl) ?_
      refine pSeq ?_
      refine rg (cp (oAs tm) (s1 rfl) <| .nil) (by kernel_rfl) ?_
      exact qA ⟨rfl, rfl, rfl, rfl, trivial⟩
    · intro X H0 w0 l pv v6 v7 v8 o h
      unfold run_Run.y0 at h
      refine wBlock ?_
      obtain ⟨hc9, h⟩ := ib h
      refine rg (cr (oLdN (n := 3) (k := 0) rfl rfl rfl t55 tm) (s1 rfl) <| cr (oLdP (n := 0) (k := 0) (m := 6) (d := (kR f_api_State)) (u := v7) (lfS (lfC (lfS (lfC lf1 (lfC lf1 lfN))) (lfC lf1 (lfC lf1 (lfC lf1 (lfC lf1 lfN)))))) rfl rfl rfl t35 tm) (s1 rfl) <| cp (oLit (d := (kR f_api_State)) el55 (by decide) rfl rfl rfl (e1 tm e0)) (s1 rfl) <| cw (oApp (n := 1) (id' := 34) el55 (by decide) rfl (by decide) hc9 tm tm) (s2 rfl rfl) <| cp (oMv tm) (s1 rfl) <| cwn (oStN (n := 3) (m := 1) (k := 0) rfl rfl rfl rfl z55 rfl tm tm) (s2 rfl rfl) <| cwn (oSt (n := 2) (k := 0) rfl rfl rfl rfl z3 tm tm) (s2 rfl rfl) <| .nil) (by kernel_rfl) ?_
      refine pBlkN ?_
      refine pDrop (.cons _ (.cons_cons _ (.cons_cons _ (.cons_cons _ .slnil)))) ?_
      refine pSub (Γ' := []) trivial ?_
      refine pRen 34 5600 rfl ?_
      obtain rfl := so h
      exact qN
    · rcases ic h with ⟨hj10, h⟩ | ⟨hj10, h⟩
      · refine jp0 hj10 ?_
        refine pBlkN ?_
        refine pSeq ?_
        refine wSeq ?_
        refine rgD hm (cr (oLdN (n := 2) (k := 0) rfl rfl rfl t55 tm) (s1 rfl) <| cr (oLdB (n := 1) (k := 0) rfl rfl rfl t3 tm) (s1 rfl) <| cp (oAs tm) (s1 rfl) <| cp (oAs tm) (s1 rfl) <| cp (oAs (cI (by decide))) trivial <| .nil) (by kernel_rfl) (by kernel_rfl) ?_
        refine pSeq ?_
        refine wFrzR (n := 0) (id := 5600) [8] rfl rfl ⟨rfl, trivial⟩ ?_
        refine wRet ?_
        obtain rfl := so h
        exact pRn (.inl rfl) rfl rfl (.tmp rfl <| .tmp rfl <| .tmp rfl <| .nil)
      · cases h
  · refine wNF hp2 tm (s1 rfl) ?_
    refine wSeq ?_
    refine rg (cp (oMv tm) (s1 rfl) <| cp (oAs cV) trivial <| cp (oAs (cI (by decide))) trivial <| cp (oAs tm) (s1 rfl) <| .nil) (by kernel_rfl) ?_
    refine pSeq ?_
    refine wNil (kR f_api_State) 35 9008 8 rfl rfl ?_
    refine wFrzR (n := 0) (id := 9008) [8] rfl rfl ⟨rfl, trivial⟩ ?_
    refine wRet ?_
    refine pThenR ?_
    obtain rfl := so h
    exact pRn (.inl rfl) rfl rfl (.tmp rfl <| .tmp rfl <| .tmp rfl <| .nil)

theorem table_Usual.ok {r : api_Table} (h : table_Usual.f = some r) : FnA Tryd.prog 25 [] ((kR f_api_Table).sig r) := by
  refine fnIntro Tryd.func25 rfl (by kernel_rfl) fun H0 w0 => ?_
  unfold table_Usual.f at h
  refine wSeq ?_
  refine rg (cw (oAlloc (id := 0) (ls := [.d (kL (kR f_api_Row)) []]) ze28 (fun g => ⟨[(.slice none 0 0)], _, rfl, zL g.H, rfl⟩)) trivial <| .nil) (by kernel_rfl) ?_
  refine pSeq ?_
  refine wSeq ?_
  refine rg (cp (oLit (d := (kI .i64)) el44 (by decide) rfl rfl rfl (e1 (cI (by decide)) e0)) trivial <| cp (oLit (d := (kI .i64)) el44 (by decide) rfl rfl rfl (e1 (cI (by decide)) e0)) trivial <| cp (oLit (d := (kI .i64)) el44 (by decide) rfl rfl rfl (e1 (cI (by decide)) e0)) trivial <| cp (oAs tm) (s1 rfl) <| cp (oAs tm) (s1 rfl) <| cp (oAs tm) (s1 rfl) <| .nil) (by kernel_rfl) ?_
  refine pSeq ?_
  refine wSeq ?_
  refine rg (cp (oLit (d := (kI .i64)) el44 (by decide) rfl rfl rfl (e1 (cI (by decide)) (e1 (cI (by decide)) (e1 (cI (by decide)) e0)))) trivial <| cp (oAs tm) (s1 rfl) <| .nil) (by kernel_rfl) ?_
  refine pSeq ?_
  refine wSeq ?_
  refine rg (cp (oLit (d := (kI .i64)) el44 (by decide) rfl rfl rfl (e1 (cI (by decide)) (e1 (cI (by decide)) (e1 (cI (by decide)) e0)))) trivial <| cp (oAs tm) (s1 rfl) <| .nil) (by kernel_rfl) ?_
  refine pSeq ?_
  refine wSeq ?_
  refine rg (cp (oMv tm) (s1 rfl) <| cp (oMv tm) (s1 rfl) <| cp (oMv tm) (s1 rfl) <| cp (oBuild (fs := f_api_Row) (u := ⟨([1] : List Int), ([6] : List Int), ([8] : List Int)⟩) rfl ze46 pl46 po46 (.op (zc := [(.slice none 0 0)]) tm rfl (.op (zc := [(.slice none 0 0)]) tm rfl (.op (zc := [(.slice none 0 0)]) tm rfl .nil)))) (s3 rfl rfl rfl) <| cw (oAlloc (id := 6) (ls := [.d (kL (kI .i64)) [], .d (kL (kI .i64)) [], .d (kL (kI .i64)) []]) ze46 (fun g => ⟨[(.slice none 0 0)], _, rfl, zL g.H, ⟨[(.slice none 0 0)], _, rfl, zL g.H, ⟨[(.slice none 0 0)], _, rfl, zL g.H, rfl⟩⟩⟩)) trivial <| cwn (oStA (n := 0) (fs := f_api_Row) rfl rfl z46 tm tm) (s2 rfl rfl) <| .nil) (by kernel_rfl) ?_
  refine pSeq ?_
  refine wSeq ?_
  refine rg (cp (oMv tm) (s1 rfl) <| cp (oMv tm) (s1 rfl) <| cp (oMv tm) (s1 rfl) <| cp (oBuild (fs := f_api_Row) (u := ⟨([1] : List Int), ([9, 10, 12] : List Int), ([8] : List Int)⟩) rfl ze46 pl46 po46 (.op (zc := [(.slice none 0 0)]) tm rfl (.op (zc := [(.slice none 0 0)]) tm rfl (.op (zc := [(.slice none 0 0)]) tm rfl .nil)))) (s3 rfl rfl rfl) <| cw (oAlloc (id := 7) (ls := [.d (kL (kI .i64)) [], .d (kL (kI .i64)) [], .d (kL (kI .i64)) []]) ze46 (fun g => ⟨[(.slice none 0 0)], _, rfl, zL g.H, ⟨[(.slice none 0 0)], _, rfl, zL g.H, ⟨[(.slice none 0 0)], _, rfl, zL g.H, rfl⟩⟩⟩)) trivial <| cwn (oStA (n := 0) (fs := f_api_Row) rfl rfl z46 tm tm) (s2 rfl rfl) <| .nil) (by kernel_rfl) ?_
  refine pSeq ?_
  refine wSeq ?_
  refine rg (cp (oMv tm) (s1 rfl) <| cp (oMv tm) (s1 rfl) <| cp (oMv tm) (s1 rfl) <| cp (oBuild (fs := f_api_Row) (u := ⟨([1] : List Int), ([6] : List Int), ([9, 8, 12] : List Int)⟩) rfl ze46 pl46 po46 (.op (zc := [(.slice none 0 0)]) tm rfl (.op (zc := [(.slice none 0 0)]) tm rfl (.op (zc := [(.slice none 0 0)]) tm rfl .nil)))) (s3 rfl rfl rfl) <| cw (oAlloc (id := 8) (ls := [.d (kL (kI .i64)) [], .d (kL (kI .i64)) [], .d (kL (kI .i64)) []]) ze46 (fun g => ⟨[(.slice none 0 0)], _, rfl, zL g.H, ⟨[(.slice none 0 0)], _, rfl, zL g.H, ⟨[(.slice none 0 0)], _, rfl, zL g.H, rfl⟩⟩⟩)) trivial <| cwn (oStA (n := 0) (fs := f_api_Row) rfl rfl z46 tm tm) (s2 rfl rfl) <| .nil) (by kernel_rfl) ?_
  refine pSeq ?_
  refine wSeq ?_
  refine rg (cr (oLdA (n := 2) (fs := f_api_Row) (u := ⟨([1] : List Int), ([6] : List Int), ([8] : List Int)⟩) rfl ⟨rfl, rfl, rfl, trivial⟩ t46 tm) (s1 rfl) <| cp (oMv tm) (s1 rfl) <| cp (oLit (d := (kI .i64)) el44 (by decide) rfl rfl rfl (e1 (cI (by decide)) e0)) trivial <| cp (oMv tm) (s1 rfl) <| cp (oBuild (fs := f_api_Row) (u := ⟨([1] : List Int), ([9] : List Int), ([8] : List Int)⟩) rfl ze46 pl46 po46 (.op (zc := [(.slice none 0 0)]) tm rfl (.op (zc := [(.slice none 0 0)]) tm rfl (.op (zc := [(.slice none 0 0)]) tm rfl .nil)))) (s3 rfl rfl rfl) <| cr (oLdA (n := 2) (fs := f_api_Row) (u := ⟨([1] : List Int), ([6] : List Int), ([8] : List Int)⟩) rfl ⟨rfl, rfl, rfl, trivial⟩ t46 tm) (s1 rfl) <| cr (oLdA (n := 1) (fs := f_api_Row) (u := ⟨([1] : List Int), ([9, 10, 12] : List Int), ([8] : List Int)⟩) rfl ⟨rfl, rfl, rfl, trivial⟩ t46 tm) (s1 rfl) <| cr (oLdA (n := 1) (fs := f_api_Row) (u := ⟨([1] : List Int), ([9, 10, 12] : List Int), ([8] : List Int)⟩) rfl ⟨rfl, rfl, rfl, trivial⟩ t46 tm) (s1 rfl) <| cr (oLdA (n := 1) (fs := f_api_Row) (u := ⟨([1] : List Int), ([9, 10, 12] : List Int), ([8] : List Int)⟩) rfl ⟨rfl, rfl, rfl, trivial⟩ t46 tm) (s1 rfl) <| cp (oLit (d := (kI .i64)) el44 (by decide) rfl rfl rfl (e1 (cI (by decide)) (e1 (cI (by decide)) (e1 (cI (by decide)) (e1 (cI (by decide)) (e1 (cI (by decide)) e0)))))) trivial <| cp (oLit (d := (kI .i64)) el44 (by decide) rfl rfl rfl (e1 (cI (by decide)) (e1 (cI (by decide)) (e1 (cI (by decide)) (e1 (cI (by decide)) (e1 (cI (by decide)) e0)))))) trivial <| cp (oMv tm) (s1 rfl) <| cp (oBuild (fs := f_api_Row) (u := ⟨([9, 8, 12, 11, 5] : List Int), ([9, 10, 12, 8, 12] : List Int), ([8] : List Int)⟩) rfl ze46 pl46 po46 (.op (zc := [(.slice none 0 0)]) tm rfl (.op (zc := [(.slice none 0 0)]) tm rfl (.op (zc := [(.slice none 0 0)]) tm rfl .nil)))) (s3 rfl rfl rfl) <| cr (oLdA (n := 0) (fs := f_api_Row) (u := ⟨([1] : List Int), ([6] : List Int), ([9, 8, 12] : List Int)⟩) rfl ⟨rfl, rfl, rfl, trivial⟩ t46 tm) (s1 rfl) <| cr (oLdA (n := 0) (fs := f_api_Row) (u := ⟨([1] : List Int), ([6] : List Int), ([9, 8, 12] : List Int)⟩) rfl ⟨rfl, rfl, rfl, trivial⟩ t46 tm) (s1 rfl) <| cr (oLdA (n := 0) (fs := f_api_Row) (u := ⟨([1] : List Int), ([6] : List Int), ([9, 8, 12] : List Int)⟩) rfl ⟨rfl, rfl, rfl, trivial⟩ t46 tm) (s1 rfl) <| cp (oMv tm) (s1 rfl) <| cp (oMv tm) (s1 rfl) <| cp (oLit (d := (kI .i64)) el44 (by decide) rfl rfl rfl (e1 (cI (by decide)) e0)) trivial <| cp (oBuild (fs := f_api_Row) (u := ⟨([1] : List Int), ([9, 8, 12] : List Int), ([10] : List Int)⟩) rfl ze46 pl46 po46 (.op (zc := [(.slice none 0 0)]) tm rfl (.op (zc := [(.slice none 0 0)]) tm rfl (.op (zc := [(.slice none 0 0)]) tm rfl .nil)))) (s3 rfl rfl rfl) <| cp (oMv tm) (s1 rfl) <| cp (oMv tm) (s1 rfl) <| cp (oMv tm) (s1 rfl) <| cp (oBuild (fs := f_api_Row) (u := ⟨([1] : List Int), ([9, 8, 12] : List Int), ([8] : List Int)⟩) rfl ze46 pl46 po46 (.op (zc := [(.slice none 0 0)]) tm rfl (.op (zc := [(.slice none 0 0)]) tm rfl (.op (zc := [(.slice none 0 0)]) tm rfl .nil)))) (s3 rfl rfl rfl) <| cr (oLdA (n := 2) (fs := f_api_Row) (u := ⟨([1] : List Int), ([6] : List Int), ([8] : List Int)⟩) rfl ⟨rfl, rfl, rfl, trivial⟩ t46 tm) (s1 rfl) <| cp (oLit (d := (kR f_api_Row)) el26 (by decide) rfl rfl rfl (e1 tm (e1 tm (e1 tm (e1 tm (e1 tm (e1 tm (e1 tm (e1 tm (e1 tm (e1 tm (e1 tm (e1 tm (e1 tm e0)))))))))))))) ⟨rfl, rfl, rfl, rfl, rfl, rfl, rfl, rfl, rfl, rfl, rfl, rfl, rfl, trivial⟩ <| cp (oBuild (fs := f_api_Table) (u := ⟨([(⟨([1] : List Int), ([6] : List Int), ([8] : List Int)⟩ : api_Row), (⟨([1] : List Int), ([9] : List Int), ([8] : List Int)⟩ : api_Row), (⟨([1] : List Int), ([6] : List Int), ([8] : List Int)⟩ : api_Row), (⟨([1] : List Int), ([9, 10, 12] : List Int), ([8] : List Int)⟩ : api_Row), (⟨([1] : List Int), ([9, 10, 12] : List Int), ([8] : List Int)⟩ : api_Row), (⟨([1] : List Int), ([9, 10, 12] : List Int), ([8] : List Int)⟩ : api_Row), (⟨([9, 8, 12, 11, 5] : List Int), ([9, 10, 12, 8, 12] : List Int), ([8] : List Int)⟩ : api_Row), (⟨([1] : List Int), ([6] : List Int), ([9, 8, 12] : List Int)⟩ : api_Row), (⟨([1] : List Int), ([6] : List Int), ([9, 8, 12] : List Int)⟩ : api_Row), (⟨([1] : List Int), ([6] : List Int), ([9, 8, 12] : List Int)⟩ : api_Row), (⟨([1] : List Int), ([9, 8, 12] : List Int), ([10] : List Int)⟩ : api_Row), (⟨([1] : List Int), ([9, 8, 12] : List Int), ([8] : List Int)⟩ : api_Row), (⟨([1] : List Int), ([6] : List Int), ([8] : List Int)⟩ : api_Row)] : List api_Row)⟩) rfl ze28 pl28 po28 (.op (zc := [(.slice none 0 0)]) tm rfl .nil)) (s1 rfl) <| cwn (oStA (n := 3) (fs := f_api_Table) rfl rfl z28 tm tm) (s2 rfl rfl) <| .nil) (by kernel_rfl) ?_
  refine pSeq ?_
  refine wRet ?_
  obtain rfl := so h
  exact pR1 (.inl rfl) rfl (.box (n := 3) (fs := f_api_Table) (u := ⟨([(⟨([1] : List Int), ([6] : List Int), ([8] : List Int)⟩ : api_Row), (⟨([1] : List Int), ([9] : List Int), ([8] : List Int)⟩ : api_Row), (⟨([1] : List Int), ([6] : List Int), ([8] : List Int)⟩ : api_Row), (⟨([1] : List Int), ([9, 10, 12] : List Int), ([8] : List Int)⟩ : api_Row), (⟨([1] : List Int), ([9, 10, 12] : List Int), ([8] : List Int)⟩ : api_Row), (⟨([1] : List Int), ([9, 10, 12] : List Int), ([8] : List Int)⟩ : api_Row), (⟨([9, 8, 12, 11, 5] : List Int), ([9, 10, 12, 8, 12] : List Int), ([8] : List Int)⟩ : api_Row), (⟨([1] : List Int), ([6] : List Int), ([9, 8, 12] : List Int)⟩ : api_Row), (⟨([1] : List Int), ([6] : List Int), ([9, 8, 12] : List Int)⟩ : api_Row), (⟨([1] : List Int), ([6] : List Int), ([9, 8, 12] : List Int)⟩ : api_Row), (⟨([1] : List Int), ([9, 8, 12] : List Int), ([10] : List Int)⟩ : api_Row), (⟨([1] : List Int), ([9, 8, 12] : List Int), ([8] : List Int)⟩ : api_Row), (⟨([1] : List Int), ([6] : List Int), ([8] : List Int)⟩ : api_Row)] : List api_Row)⟩) rfl rfl ⟨rfl, trivial⟩ t28 <| .nil)

theorem reticentlaw11_alive.ok {r : Bool} (h : reticentlaw11_alive.f = some r) : FnA Tryd.prog 20 [] (kB.sig r) := by
  refine fnIntro Tryd.func20 rfl (by kernel_rfl) fun H0 w0 => ?_
  unfold reticentlaw11_alive.f at h
  refine wSeq ?_
  refine rg (cp (oAs cB) trivial <| .nil) (by kernel_rfl) ?_
  refine pSeq ?_
  refine wSeq ?_
  refine rg (cp (oLit (d := kS) el22 (by decide) rfl rfl rfl (e1 (cS (by decide)) (e1 (cS (by decide)) e0))) trivial <| cp (oLit (d := (kI .u32)) el23 (by decide) rfl rfl rfl (e1 (cI (by decide)) (e1 (cI (by decide)) e0))) trivial <| cp (oBuild (fs := f_api_Lattice) (u := ⟨([([97] : Str), ([98] : Str)] : List Str), ([3, 2] : List Int)⟩) rfl ze25 pl25 po25 (.op (zc := [(.slice none 0 0)]) tm rfl (.op (zc := [(.slice none 0 0)]) tm rfl .nil))) (s2 rfl rfl) <| cw (oAlloc (id := 1) (ls := [.d (kL kS) [], .d (kL (kI .u32)) []]) ze25 (fun g => ⟨[(.slice none 0 0)], _, rfl, zL g.H, ⟨[(.slice none 0 0)], _, rfl, zL g.H, rfl⟩⟩)) trivial <| cwn (oStA (n := 0) (fs := f_api_Lattice) rfl rfl z25 tm tm) (s2 rfl rfl) <| .nil) (by kernel_rfl) ?_
  refine pSeq ?_
  refine wSeq ?_
  refine rg (cp (oBuild (fs := f_api_Instr) (u := ⟨1, 1, 0⟩) rfl ze48 pl48 po48 (.op (zc := [(.int .i64 0)]) (cI (by decide)) rfl (.op (zc := [(.int .i64 0)]) (cI (by decide)) rfl (.ze (zc := [(.int .i64 0)]) zI_i64 .nil)))) trivial <| cp (oBuild (fs := f_api_Instr) (u := ⟨1, 2, 0⟩) rfl ze48 pl48 po48 (.op (zc := [(.int .i64 0)]) (cI (by decide)) rfl (.op (zc := [(.int .i64 0)]) (cI (by decide)) rfl (.ze (zc := [(.int .i64 0)]) zI_i64 .nil)))) trivial <| cp (oBuild (fs := f_api_Instr) (u := ⟨12, 0, 0⟩) rfl ze48 pl48 po48 (.op (zc := [(.int .i64 0)]) (cI (by decide)) rfl (.ze (zc := [(.int .i64 0)]) zI_i64 (.ze (zc := [(.int .i64 0)]) zI_i64 .nil)))) trivial <| cp (oLit (d := (kR f_api_Instr)) el31 (by decide) rfl rfl rfl (e1 tm (e1 tm (e1 tm e0)))) (s3 rfl rfl rfl) <| cp (oBuild (fs := f_api_State) (u := ⟨(⟨0, 0⟩ : api_Atom), ([(⟨1, 1, 0⟩ : api_Instr), (⟨1, 2, 0⟩ : api_Instr), (⟨12, 0, 0⟩ : api_Instr)] : List api_Instr), [], [], []⟩) rfl ze35 pl35 po35 (.ze (zc := [(.int .i64 0), (.int .i64 0)]) zR_api_Atom (.op (zc := [(.slice none 0 0)]) tm rfl (.ze (zc := [(.slice none 0 0)]) zL (.ze (zc := [(.slice none 0 0)]) zL (.ze (zc := [(.slice none 0 0)]) zL .nil)))))) (s1 rfl) <| cw (oAlloc (id := 2) (ls := [.d (kI .i64) 0, .d (kI .i64) 0, .d (kL (kR f_api_Instr)) [], .d (kL (kR f_api_Atom)) [], .d (kL (kR f_api_Slot)) [], .d (kL (kR f_api_Atom)) []]) ze35 (fun g => ⟨[(.int .i64 0)], _, rfl, zI_i64 g.H, ⟨[(.int .i64 0)], _, rfl, zI_i64 g.H, ⟨[(.slice none 0 0)], _, rfl, zL g.H, ⟨[(.slice none 0 0)], _, rfl, zL g.H, ⟨[(.slice none 0 0)], _, rfl, zL g.H, ⟨[(.slice none 0 0)], _, rfl, zL g.H, rfl⟩⟩⟩⟩⟩⟩)) trivial <| cwn (oStP (n := 0) (k := 0) (m := 6) (d := (kR f_api_State)) (u := (⟨(⟨0, 0⟩ : api_Atom), ([(⟨1, 1, 0⟩ : api_Instr), (⟨1, 2, 0⟩ : api_Instr), (⟨12, 0, 0⟩ : api_Instr)] : List api_Instr), [], [], []⟩ : api_State)) (lfS (lfC (lfS (lfC lf1 (lfC lf1 lfN))) (lfC lf1 (lfC lf1 (lfC lf1 (lfC lf1 lfN)))))) rfl rfl rfl z35 tm tm) (s2 rfl rfl) <| .nil) (by kernel_rfl) ?_
  refine pSeq ?_
  refine wSeq ?_
  obtain ⟨y1, hy1, h⟩ := bd h
  obtain ⟨y2, hy2, h⟩ := bd h
  refine rgD hm (cr (oLdA (n := 1) (fs := f_api_Lattice) (u := ⟨([([97] : Str), ([98] : Str)] : List Str), ([3, 2] : List Int)⟩) rfl ⟨rfl, rfl, trivial⟩ t25 tm) (s1 rfl) <| cp (oCall rfl (table_Usual.ok hy1) b25 opds_nil) trivial <| cr (oLdP (n := 0) (k := 0) (m := 6) (d := (kR f_api_State)) (u := (⟨⟨0, 0⟩, ([(⟨1, 1, 0⟩ : api_Instr), (⟨1, 2, 0⟩ : api_Instr), (⟨12, 0, 0⟩ : api_Instr)] : List api_Instr), [], [], []⟩ : api_State)) (lfS (lfC (lfS (lfC lf1 (lfC lf1 lfN))) (lfC lf1 (lfC lf1 (lfC lf1 (lfC lf1 lfN)))))) rfl rfl rfl t35 tm) (s1 rfl) <| cp (oCall rfl (run_Run.ok hy2) b19 (opds_cons tm (opds_cons tm (opds_cons tm (opds_cons (cI (by decide)) opds_nil))))) (s3 rfl rfl rfl) <| cp (oMv tm) (s1 rfl) <| cp (oExt (k := 0) rfl tm) (s1 rfl) <| cp (oExt (k := 1) rfl tm) (s1 rfl) <| cp (oExt (k := 2) rfl tm) (s1 rfl) <| cp (oAs tm) (s1 rfl) <| cp (oAs tm) (s1 rfl) <| cp (oAs tm) (s1 rfl) <| .nil) (by kernel_rfl) (by kernel_rfl) ?_
  refine pSeq ?_
  obtain ⟨o1, h, hk1⟩ := bd h
  refine wJ1 (fun x7 => x7 = o1) (fun x7 => [(0, .d (kB.sig x7))]) (fun x7 => [.box 2 35 [.d (kI .i64) 0, .d (kI .i64) 0, .d (kL (kR f_api_Instr)) ([(⟨1, 1, 0⟩ : api_Instr), (⟨1, 2, 0⟩ : api_Instr), (⟨12, 0, 0⟩ : api_Instr)] : List api_Instr), .d (kL (kR f_api_Atom)) [], .d (kL (kR f_api_Slot)) [], .d (kL (kR f_api_Atom)) []], .box 1 25 [.d (kL kS) ([([97] : Str), ([98] : Str)] : List Str), .d (kL (kI .u32)) ([3, 2] : List Int)]]) ?_ ?_
  · rcases ic h with ⟨hp8, h⟩ | ⟨hp8, h⟩
    · rcases ic h with ⟨hp9, h⟩ | ⟨hp9, h⟩
      · rcases ic h with ⟨hp10, h⟩ | ⟨hp10, h⟩
        · obtain ⟨y11, hy11, h⟩ := bd h
          refine rg (cp (oMv tm) (s1 rfl) <| cp (oEq rfl tm (cI (by decide))) (s1 rfl) <| cp (oMv tm) (s1 rfl) <| cgB (decide_eq_true hp8) rfl rfl (oMv tm) (s1 rfl) <| cgB (decide_eq_true hp8) rfl rfl (oEq rfl tm (cI (by decide))) (s1 rfl) <| cp (oPkT (decide_eq_true hp8) tm tm) (s2 rfl rfl) <| cp (oMv tm) (s1 rfl) <| cgB (decide_eq_true hp9) rfl rfl (oMv tm) (s1 rfl) <| cgB (decide_eq_true hp9) rfl rfl (oLenL u55 tm) (s1 rfl) <| cgB (decide_eq_true hp9) rfl rfl (oEq rfl tm (cI (by decide))) (s1 rfl) <| cp (oPkT (decide_eq_true hp9) tm tm) (s2 rfl rfl) <| cp (oMv tm) (s1 rfl) <| cgB (decide_eq_true hp10) rfl rfl (oMv tm) (s1 rfl) <| cgB (decide_eq_true hp10) rfl rfl (oIdx u55 z35 hy11 tm (cI (by decide))) (s1 rfl) <| cgB (decide_eq_true hp10) rfl rfl (oFld (fs := f_api_State) (k := 3) rfl o35_3 tm) (s1 rfl) <| cgB (decide_eq_true hp10) rfl rfl (oLd t33 tm) (s1 rfl) <| cgB (decide_eq_true hp10) rfl rfl (oLenL u33 tm) (s1 rfl) <| cgB (decide_eq_true hp10) rfl rfl (oEq rfl tm (cI (by decide))) (s1 rfl) <| cp (oPkT (decide_eq_true hp10) tm tm) (s2 rfl rfl) <| cp (oAs tm) (s1 rfl) <| .nil) (by kernel_rfl) ?_
          exact pJ1 _ (so h) ⟨rfl, trivial⟩ rfl
        · refine rg (cp (oMv tm) (s1 rfl) <| cp (oEq rfl tm (cI (by decide))) (s1 rfl) <| cp (oMv tm) (s1 rfl) <| cgB (decide_eq_true hp8) rfl rfl (oMv tm) (s1 rfl) <| cgB (decide_eq_true hp8) rfl rfl (oEq rfl tm (cI (by decide))) (s1 rfl) <| cp (oPkT (decide_eq_true hp8) tm tm) (s2 rfl rfl) <| cp (oMv tm) (s1 rfl) <| cgB (decide_eq_true hp9) rfl rfl (oMv tm) (s1 rfl) <| cgB (decide_eq_true hp9) rfl rfl (oLenL u55 tm) (s1 rfl) <| cgB (decide_eq_true hp9) rfl rfl (oEq rfl tm (cI (by decide))) (s1 rfl) <| cp (oPkT (decide_eq_true hp9) tm tm) (s2 rfl rfl) <| cp (oMv tm) (s1 rfl) <| csB (decide_eq_false hp10) rfl rfl <| csB (decide_eq_false hp10) rfl rfl <| csB (decide_eq_false hp10) rfl rfl <| csB (decide_eq_false hp10) rfl rfl <| csB (decide_eq_false hp10) rfl rfl <| csB (decide_eq_false hp10) rfl rfl <| cp (oPkF (decide_eq_false hp10) tm cB) (s1 rfl) <| cp (oAs tm) (s1 rfl) <| .nil) (by kernel_rfl) ?_
          exact pJ1 _ (so h) ⟨rfl, trivial⟩ rfl
      · refine rg (cp (oMv tm) (s1 rfl) <| cp (oEq rfl tm (cI (by decide))) (s1 rfl) <| cp (oMv tm) (s1 rfl) <| cgB (decide_eq_true hp8) rfl rfl (oMv tm) (s1 rfl) <| cgB (decide_eq_true hp8) rfl rfl (oEq rfl tm (cI (by decide))) (s1 rfl) <| cp (oPkT (decide_eq_true hp8) tm tm) (s2 rfl rfl) <| cp (oMv tm) (s1 rfl) <| csB (decide_eq_false hp9) rfl rfl <| csB (decide_eq_false hp9) rfl rfl <| csB (decide_eq_false hp9) rfl rfl <| cp (oPkF (decide_eq_false hp9) tm cB) (s1 rfl) <| cp (oMv tm) (s1 rfl) <| csB rfl rfl rfl <| csB rfl rfl rfl <| csB rfl rfl rfl <| csB rfl rfl rfl <| csB rfl rfl rfl <| csB rfl rfl rfl <| cp (oPkF rfl tm cB) (s1 rfl) <| cp (oAs tm) (s1 rfl) <| .nil) (by kernel_rfl) ?_
        exact pJ1 _ (so h) ⟨rfl, trivial⟩ rfl
    · refine rg (cp (oMv tm) (s1 rfl) <| cp (oEq rfl tm (cI (by decide))) (s1 rfl) <| cp (oMv tm) (s1 rfl) <| csB (decide_eq_false hp8) rfl rfl <| csB (decide_eq_false hp8) rfl rfl <| cp (oPkF (decide_eq_false hp8) tm cB) (s1 rfl) <| cp (oMv tm) (s1 rfl) <| csB rfl rfl rfl <| csB rfl rfl rfl <| csB rfl rfl rfl <| cp (oPkF rfl tm cB) (s1 rfl) <| cp (oMv tm) (s1 rfl) <| csB rfl rfl rfl <| csB rfl rfl rfl <| csB rfl rfl rfl <| csB rfl rfl rfl <| csB rfl rfl rfl <| csB rfl rfl rfl <| cp (oPkF rfl tm cB) (s1 rfl) <| cp (oAs tm) (s1 rfl) <| .nil) (by kernel_rfl) ?_
      exact pJ1 _ (so h) ⟨rfl, trivial⟩ rfl
  · rintro x7 rfl
    replace h := hk1
    refine wRet ?_
    obtain rfl := so h
    exact pR1 (.inl rfl) rfl (.tmp rfl <| .nil)

theorem reticentref08_Same.ok {a0 : List api_Instr} {a1 : List api_Instr} {r : Bool} (h : reticentref08_Same.f a0 a1 = some r) : FnA Tryd.prog 14 [(kL (kR f_api_Instr)).sig a0, (kL (kR f_api_Instr)).sig a1] (kB.sig r) := by
  refine fnIntro Tryd.func14 rfl (by kernel_rfl) fun H0 w0 => ?_
  unfold reticentref08_Same.f at h
  refine wSeq ?_
  refine rg (cp (oAs cB) trivial <| .nil) (by kernel_rfl) ?_
  refine pSeq ?_
  refine wSeq ?_
  refine wSeq ?_
  refine rg (cp (oMv tm) (s1 rfl) <| cp (oLenL u31 tm) (s1 rfl) <| cp (oMv tm) (s1 rfl) <| cp (oLenL u31 tm) (s1 rfl) <| cp (oNe rfl tm tm) (s2 rfl rfl) <| .nil) (by kernel_rfl) ?_
  refine pSeq ?_
  rcases ic h with ⟨hp1, h⟩ | ⟨hp1, h⟩
  · refine wNT hp1 tm (s1 rfl) ?_
    refine wSkip ?_
    refine pSeq ?_
    refine wSeq ?_
    refine wSeq ?_
    refine rg (cp (oMv tm) (s1 rfl) <| cp (oLenL u31 tm) (s1 rfl) <| cp (oMv (cI (by decide))) trivial <| .nil) (by kernel_rfl) ?_
    refine pSeq ?_
    obtain ⟨o1, h, hk1⟩ := bd h
    refine wK0 (.inr () = o1) ([]) ([]) ?_ ?_
    · refine wBlock (wLoop ?_)
      refine lW (pc1 o1 (fun v10 => [(0, .d ((kL (kR f_api_Instr)).sig a0)), (1, .d ((kL (kR f_api_Instr)).sig a1)), (12, .d ((kI .i64).sig (a0.length : Int))), (13, .d ((kI .i64).sig v10))]) (fun v10 => []) (reticentref08_Same.l0.partial_correctness a0 a1) ?_ _ h) ⟨rfl, rfl, rfl, rfl, trivial⟩ rfl
      clear h
      intro f' ih v10 h
      refine wSeq ?_
      refine rg (cp (oLt rfl tm tm) (s2 rfl rfl) <| .nil) (by kernel_rfl) ?_
      refine pSeq ?_
      refine wSeq ?_
      rcases ic h with ⟨hp11, h⟩ | ⟨hp11, h⟩
      · refine wCT hp11 tm (s1 rfl) ?_
        refine wSkip ?_
        refine pSeq ?_
        refine wSeq ?_
        refine wBlock ?_
        refine wSeq ?_
        refine rg (cp (oMv tm) (s1 rfl) <| cp (oAs tm) (s1 rfl) <| .nil) (by kernel_rfl) ?_
        refine pSeq ?_
        refine wSeq ?_
        obtain ⟨y12, hy12, h⟩ := bd h
        obtain ⟨y13, hy13, h⟩ := bd h
        refine rgD hm (cp (oMv tm) (s1 rfl) <| cp (oMv tm) (s1 rfl) <| cp (oIdx u31 z48 hy12 tm tm) (s2 rfl rfl) <| cp (oLd t48 tm) (s1 rfl) <| cp (oMv tm) (s1 rfl) <| cp (oMv tm) (s1 rfl) <| cp (oIdx u31 z48 hy13 tm tm) (s2 rfl rfl) <| cp (oLd t48 tm) (s1 rfl) <| cp (oRNe eqk48 rfl eg48 rfl tm tm) (s2 rfl rfl) <| .nil) (by kernel_rfl) (by kernel_rfl) ?_
        refine pSeq ?_
        rcases ic h with ⟨hp14, h⟩ | ⟨hp14, h⟩
        · refine wNT hp14 tm (s1 rfl) ?_
          refine wSkip ?_
          refine pBlkN ?_
          refine pSeq ?_
          refine rg (cp (oAdd tm (cI (by decide))) (s1 rfl) <| cp (oMv tm) (s1 rfl) <| .nil) (by kernel_rfl) ?_
          exact pLoop (lW (ih _ h) ⟨rfl, rfl, rfl, rfl, trivial⟩ rfl)
        · refine wNF hp14 tm (s1 rfl) ?_
          refine wSeq ?_
          refine rg (cp (oAs cB) trivial <| .nil) (by kernel_rfl) ?_
          refine pSeq ?_
          refine wRet ?_
          refine pBlkR ?_
          refine pThenR ?_
          refine pThenR ?_
          refine pBlkR ?_
          refine pThenR ?_
          obtain rfl := so h
          replace h := hk1
          refine pThenR ?_
          obtain rfl := so h
          exact pR1 (.inl rfl) rfl (.tmp rfl <| .nil)
      · refine wCF hp11 tm (s1 rfl) ?_
        refine wExit ?_
        refine pThenX ?_
        refine pThenX ?_
        refine pBlkX ?_
        exact pJ0 (so h) trivial rfl
    · rintro rfl
      replace h := hk1
      refine pSeq ?_
      refine wSeq ?_
      refine rg (cp (oAs cB) trivial <| .nil) (by kernel_rfl) ?_
      refine pSeq ?_
      refine wRet ?_
      obtain rfl := so h
      exact pR1 (.inl rfl) rfl (.tmp rfl <| .nil)
  · refine wNF hp1 tm (s1 rfl) ?_
    refine wSeq ?_
    refine rg (cp (oAs cB) trivial <| .nil) (by kernel_rfl) ?_
    refine pSeq ?_
    refine wRet ?_
    refine pThenR ?_
    obtain rfl := so h
    exact pR1 (.inl rfl) rfl (.tmp rfl <| .nil)

theorem reticentref09_AtomsSame.ok {a0 : List api_Atom} {a1 : List api_Atom} {r : Bool} (h : reticentref09_AtomsSame.f a0 a1 = some r) : FnA Tryd.prog 26 [(kL (kR f_api_Atom)).sig a0, (kL (kR f_api_Atom)).sig a1] (kB.sig r) := by
  refine fnIntro Tryd.func26 rfl (by kernel_rfl) fun H0 w0 => ?_
  unfold reticentref09_AtomsSame.f at h
  refine wSeq ?_
  refine rg (cp (oAs cB) trivial <| .nil) (by kernel_rfl) ?_
  refine pSeq ?_
  refine wSeq ?_
  refine wSeq ?_
  refine rg (cp (oMv tm) (s1 rfl) <| cp (oLenL u32 tm) (s1 rfl) <| cp (oMv tm) (s1 rfl) <| cp (oLenL u32 tm) (s1 rfl) <| cp (oNe rfl tm tm) (s2 rfl rfl) <| .nil) (by kernel_rfl) ?_
  refine pSeq ?_
  rcases ic h with ⟨hp1, h⟩ | ⟨hp1, h⟩
  · refine wNT hp1 tm (s1 rfl) ?_
    refine wSkip ?_
    refine pSeq ?_
    refine wSeq ?_
    refine wSeq ?_
    refine rg (cp (oMv tm) (s1 rfl) <| cp (oLenL u32 tm) (s1 rfl) <| cp (oMv (cI (by decide))) trivial <| .nil) (by kernel_rfl) ?_
    refine pSeq ?_
    obtain ⟨o1, h, hk1⟩ := bd h
    refine wK0 (.inr () = o1) ([]) ([]) ?_ ?_
    · refine wBlock (wLoop ?_)
      refine lW (pc1 o1 (fun v10 => [(0, .d ((kL (kR f_api_Atom)).sig a0)), (1, .d ((kL (kR f_api_Atom)).sig a1)), (12, .d ((kI .i64).sig (a0.length : Int))), (13, .d ((kI .i64).sig v10))]) (fun v10 => []) (reticentref09_AtomsSame.l0.partial_correctness a0 a1) ?_ _ h) ⟨rfl, rfl, rfl, rfl, trivial⟩ rfl
      clear h
      intro f' ih v10 h
      refine wSeq ?_
      refine rg (cp (oLt rfl tm tm) (s2 rfl rfl) <| .nil) (by kernel_rfl) ?_
      refine pSeq ?_
      refine wSeq ?_
      rcases ic h with ⟨hp11, h⟩ | ⟨hp11, h⟩
      · refine wCT hp11 tm (s1 rfl) ?_
        refine wSkip ?_
        refine pSeq ?_
        refine wSeq ?_
        refine wBlock ?_
        refine wSeq ?_
        refine rg (cp (oMv tm) (s1 rfl) <| cp (oAs tm) (s1 rfl) <| .nil) (by kernel_rfl) ?_
        refine pSeq ?_
        refine wSeq ?_
        obtain ⟨y12, hy12, h⟩ := bd h
        obtain ⟨y13, hy13, h⟩ := bd h
        refine rgD hm (cp (oMv tm) (s1 rfl) <| cp (oMv tm) (s1 rfl) <| cp (oIdx u32 z30 hy12 tm tm) (s2 rfl rfl) <| cp (oLd t30 tm) (s1 rfl) <| cp (oMv tm) (s1 rfl) <| cp (oMv tm) (s1 rfl) <| cp (oIdx u32 z30 hy13 tm tm) (s2 rfl rfl) <| cp (oLd t30 tm) (s1 rfl) <| cp (oRNe eqk30 rfl eg30 rfl tm tm) (s2 rfl rfl) <| .nil) (by kernel_rfl) (by kernel_rfl) ?_
        refine pSeq ?_
        rcases ic h with ⟨hp14, h⟩ | ⟨hp14, h⟩
        · refine wNT hp14 tm (s1 rfl) ?_
          refine wSkip ?_
          refine pBlkN ?_
          refine pSeq ?_
          refine rg (cp (oAdd tm (cI (by decide))) (s1 rfl) <| cp (oMv tm) (s1 rfl) <| .nil) (by kernel_rfl) ?_
          exact pLoop (lW (ih _ h) ⟨rfl, rfl, rfl, rfl, trivial⟩ rfl)
        · refine wNF hp14 tm (s1 rfl) ?_
          refine wSeq ?_
          refine rg (cp (oAs cB) trivial <| .nil) (by kernel_rfl) ?_
          refine pSeq ?_
          refine wRet ?_
          refine pBlkR ?_
          refine pThenR ?_
          refine pThenR ?_
          refine pBlkR ?_
          refine pThenR ?_
          obtain rfl := so h
          replace h := hk1
          refine pThenR ?_
          obtain rfl := so h
          exact pR1 (.inl rfl) rfl (.tmp rfl <| .nil)
      · refine wCF hp11 tm (s1 rfl) ?_
        refine wExit ?_
        refine pThenX ?_
        refine pThenX ?_
        refine pBlkX ?_
        exact pJ0 (so h) trivial rfl
    · rintro rfl
      replace h := hk1
      refine pSeq ?_
      refine wSeq ?_
      refine rg (cp (oAs cB) trivial <| .nil) (by kernel_rfl) ?_
      refine pSeq ?_
      refine wRet ?_
      obtain rfl := so h
      exact pR1 (.inl rfl) rfl (.tmp rfl <| .nil)
  · refine wNF hp1 tm (s1 rfl) ?_
    refine wSeq ?_
    refine rg (cp (oAs cB) trivial <| .nil) (by kernel_rfl) ?_
    refine pSeq ?_
    refine wRet ?_
    refine pThenR ?_
    obtain rfl := so h
    exact pR1 (.inl rfl) rfl (.tmp rfl <| .nil)

theorem reticentref09_Same.ok {a0 : api_State} {a1 : api_State} {r : Bool} (h : reticentref09_Same.f a0 a1 = some r) : FnA Tryd.prog 12 [(kR f_api_State).sig a0, (kR f_api_State).sig a1] (kB.sig r) := by
  refine fnIntro Tryd.func12 rfl (by kernel_rfl) fun H0 w0 => ?_
  unfold reticentref09_Same.f at h
  refine wSeq ?_
  refine rg (cp (oBox tm) (s1 rfl) <| cp (oBox tm) (s1 rfl) <| cp (oAs cB) trivial <| .nil) (by kernel_rfl) ?_
  refine pSeq ?_
  refine wSeq ?_
  obtain ⟨o1, h, hk1⟩ := bd h
  refine wJ1 (fun x8 => x8 = o1) (fun x8 => [(2, .d (sP (kR f_api_State) a0)), (3, .d (sP (kR f_api_State) a1)), (43, .d (kB.sig x8))]) (fun x8 => []) ?_ ?_
  · rcases ic h with ⟨hp9, h⟩ | ⟨hp9, h⟩
    · obtain ⟨y10, hy10, h⟩ := bd h
      rcases ic h with ⟨hp11, h⟩ | ⟨hp11, h⟩
      · refine rg (cp (oFld (fs := f_api_State) (k := 0) rfl o35_0 tm) (s1 rfl) <| cp (oLd t30 tm) (s1 rfl) <| cp (oFld (fs := f_api_State) (k := 0) rfl o35_0 tm) (s1 rfl) <| cp (oLd t30 tm) (s1 rfl) <| cp (oRNe eqk30 rfl eg30 rfl tm tm) (s2 rfl rfl) <| cp (oMv tm) (s1 rfl) <| cgB (nf hp9) rfl rfl (oFld (fs := f_api_State) (k := 1) rfl o35_1 tm) (s1 rfl) <| cgB (nf hp9) rfl rfl (oLd t31 tm) (s1 rfl) <| cgB (nf hp9) rfl rfl (oFld (fs := f_api_State) (k := 1) rfl o35_1 tm) (s1 rfl) <| cgB (nf hp9) rfl rfl (oLd t31 tm) (s1 rfl) <| cgB (nf hp9) rfl rfl (oCall rfl (reticentref08_Same.ok hy10) b14 (opds_cons tm (opds_cons tm opds_nil))) (s2 rfl rfl) <| cgB (nf hp9) rfl rfl (oNot tm) (s1 rfl) <| cp (oPkF (nf hp9) tm tm) (s2 rfl rfl) <| cp (oMv tm) (s1 rfl) <| csB hp11 rfl rfl <| csB hp11 rfl rfl <| csB hp11 rfl rfl <| csB hp11 rfl rfl <| csB hp11 rfl rfl <| csB hp11 rfl rfl <| cp (oPkT hp11 tm cB) (s1 rfl) <| cp (oMv tm) (s1 rfl) <| csB rfl rfl rfl <| csB rfl rfl rfl <| csB rfl rfl rfl <| csB rfl rfl rfl <| csB rfl rfl rfl <| csB rfl rfl rfl <| cp (oPkT rfl tm cB) (s1 rfl) <| cp (oMv tm) (s1 rfl) <| csB rfl rfl rfl <| csB rfl rfl rfl <| csB rfl rfl rfl <| csB rfl rfl rfl <| csB rfl rfl rfl <| csB rfl rfl rfl <| csB rfl rfl rfl <| cp (oPkT rfl tm cB) (s1 rfl) <| .nil) (by kernel_rfl) ?_
        exact pJ1 _ (so h) ⟨rfl, rfl, rfl, trivial⟩ rfl
      · obtain ⟨y12, hy12, h⟩ := bd h
        rcases ic h with ⟨hp13, h⟩ | ⟨hp13, h⟩
        · refine rg (cp (oFld (fs := f_api_State) (k := 0) rfl o35_0 tm) (s1 rfl) <| cp (oLd t30 tm) (s1 rfl) <| cp (oFld (fs := f_api_State) (k := 0) rfl o35_0 tm) (s1 rfl) <| cp (oLd t30 tm) (s1 rfl) <| cp (oRNe eqk30 rfl eg30 rfl tm tm) (s2 rfl rfl) <| cp (oMv tm) (s1 rfl) <| cgB (nf hp9) rfl rfl (oFld (fs := f_api_State) (k := 1) rfl o35_1 tm) (s1 rfl) <| cgB (nf hp9) rfl rfl (oLd t31 tm) (s1 rfl) <| cgB (nf hp9) rfl rfl (oFld (fs := f_api_State) (k := 1) rfl o35_1 tm) (s1 rfl) <| cgB (nf hp9) rfl rfl (oLd t31 tm) (s1 rfl) <| cgB (nf hp9) rfl rfl (oCall rfl (reticentref08_Same.ok hy10) b14 (opds_cons tm (opds_cons tm opds_nil))) (s2 rfl rfl) <| cgB (nf hp9) rfl rfl (oNot tm) (s1 rfl) <| cp (oPkF (nf hp9) tm tm) (s2 rfl rfl) <| cp (oMv tm) (s1 rfl) <| cgB (nb hp11) rfl rfl (oFld (fs := f_api_State) (k := 2) rfl o35_2 tm) (s1 rfl) <| cgB (nb hp11) rfl rfl (oLd t32 tm) (s1 rfl) <| cgB (nb hp11) rfl rfl (oFld (fs := f_api_State) (k := 2) rfl o35_2 tm) (s1 rfl) <| cgB (nb hp11) rfl rfl (oLd t32 tm) (s1 rfl) <| cgB (nb hp11) rfl rfl (oCall rfl (reticentref09_AtomsSame.ok hy12) b26 (opds_cons tm (opds_cons tm opds_nil))) (s2 rfl rfl) <| cgB (nb hp11) rfl rfl (oNot tm) (s1 rfl) <| cp (oPkF (nb hp11) tm tm) (s2 rfl rfl) <| cp (oMv tm) (s1 rfl) <| csB hp13 rfl rfl <| csB hp13 rfl rfl <| csB hp13 rfl rfl <| csB hp13 rfl rfl <| csB hp13 rfl rfl <| csB hp13 rfl rfl <| cp (oPkT hp13 tm cB) (s1 rfl) <| cp (oMv tm) (s1 rfl) <| csB rfl rfl rfl <| csB rfl rfl rfl <| csB rfl rfl rfl <| csB rfl rfl rfl <| csB rfl rfl rfl <| csB rfl rfl rfl <| csB rfl rfl rfl <| cp (oPkT rfl tm cB) (s1 rfl) <| .nil) (by kernel_rfl) ?_
          exact pJ1 _ (so h) ⟨rfl, rfl, rfl, trivial⟩ rfl
        · obtain ⟨y14, hy14, h⟩ := bd h
          rcases ic h with ⟨hp15, h⟩ | ⟨hp15, h⟩
          · refine rg (cp (oFld (fs := f_api_State) (k := 0) rfl o35_0 tm) (s1 rfl) <| cp (oLd t30 tm) (s1 rfl) <| cp (oFld (fs := f_api_State) (k := 0) rfl o35_0 tm) (s1 rfl) <| cp (oLd t30 tm) (s1 rfl) <| cp (oRNe eqk30 rfl eg30 rfl tm tm) (s2 rfl rfl) <| cp (oMv tm) (s1 rfl) <| cgB (nf hp9) rfl rfl (oFld (fs := f_api_State) (k := 1) rfl o35_1 tm) (s1 rfl) <| cgB (nf hp9) rfl rfl (oLd t31 tm) (s1 rfl) <| cgB (nf hp9) rfl rfl (oFld (fs := f_api_State) (k := 1) rfl o35_1 tm) (s1 rfl) <| cgB (nf hp9) rfl rfl (oLd t31 tm) (s1 rfl) <| cgB (nf hp9) rfl rfl (oCall rfl (reticentref08_Same.ok hy10) b14 (opds_cons tm (opds_cons tm opds_nil))) (s2 rfl rfl) <| cgB (nf hp9) rfl rfl (oNot tm) (s1 rfl) <| cp (oPkF (nf hp9) tm tm) (s2 rfl rfl) <| cp (oMv tm) (s1 rfl) <| cgB (nb hp11) rfl rfl (oFld (fs := f_api_State) (k := 2) rfl o35_2 tm) (s1 rfl) <| cgB (nb hp11) rfl rfl (oLd t32 tm) (s1 rfl) <| cgB (nb hp11) rfl rfl (oFld (fs := f_api_State) (k := 2) rfl o35_2 tm) (s1 rfl) <| cgB (nb hp11) rfl rfl (oLd t32 tm) (s1 rfl) <| cgB (nb hp11) rfl rfl (oCall rfl (reticentref09_AtomsSame.ok hy12) b26 (opds_cons tm (opds_cons tm opds_nil))) (s2 rfl rfl) <| cgB (nb hp11) rfl rfl (oNot tm) (s1 rfl) <| cp (oPkF (nb hp11) tm tm) (s2 rfl rfl) <| cp (oMv tm) (s1 rfl) <| cgB (nb hp13) rfl rfl (oFld (fs := f_api_State) (k := 4) rfl o35_4 tm) (s1 rfl) <| cgB (nb hp13) rfl rfl (oLd t32 tm) (s1 rfl) <| cgB (nb hp13) rfl rfl (oFld (fs := f_api_State) (k := 4) rfl o35_4 tm) (s1 rfl) <| cgB (nb hp13) rfl rfl (oLd t32 tm) (s1 rfl) <| cgB (nb hp13) rfl rfl (oCall rfl (reticentref09_AtomsSame.ok hy14) b26 (opds_cons tm (opds_cons tm opds_nil))) (s2 rfl rfl) <| cgB (nb hp13) rfl rfl (oNot tm) (s1 rfl) <| cp (oPkF (nb hp13) tm tm) (s2 rfl rfl) <| cp (oMv tm) (s1 rfl) <| csB hp15 rfl rfl <| csB hp15 rfl rfl <| csB hp15 rfl rfl <| csB hp15 rfl rfl <| csB hp15 rfl rfl <| csB hp15 rfl rfl <| csB hp15 rfl rfl <| cp (oPkT hp15 tm cB) (s1 rfl) <| .nil) (by kernel_rfl) ?_
            exact pJ1 _ (so h) ⟨rfl, rfl, rfl, trivial⟩ rfl
          · refine rg (cp (oFld (fs := f_api_State) (k := 0) rfl o35_0 tm) (s1 rfl) <| cp (oLd t30 tm) (s1 rfl) <| cp (oFld (fs := f_api_State) (k := 0) rfl o35_0 tm) (s1 rfl) <| cp (oLd t30 tm) (s1 rfl) <| cp (oRNe eqk30 rfl eg30 rfl tm tm) (s2 rfl rfl) <| cp (oMv tm) (s1 rfl) <| cgB (nf hp9) rfl rfl (oFld (fs := f_api_State) (k := 1) rfl o35_1 tm) (s1 rfl) <| cgB (nf hp9) rfl rfl (oLd t31 tm) (s1 rfl) <| cgB (nf hp9) rfl rfl (oFld (fs := f_api_State) (k := 1) rfl o35_1 tm) (s1 rfl) <| cgB (nf hp9) rfl rfl (oLd t31 tm) (s1 rfl) <| cgB (nf hp9) rfl rfl (oCall rfl (reticentref08_Same.ok hy10) b14 (opds_cons tm (opds_cons tm opds_nil))) (s2 rfl rfl) <| cgB (nf hp9) rfl rfl (oNot tm) (s1 rfl) <| cp (oPkF (nf hp9) tm tm) (s2 rfl rfl) <| cp (oMv tm) (s1 rfl) <| cgB (nb hp11) rfl rfl (oFld (fs := f_api_State) (k := 2) rfl o35_2 tm) (s1 rfl) <| cgB (nb hp11) rfl rfl (oLd t32 tm) (s1 rfl) <| cgB (nb hp11) rfl rfl (oFld (fs := f_api_State) (k := 2) rfl o35_2 tm) (s1 rfl) <| cgB (nb hp11) rfl rfl (oLd t32 tm) (s1 rfl) <| cgB (nb hp11) rfl rfl (oCall rfl (reticentref09_AtomsSame.ok hy12) b26 (opds_cons tm (opds_cons tm opds_nil))) (s2 rfl rfl) <| cgB (nb hp11) rfl rfl (oNot tm) (s1 rfl) <| cp (oPkF (nb hp11) tm tm) (s2 rfl rfl) <| cp (oMv tm) (s1 rfl) <| cgB (nb hp13) rfl rfl (oFld (fs := f_api_State) (k := 4) rfl o35_4 tm) (s1 rfl) <| cgB (nb hp13) rfl rfl (oLd t32 tm) (s1 rfl) <| cgB (nb hp13) rfl rfl (oFld (fs := f_api_State) (k := 4) rfl o35_4 tm) (s1 rfl) <| cgB (nb hp13) rfl rfl (oLd t32 tm) (s1 rfl) <| cgB (nb hp13) rfl rfl (oCall rfl (reticentref09_AtomsSame.ok hy14) b26 (opds_cons tm (opds_cons tm opds_nil))) (s2 rfl rfl) <| cgB (nb hp13) rfl rfl (oNot tm) (s1 rfl) <| cp (oPkF (nb hp13) tm tm) (s2 rfl rfl) <| cp (oMv tm) (s1 rfl) <| cgB (nb hp15) rfl rfl (oFld (fs := f_api_State) (k := 3) rfl o35_3 tm) (s1 rfl) <| cgB (nb hp15) rfl rfl (oLd t33 tm) (s1 rfl) <| cgB (nb hp15) rfl rfl (oLenL u33 tm) (s1 rfl) <| cgB (nb hp15) rfl rfl (oFld (fs := f_api_State) (k := 3) rfl o35_3 tm) (s1 rfl) <| cgB (nb hp15) rfl rfl (oLd t33 tm) (s1 rfl) <| cgB (nb hp15) rfl rfl (oLenL u33 tm) (s1 rfl) <| cgB (nb hp15) rfl rfl (oNe rfl tm tm) (s2 rfl rfl) <| cp (oPkF (nb hp15) tm tm) (s2 rfl rfl) <| .nil) (by kernel_rfl) ?_
            exact pJ1 _ (so h) ⟨rfl, rfl, rfl, trivial⟩ rfl
    · refine rg (cp (oFld (fs := f_api_State) (k := 0) rfl o35_0 tm) (s1 rfl) <| cp (oLd t30 tm) (s1 rfl) <| cp (oFld (fs := f_api_State) (k := 0) rfl o35_0 tm) (s1 rfl) <| cp (oLd t30 tm) (s1 rfl) <| cp (oRNe eqk30 rfl eg30 rfl tm tm) (s2 rfl rfl) <| cp (oMv tm) (s1 rfl) <| csB (nt hp9) rfl rfl <| csB (nt hp9) rfl rfl <| csB (nt hp9) rfl rfl <| csB (nt hp9) rfl rfl <| csB (nt hp9) rfl rfl <| csB (nt hp9) rfl rfl <| cp (oPkT (nt hp9) tm cB) (s1 rfl) <| cp (oMv tm) (s1 rfl) <| csB rfl rfl rfl <| csB rfl rfl rfl <| csB rfl rfl rfl <| csB rfl rfl rfl <| csB rfl rfl rfl <| csB rfl rfl rfl <| cp (oPkT rfl tm cB) (s1 rfl) <| cp (oMv tm) (s1 rfl) <| csB rfl rfl rfl <| csB rfl rfl rfl <| csB rfl rfl rfl <| csB rfl rfl rfl <| csB rfl rfl rfl <| csB rfl rfl rfl <| cp (oPkT rfl tm cB) (s1 rfl) <| cp (oMv tm) (s1 rfl) <| csB rfl rfl rfl <| csB rfl rfl rfl <| csB rfl rfl rfl <| csB rfl rfl rfl <| csB rfl rfl rfl <| csB rfl rfl rfl <| csB rfl rfl rfl <| cp (oPkT rfl tm cB) (s1 rfl) <| .nil) (by kernel_rfl) ?_
      exact pJ1 _ (so h) ⟨rfl, rfl, rfl, trivial⟩ rfl
  · rintro x8 rfl
    replace h := hk1
    rcases ic h with ⟨hp16, h⟩ | ⟨hp16, h⟩
    · refine wBT hp16 tm (s1 rfl) ?_
      refine wSeq ?_
      refine rg (cp (oAs cB) trivial <| .nil) (by kernel_rfl) ?_
      refine pSeq ?_
      refine wRet ?_
      refine pThenR ?_
      obtain rfl := so h
      exact pR1 (.inl rfl) rfl (.tmp rfl <| .nil)
    · refine wBF hp16 tm (s1 rfl) ?_
      refine wSkip ?_
      refine pSeq ?_
      refine wSeq ?_
      refine wSeq ?_
      refine rg (cp (oFld (fs := f_api_State) (k := 3) rfl o35_3 tm) (s1 rfl) <| cp (oLd t33 tm) (s1 rfl) <| cp (oLenL u33 tm) (s1 rfl) <| cp (oMv (cI (by decide))) trivial <| .nil) (by kernel_rfl) ?_
      refine pSeq ?_
      obtain ⟨o1, h, hk1⟩ := bd h
      refine wK0 (.inr () = o1) ([]) ([]) ?_ ?_
      · refine wBlock (wLoop ?_)
        refine lW (pc1 o1 (fun v25 => [(2, .d (sP (kR f_api_State) a0)), (3, .d (sP (kR f_api_State) a1)), (46, .d ((kI .i64).sig (a0.Stack.length : Int))), (47, .d ((kI .i64).sig v25))]) (fun v25 => []) (reticentref09_Same.l0.partial_correctness a0 a1) ?_ _ h) ⟨rfl, rfl, rfl, rfl, trivial⟩ rfl
        clear h
        intro f' ih v25 h
        refine wSeq ?_
        refine rg (cp (oLt rfl tm tm) (s2 rfl rfl) <| .nil) (by kernel_rfl) ?_
        refine pSeq ?_
        refine wSeq ?_
        rcases ic h with ⟨hp26, h⟩ | ⟨hp26, h⟩
        · refine wCT hp26 tm (s1 rfl) ?_
          refine wSkip ?_
          refine pSeq ?_
          refine wSeq ?_
          refine wBlock ?_
          refine wSeq ?_
          refine rg (cp (oMv tm) (s1 rfl) <| cp (oAs tm) (s1 rfl) <| .nil) (by kernel_rfl) ?_
          refine pSeq ?_
          refine wSeq ?_
          obtain ⟨y27, hy27, h⟩ := bd h
          obtain ⟨y28, hy28, h⟩ := bd h
          refine rgD hm (cp (oFld (fs := f_api_State) (k := 3) rfl o35_3 tm) (s1 rfl) <| cp (oLd t33 tm) (s1 rfl) <| cp (oMv tm) (s1 rfl) <| cp (oIdx u33 z68 hy27 tm tm) (s2 rfl rfl) <| cp (oLd t68 tm) (s1 rfl) <| cp (oFld (fs := f_api_State) (k := 3) rfl o35_3 tm) (s1 rfl) <| cp (oLd t33 tm) (s1 rfl) <| cp (oMv tm) (s1 rfl) <| cp (oIdx u33 z68 hy28 tm tm) (s2 rfl rfl) <| cp (oLd t68 tm) (s1 rfl) <| cp (oRNe eqk68 rfl eg68 rfl tm tm) (s2 rfl rfl) <| .nil) (by kernel_rfl) (by kernel_rfl) ?_
          refine pSeq ?_
          rcases ic h with ⟨hp29, h⟩ | ⟨hp29, h⟩
          · refine wNT hp29 tm (s1 rfl) ?_
            refine wSkip ?_
            refine pBlkN ?_
            refine pSeq ?_
            refine rg (cp (oAdd tm (cI (by decide))) (s1 rfl) <| cp (oMv tm) (s1 rfl) <| .nil) (by kernel_rfl) ?_
            exact pLoop (lW (ih _ h) ⟨rfl, rfl, rfl, rfl, trivial⟩ rfl)
          · refine wNF hp29 tm (s1 rfl) ?_
            refine wSeq ?_
            refine rg (cp (oAs cB) trivial <| .nil) (by kernel_rfl) ?_
            refine pSeq ?_
            refine wRet ?_
            refine pBlkR ?_
            refine pThenR ?_
            refine pThenR ?_
            refine pBlkR ?_
            refine pThenR ?_
            obtain rfl := so h
            replace h := hk1
            refine pThenR ?_
            obtain rfl := so h
            exact pR1 (.inl rfl) rfl (.tmp rfl <| .nil)
        · refine wCF hp26 tm (s1 rfl) ?_
          refine wExit ?_
          refine pThenX ?_
          refine pThenX ?_
          refine pBlkX ?_
          exact pJ0 (so h) trivial rfl
      · rintro rfl
        replace h := hk1
        refine pSeq ?_
        refine wSeq ?_
        refine rg (cp (oAs cB) trivial <| .nil) (by kernel_rfl) ?_
        refine pSeq ?_
        refine wRet ?_
        obtain rfl := so h
        exact pR1 (.inl rfl) rfl (.tmp rfl <| .nil)

theorem reticentlaw11_same.ok {a0 : List api_State} {a1 : List api_State} {r : Bool} (h : reticentlaw11_same.f a0 a1 = some r) : FnA Tryd.prog 21 [(kL (kR f_api_State)).sig a0, (kL (kR f_api_State)).sig a1] (kB.sig r) := by
  refine fnIntro Tryd.func21 rfl (by kernel_rfl) fun H0 w0 => ?_
  unfold reticentlaw11_same.f at h
  refine wSeq ?_
  refine rg (cp (oAs cB) trivial <| .nil) (by kernel_rfl) ?_
  refine pSeq ?_
  refine wSeq ?_
  refine wSeq ?_
  refine rg (cp (oMv tm) (s1 rfl) <| cp (oLenL u55 tm) (s1 rfl) <| cp (oMv tm) (s1 rfl) <| cp (oLenL u55 tm) (s1 rfl) <| cp (oNe rfl tm tm) (s2 rfl rfl) <| .nil) (by kernel_rfl) ?_
  refine pSeq ?_
  rcases ic h with ⟨hp1, h⟩ | ⟨hp1, h⟩
  · refine wNT hp1 tm (s1 rfl) ?_
    refine wSkip ?_
    refine pSeq ?_
    refine wSeq ?_
    refine wSeq ?_
    refine rg (cp (oMv tm) (s1 rfl) <| cp (oLenL u55 tm) (s1 rfl) <| cp (oMv (cI (by decide))) trivial <| .nil) (by kernel_rfl) ?_
    refine pSeq ?_
    obtain ⟨o1, h, hk1⟩ := bd h
    refine wK0 (.inr () = o1) ([]) ([]) ?_ ?_
    · refine wBlock (wLoop ?_)
      refine lW (pc1 o1 (fun v12 => [(0, .d ((kL (kR f_api_State)).sig a0)), (1, .d ((kL (kR f_api_State)).sig a1)), (12, .d ((kI .i64).sig (a0.length : Int))), (13, .d ((kI .i64).sig v12))]) (fun v12 => []) (reticentlaw11_same.l0.partial_correctness a0 a1) ?_ _ h) ⟨rfl, rfl, rfl, rfl, trivial⟩ rfl
      clear h
      intro f' ih v12 h
      refine wSeq ?_
      refine rg (cp (oLt rfl tm tm) (s2 rfl rfl) <| .nil) (by kernel_rfl) ?_
      refine pSeq ?_
      refine wSeq ?_
      rcases ic h with ⟨hp13, h⟩ | ⟨hp13, h⟩
      · refine wCT hp13 tm (s1 rfl) ?_
        refine wSkip ?_
        refine pSeq ?_
        refine wSeq ?_
        refine wBlock ?_
        refine wSeq ?_
        refine rg (cp (oMv tm) (s1 rfl) <| cp (oAs tm) (s1 rfl) <| .nil) (by kernel_rfl) ?_
        refine pSeq ?_
        refine wSeq ?_
        obtain ⟨y14, hy14, h⟩ := bd h
        obtain ⟨y15, hy15, h⟩ := bd h
        obtain ⟨y16, hy16, h⟩ := bd h
        refine rgD hm (cp (oMv tm) (s1 rfl) <| cp (oMv tm) (s1 rfl) <| cp (oIdx u55 z35 hy14 tm tm) (s2 rfl rfl) <| cp (oLd t35 tm) (s1 rfl) <| cp (oMv tm) (s1 rfl) <| cp (oMv tm) (s1 rfl) <| cp (oIdx u55 z35 hy15 tm tm) (s2 rfl rfl) <| cp (oLd t35 tm) (s1 rfl) <| cp (oCall rfl (reticentref09_Same.ok hy16) b12 (opds_cons tm (opds_cons tm opds_nil))) (s2 rfl rfl) <| cp (oNot tm) (s1 rfl) <| .nil) (by kernel_rfl) (by kernel_rfl) ?_
        refine pSeq ?_
        rcases ic h with ⟨hp17, h⟩ | ⟨hp17, h⟩
        · refine wBT hp17 tm (s1 rfl) ?_
          refine wSeq ?_
          refine rg (cp (oAs cB) trivial <| .nil) (by kernel_rfl) ?_
          refine pSeq ?_
          refine wRet ?_
          refine pBlkR ?_
          refine pThenR ?_
          refine pThenR ?_
          refine pBlkR ?_
          refine pThenR ?_
          obtain rfl := so h
          replace h := hk1
          refine pThenR ?_
          obtain rfl := so h
          exact pR1 (.inl rfl) rfl (.tmp rfl <| .nil)
        · refine wBF hp17 tm (s1 rfl) ?_
          refine wSkip ?_
          refine pBlkN ?_
          refine pSeq ?_
          refine rg (cp (oAdd tm (cI (by decide))) (s1 rfl) <| cp (oMv tm) (s1 rfl) <| .nil) (by kernel_rfl) ?_
          exact pLoop (lW (ih _ h) ⟨rfl, rfl, rfl, rfl, trivial⟩ rfl)
      · refine wCF hp13 tm (s1 rfl) ?_
        refine wExit ?_
        refine pThenX ?_
        refine pThenX ?_
        refine pBlkX ?_
        exact pJ0 (so h) trivial rfl
    · rintro rfl
      replace h := hk1
      refine pSeq ?_
      refine wSeq ?_
      refine rg (cp (oAs cB) trivial <| .nil) (by kernel_rfl) ?_
      refine pSeq ?_
      refine wRet ?_
      obtain rfl := so h
      exact pR1 (.inl rfl) rfl (.tmp rfl <| .nil)
  · refine wNF hp1 tm (s1 rfl) ?_
    refine wSeq ?_
    refine rg (cp (oAs cB) trivial <| .nil) (by kernel_rfl) ?_
    refine pSeq ?_
    refine wRet ?_
    refine pThenR ?_
    obtain rfl := so h
    exact pR1 (.inl rfl) rfl (.tmp rfl <| .nil)

end Go.Proofs.YtmegdednaimgcaaDoor.TT
