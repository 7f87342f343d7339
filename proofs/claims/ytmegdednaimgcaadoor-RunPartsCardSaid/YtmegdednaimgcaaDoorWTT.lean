import Derived.Test.YtmegdednaimgcaaDoorCln
import Derived.Test.YtmegdednaimgcaaDoorWTTp3
import Derived.Test.YtmegdednaimgcaaDoorProg
set_option linter.unusedVariables false
set_option maxRecDepth 10000
set_option maxHeartbeats 2000000
namespace Go.Proofs.YtmegdednaimgcaaDoor.TT
open Go Go.Proofs.YtmegdednaimgcaaDoor.Ab

theorem reticentlaw11_RunParts.ok {a0 : api_Lattice} {a1 : api_Table} {a2 : api_State} {a3 : Int} {a4 : Int} {r : Bool} (h : reticentlaw11_RunParts.f a0 a1 a2 a3 a4 = some r) : FnA Tryd.prog 5 [(kR f_api_Lattice).sig a0, (kR f_api_Table).sig a1, (kR f_api_State).sig a2, (kI .i64).sig a3, (kI .i64).sig a4] (kB.sig r) := by
  refine fnIntro Tryd.func5 rfl (by kernel_rfl) fun H0 w0 => ?_
  unfold reticentlaw11_RunParts.f at h
  refine wSeq ?_
  refine rg (cw (oBoxS (id := 5) (fs := f_api_Lattice) tm) (s1 rfl) <| cw (oBoxS (id := 6) (fs := f_api_Table) tm) (s1 rfl) <| cw (oBoxP (id := 7) (d := (kR f_api_State)) (ls := [.d (kI .i64) a2.Pc.V, .d (kI .i64) a2.Pc.L, .d (kL (kR f_api_Instr)) a2.Code, .d (kL (kR f_api_Atom)) a2.Mem, .d (kL (kR f_api_Slot)) a2.Stack, .d (kL (kR f_api_Atom)) a2.Out]) (lfS (lfC (lfS (lfC lf1 (lfC lf1 lfN))) (lfC lf1 (lfC lf1 (lfC lf1 (lfC lf1 lfN)))))) rfl tm) (s1 rfl) <| cp (oAs cB) trivial <| .nil) (by kernel_rfl) ?_
  refine pSeq ?_
  refine wSeq ?_
  obtain ⟨y1, hy1, h⟩ := bd h
  obtain ⟨y2, hy2, h⟩ := bd h
  obtain ⟨y3, hy3, h⟩ := bd h
  refine rgD hm (cr (oLdA (n := 2) (fs := f_api_Lattice) (u := ⟨a0.Names, a0.Up⟩) rfl ⟨rfl, rfl, trivial⟩ t25 tm) (s1 rfl) <| cp (oCall rfl (reticentlaw11_few.ok hy1) b16 (opds_cons tm opds_nil)) (s1 rfl) <| cr (oLdA (n := 1) (fs := f_api_Table) (u := ⟨a1.Rows⟩) rfl ⟨rfl, trivial⟩ t28 tm) (s1 rfl) <| cp (oCall rfl (reticentlaw11_rows.ok hy2) b17 (opds_cons tm opds_nil)) (s1 rfl) <| cr (oLdP (n := 0) (k := 0) (m := 6) (d := (kR f_api_State)) (u := a2) (lfS (lfC (lfS (lfC lf1 (lfC lf1 lfN))) (lfC lf1 (lfC lf1 (lfC lf1 (lfC lf1 lfN)))))) rfl rfl rfl t35 tm) (s1 rfl) <| cp (oCall rfl (reticentlaw11_cut.ok hy3) b18 (opds_cons tm opds_nil)) (s1 rfl) <| cwn (oStA (n := 2) (fs := f_api_Lattice) rfl rfl z25 tm tm) (s2 rfl rfl) <| cwn (oStA (n := 1) (fs := f_api_Table) rfl rfl z28 tm tm) (s2 rfl rfl) <| cwn (oStP (n := 0) (k := 0) (m := 6) (d := (kR f_api_State)) (u := y3) (lfS (lfC (lfS (lfC lf1 (lfC lf1 lfN))) (lfC lf1 (lfC lf1 (lfC lf1 (lfC lf1 lfN)))))) rfl rfl rfl z35 tm tm) (s2 rfl rfl) <| .nil) (by kernel_rfl) (by kernel_rfl) ?_
  refine pSeq ?_
  refine wSeq ?_
  refine rg (cp (oMv tm) (s1 rfl) <| cp (oRem (by decide) tm (cI (by decide))) (s1 rfl) <| cp (oAdd tm (cI (by decide))) (s1 rfl) <| cp (oRem (by decide) tm (cI (by decide))) (s1 rfl) <| cp (oMv tm) (s1 rfl) <| cp (oRem (by decide) tm (cI (by decide))) (s1 rfl) <| cp (oAdd tm (cI (by decide))) (s1 rfl) <| cp (oRem (by decide) tm (cI (by decide))) (s1 rfl) <| cp (oAs tm) (s1 rfl) <| cp (oAs tm) (s1 rfl) <| .nil) (by kernel_rfl) ?_
  refine pSeq ?_
  refine wSeq ?_
  obtain ⟨y4, hy4, h⟩ := bd h
  refine rg (cr (oLdA (n := 2) (fs := f_api_Lattice) (u := ⟨y1.Names, y1.Up⟩) rfl ⟨rfl, rfl, trivial⟩ t25 tm) (s1 rfl) <| cr (oLdA (n := 1) (fs := f_api_Table) (u := ⟨y2.Rows⟩) rfl ⟨rfl, trivial⟩ t28 tm) (s1 rfl) <| cr (oLdP (n := 0) (k := 0) (m := 6) (d := (kR f_api_State)) (u := y3) (lfS (lfC (lfS (lfC lf1 (lfC lf1 lfN))) (lfC lf1 (lfC lf1 (lfC lf1 (lfC lf1 lfN)))))) rfl rfl rfl t35 tm) (s1 rfl) <| cp (oMv tm) (s1 rfl) <| cp (oCall rfl (run_Run.ok hy4) b19 (opds_cons tm (opds_cons tm (opds_cons tm (opds_cons tm opds_nil))))) ⟨rfl, rfl, rfl, rfl, trivial⟩ <| cp (oMv tm) (s1 rfl) <| cp (oExt (k := 0) rfl tm) (s1 rfl) <| cp (oExt (k := 1) rfl tm) (s1 rfl) <| cp (oExt (k := 2) rfl tm) (s1 rfl) <| cp (oAs tm) (s1 rfl) <| cp (oAs tm) (s1 rfl) <| cp (oAs tm) (s1 rfl) <| .nil) (by kernel_rfl) ?_
  refine pSeq ?_
  refine wSeq ?_
  obtain ⟨y5, hy5, h⟩ := bd h
  refine rg (cr (oLdA (n := 2) (fs := f_api_Lattice) (u := ⟨y1.Names, y1.Up⟩) rfl ⟨rfl, rfl, trivial⟩ t25 tm) (s1 rfl) <| cr (oLdA (n := 1) (fs := f_api_Table) (u := ⟨y2.Rows⟩) rfl ⟨rfl, trivial⟩ t28 tm) (s1 rfl) <| cr (oLdP (n := 0) (k := 0) (m := 6) (d := (kR f_api_State)) (u := y3) (lfS (lfC (lfS (lfC lf1 (lfC lf1 lfN))) (lfC lf1 (lfC lf1 (lfC lf1 (lfC lf1 lfN)))))) rfl rfl rfl t35 tm) (s1 rfl) <| cp (oMv tm) (s1 rfl) <| cp (oMv tm) (s1 rfl) <| cp (oAdd tm tm) (s2 rfl rfl) <| cp (oCall rfl (run_Run.ok hy5) b19 (opds_cons tm (opds_cons tm (opds_cons tm (opds_cons tm opds_nil))))) ⟨rfl, rfl, rfl, rfl, trivial⟩ <| cp (oMv tm) (s1 rfl) <| cp (oExt (k := 0) rfl tm) (s1 rfl) <| cp (oExt (k := 1) rfl tm) (s1 rfl) <| cp (oExt (k := 2) rfl tm) (s1 rfl) <| cp (oAs tm) (s1 rfl) <| cp (oAs tm) (s1 rfl) <| cp (oAs tm) (s1 rfl) <| .nil) (by kernel_rfl) ?_
  refine pSeq ?_
  refine wSeq ?_
  refine wSeq ?_
  refine rg (cp (oMv tm) (s1 rfl) <| cp (oNe rfl tm (cI (by decide))) (s1 rfl) <| .nil) (by kernel_rfl) ?_
  refine pSeq ?_
  rcases ic h with ⟨hp6, h⟩ | ⟨hp6, h⟩
  · refine wNT hp6 tm (s1 rfl) ?_
    refine wSkip ?_
    refine pSeq ?_
    refine wSeq ?_
    obtain ⟨o1, h, hk1⟩ := bd h
    refine wJ1 (fun x15 => x15 = o1) (fun x15 => [(3, .d ((kI .i64).sig ((IntKind.i64.wrap ((a3.tmod 20) + 20)).tmod 20))), (4, .d ((kI .i64).sig ((IntKind.i64.wrap ((a4.tmod 20) + 20)).tmod 20))), (5, .p 5 0), (6, .p 6 0), (11, .d ((kL (kR f_api_State)).sig y4.1)), (12, .d ((kI .i64).sig y4.2.1)), (14, .d ((kL (kR f_api_State)).sig y5.1)), (15, .d ((kI .i64).sig y5.2.1)), (103, .d (kB.sig x15))]) (fun x15 => [.box 7 35 [.d (kI .i64) y3.Pc.V, .d (kI .i64) y3.Pc.L, .d (kL (kR f_api_Instr)) y3.Code, .d (kL (kR f_api_Atom)) y3.Mem, .d (kL (kR f_api_Slot)) y3.Stack, .d (kL (kR f_api_Atom)) y3.Out], .box 6 28 [.d (kL (kR f_api_Row)) y2.Rows], .box 5 25 [.d (kL kS) y1.Names, .d (kL (kI .u32)) y1.Up]]) ?_ ?_
    · rcases ic h with ⟨hp16, h⟩ | ⟨hp16, h⟩
      · rcases ic h with ⟨hp17, h⟩ | ⟨hp17, h⟩
        · refine rg (cp (oMv tm) (s1 rfl) <| cp (oNe rfl tm (cI (by decide))) (s1 rfl) <| cp (oMv tm) (s1 rfl) <| cgB (nf hp16) rfl rfl (oMv tm) (s1 rfl) <| cgB (nf hp16) rfl rfl (oLenL u55 tm) (s1 rfl) <| cgB (nf hp16) rfl rfl (oEq rfl tm (cI (by decide))) (s1 rfl) <| cp (oPkF (nf hp16) tm tm) (s2 rfl rfl) <| cp (oMv tm) (s1 rfl) <| csB (decide_eq_true hp17) rfl rfl <| csB (decide_eq_true hp17) rfl rfl <| csB (decide_eq_true hp17) rfl rfl <| csB (decide_eq_true hp17) rfl rfl <| csB (decide_eq_true hp17) rfl rfl <| cp (oPkT (decide_eq_true hp17) tm cB) (s1 rfl) <| cp (oMv tm) (s1 rfl) <| csB rfl rfl rfl <| csB rfl rfl rfl <| csB rfl rfl rfl <| csB rfl rfl rfl <| csB rfl rfl rfl <| cp (oPkT rfl tm cB) (s1 rfl) <| cp (oMv tm) (s1 rfl) <| csB rfl rfl rfl <| csB rfl rfl rfl <| csB rfl rfl rfl <| csB rfl rfl rfl <| csB rfl rfl rfl <| csB rfl rfl rfl <| csB rfl rfl rfl <| cp (oPkT rfl tm cB) (s1 rfl) <| cp (oMv tm) (s1 rfl) <| csB rfl rfl rfl <| csB rfl rfl rfl <| cp (oPkT rfl tm cB) (s1 rfl) <| .nil) (by kernel_rfl) ?_
          exact pJ1 _ (so h) ⟨rfl, rfl, rfl, rfl, rfl, rfl, rfl, rfl, rfl, trivial⟩ rfl
        · rcases ic h with ⟨hp18, h⟩ | ⟨hp18, h⟩
          · refine rg (cp (oMv tm) (s1 rfl) <| cp (oNe rfl tm (cI (by decide))) (s1 rfl) <| cp (oMv tm) (s1 rfl) <| cgB (nf hp16) rfl rfl (oMv tm) (s1 rfl) <| cgB (nf hp16) rfl rfl (oLenL u55 tm) (s1 rfl) <| cgB (nf hp16) rfl rfl (oEq rfl tm (cI (by decide))) (s1 rfl) <| cp (oPkF (nf hp16) tm tm) (s2 rfl rfl) <| cp (oMv tm) (s1 rfl) <| cgB (decide_eq_false hp17) rfl rfl (oMv tm) (s1 rfl) <| cgB (decide_eq_false hp17) rfl rfl (oLenL u55 tm) (s1 rfl) <| cgB (decide_eq_false hp17) rfl rfl (oMv tm) (s1 rfl) <| cgB (decide_eq_false hp17) rfl rfl (oAdd tm (cI (by decide))) (s1 rfl) <| cgB (decide_eq_false hp17) rfl rfl (oGt rfl tm tm) (s2 rfl rfl) <| cp (oPkF (decide_eq_false hp17) tm tm) (s2 rfl rfl) <| cp (oMv tm) (s1 rfl) <| csB (decide_eq_true hp18) rfl rfl <| csB (decide_eq_true hp18) rfl rfl <| csB (decide_eq_true hp18) rfl rfl <| csB (decide_eq_true hp18) rfl rfl <| csB (decide_eq_true hp18) rfl rfl <| cp (oPkT (decide_eq_true hp18) tm cB) (s1 rfl) <| cp (oMv tm) (s1 rfl) <| csB rfl rfl rfl <| csB rfl rfl rfl <| csB rfl rfl rfl <| csB rfl rfl rfl <| csB rfl rfl rfl <| csB rfl rfl rfl <| csB rfl rfl rfl <| cp (oPkT rfl tm cB) (s1 rfl) <| cp (oMv tm) (s1 rfl) <| csB rfl rfl rfl <| csB rfl rfl rfl <| cp (oPkT rfl tm cB) (s1 rfl) <| .nil) (by kernel_rfl) ?_
            exact pJ1 _ (so h) ⟨rfl, rfl, rfl, rfl, rfl, rfl, rfl, rfl, rfl, trivial⟩ rfl
          · rcases ic h with ⟨hp19, h⟩ | ⟨hp19, h⟩
            · refine rg (cp (oMv tm) (s1 rfl) <| cp (oNe rfl tm (cI (by decide))) (s1 rfl) <| cp (oMv tm) (s1 rfl) <| cgB (nf hp16) rfl rfl (oMv tm) (s1 rfl) <| cgB (nf hp16) rfl rfl (oLenL u55 tm) (s1 rfl) <| cgB (nf hp16) rfl rfl (oEq rfl tm (cI (by decide))) (s1 rfl) <| cp (oPkF (nf hp16) tm tm) (s2 rfl rfl) <| cp (oMv tm) (s1 rfl) <| cgB (decide_eq_false hp17) rfl rfl (oMv tm) (s1 rfl) <| cgB (decide_eq_false hp17) rfl rfl (oLenL u55 tm) (s1 rfl) <| cgB (decide_eq_false hp17) rfl rfl (oMv tm) (s1 rfl) <| cgB (decide_eq_false hp17) rfl rfl (oAdd tm (cI (by decide))) (s1 rfl) <| cgB (decide_eq_false hp17) rfl rfl (oGt rfl tm tm) (s2 rfl rfl) <| cp (oPkF (decide_eq_false hp17) tm tm) (s2 rfl rfl) <| cp (oMv tm) (s1 rfl) <| cgB (decide_eq_false hp18) rfl rfl (oMv tm) (s1 rfl) <| cgB (decide_eq_false hp18) rfl rfl (oLenL u55 tm) (s1 rfl) <| cgB (decide_eq_false hp18) rfl rfl (oMv tm) (s1 rfl) <| cgB (decide_eq_false hp18) rfl rfl (oLenL u55 tm) (s1 rfl) <| cgB (decide_eq_false hp18) rfl rfl (oLt rfl tm tm) (s2 rfl rfl) <| cp (oPkF (decide_eq_false hp18) tm tm) (s2 rfl rfl) <| cp (oMv tm) (s1 rfl) <| csB (decide_eq_true hp19) rfl rfl <| csB (decide_eq_true hp19) rfl rfl <| csB (decide_eq_true hp19) rfl rfl <| csB (decide_eq_true hp19) rfl rfl <| csB (decide_eq_true hp19) rfl rfl <| csB (decide_eq_true hp19) rfl rfl <| csB (decide_eq_true hp19) rfl rfl <| cp (oPkT (decide_eq_true hp19) tm cB) (s1 rfl) <| cp (oMv tm) (s1 rfl) <| csB rfl rfl rfl <| csB rfl rfl rfl <| cp (oPkT rfl tm cB) (s1 rfl) <| .nil) (by kernel_rfl) ?_
              exact pJ1 _ (so h) ⟨rfl, rfl, rfl, rfl, rfl, rfl, rfl, rfl, rfl, trivial⟩ rfl
            · obtain ⟨hc20, h⟩ := ib h
              obtain ⟨y21, hy21, h⟩ := bd h
              rcases ic h with ⟨hp22, h⟩ | ⟨hp22, h⟩
              · refine rg (cp (oMv tm) (s1 rfl) <| cp (oNe rfl tm (cI (by decide))) (s1 rfl) <| cp (oMv tm) (s1 rfl) <| cgB (nf hp16) rfl rfl (oMv tm) (s1 rfl) <| cgB (nf hp16) rfl rfl (oLenL u55 tm) (s1 rfl) <| cgB (nf hp16) rfl rfl (oEq rfl tm (cI (by decide))) (s1 rfl) <| cp (oPkF (nf hp16) tm tm) (s2 rfl rfl) <| cp (oMv tm) (s1 rfl) <| cgB (decide_eq_false hp17) rfl rfl (oMv tm) (s1 rfl) <| cgB (decide_eq_false hp17) rfl rfl (oLenL u55 tm) (s1 rfl) <| cgB (decide_eq_false hp17) rfl rfl (oMv tm) (s1 rfl) <| cgB (decide_eq_false hp17) rfl rfl (oAdd tm (cI (by decide))) (s1 rfl) <| cgB (decide_eq_false hp17) rfl rfl (oGt rfl tm tm) (s2 rfl rfl) <| cp (oPkF (decide_eq_false hp17) tm tm) (s2 rfl rfl) <| cp (oMv tm) (s1 rfl) <| cgB (decide_eq_false hp18) rfl rfl (oMv tm) (s1 rfl) <| cgB (decide_eq_false hp18) rfl rfl (oLenL u55 tm) (s1 rfl) <| cgB (decide_eq_false hp18) rfl rfl (oMv tm) (s1 rfl) <| cgB (decide_eq_false hp18) rfl rfl (oLenL u55 tm) (s1 rfl) <| cgB (decide_eq_false hp18) rfl rfl (oLt rfl tm tm) (s2 rfl rfl) <| cp (oPkF (decide_eq_false hp18) tm tm) (s2 rfl rfl) <| cp (oMv tm) (s1 rfl) <| cgB (decide_eq_false hp19) rfl rfl (oMv tm) (s1 rfl) <| cgB (decide_eq_false hp19) rfl rfl (oMv tm) (s1 rfl) <| cgB (decide_eq_false hp19) rfl rfl (oLenL u55 tm) (s1 rfl) <| cgB (decide_eq_false hp19) rfl rfl (oCutHi u55 z35 hc20.1 hc20.2 tm tm) (s2 rfl rfl) <| cgB (decide_eq_false hp19) rfl rfl (oMv tm) (s1 rfl) <| cgB (decide_eq_false hp19) rfl rfl (oCall rfl (reticentlaw11_same.ok hy21) b21 (opds_cons tm (opds_cons tm opds_nil))) (s2 rfl rfl) <| cgB (decide_eq_false hp19) rfl rfl (oNot tm) (s1 rfl) <| cp (oPkF (decide_eq_false hp19) tm tm) (s2 rfl rfl) <| cp (oMv tm) (s1 rfl) <| csB hp22 rfl rfl <| csB hp22 rfl rfl <| cp (oPkT hp22 tm cB) (s1 rfl) <| .nil) (by kernel_rfl) ?_
                exact pJ1 _ (so h) ⟨rfl, rfl, rfl, rfl, rfl, rfl, rfl, rfl, rfl, trivial⟩ rfl
              · obtain ⟨y23, hy23, h⟩ := bd h
                refine rg (cp (oMv tm) (s1 rfl) <| cp (oNe rfl tm (cI (by decide))) (s1 rfl) <| cp (oMv tm) (s1 rfl) <| cgB (nf hp16) rfl rfl (oMv tm) (s1 rfl) <| cgB (nf hp16) rfl rfl (oLenL u55 tm) (s1 rfl) <| cgB (nf hp16) rfl rfl (oEq rfl tm (cI (by decide))) (s1 rfl) <| cp (oPkF (nf hp16) tm tm) (s2 rfl rfl) <| cp (oMv tm) (s1 rfl) <| cgB (decide_eq_false hp17) rfl rfl (oMv tm) (s1 rfl) <| cgB (decide_eq_false hp17) rfl rfl (oLenL u55 tm) (s1 rfl) <| cgB (decide_eq_false hp17) rfl rfl (oMv tm) (s1 rfl) <| cgB (decide_eq_false hp17) rfl rfl (oAdd tm (cI (by decide))) (s1 rfl) <| cgB (decide_eq_false hp17) rfl rfl (oGt rfl tm tm) (s2 rfl rfl) <| cp (oPkF (decide_eq_false hp17) tm tm) (s2 rfl rfl) <| cp (oMv tm) (s1 rfl) <| cgB (decide_eq_false hp18) rfl rfl (oMv tm) (s1 rfl) <| cgB (decide_eq_false hp18) rfl rfl (oLenL u55 tm) (s1 rfl) <| cgB (decide_eq_false hp18) rfl rfl (oMv tm) (s1 rfl) <| cgB (decide_eq_false hp18) rfl rfl (oLenL u55 tm) (s1 rfl) <| cgB (decide_eq_false hp18) rfl rfl (oLt rfl tm tm) (s2 rfl rfl) <| cp (oPkF (decide_eq_false hp18) tm tm) (s2 rfl rfl) <| cp (oMv tm) (s1 rfl) <| cgB (decide_eq_false hp19) rfl rfl (oMv tm) (s1 rfl) <| cgB (decide_eq_false hp19) rfl rfl (oMv tm) (s1 rfl) <| cgB (decide_eq_false hp19) rfl rfl (oLenL u55 tm) (s1 rfl) <| cgB (decide_eq_false hp19) rfl rfl (oCutHi u55 z35 hc20.1 hc20.2 tm tm) (s2 rfl rfl) <| cgB (decide_eq_false hp19) rfl rfl (oMv tm) (s1 rfl) <| cgB (decide_eq_false hp19) rfl rfl (oCall rfl (reticentlaw11_same.ok hy21) b21 (opds_cons tm (opds_cons tm opds_nil))) (s2 rfl rfl) <| cgB (decide_eq_false hp19) rfl rfl (oNot tm) (s1 rfl) <| cp (oPkF (decide_eq_false hp19) tm tm) (s2 rfl rfl) <| cp (oMv tm) (s1 rfl) <| cgB (nb hp22) rfl rfl (oCall rfl (reticentlaw11_alive.ok hy23) b20 opds_nil) trivial <| cgB (nb hp22) rfl rfl (oNot tm) (s1 rfl) <| cp (oPkF (nb hp22) tm tm) (s2 rfl rfl) <| .nil) (by kernel_rfl) ?_
                exact pJ1 _ (so h) ⟨rfl, rfl, rfl, rfl, rfl, rfl, rfl, rfl, rfl, trivial⟩ rfl
      · refine rg (cp (oMv tm) (s1 rfl) <| cp (oNe rfl tm (cI (by decide))) (s1 rfl) <| cp (oMv tm) (s1 rfl) <| csB (nt hp16) rfl rfl <| csB (nt hp16) rfl rfl <| csB (nt hp16) rfl rfl <| cp (oPkT (nt hp16) tm cB) (s1 rfl) <| cp (oMv tm) (s1 rfl) <| csB rfl rfl rfl <| csB rfl rfl rfl <| csB rfl rfl rfl <| csB rfl rfl rfl <| csB rfl rfl rfl <| cp (oPkT rfl tm cB) (s1 rfl) <| cp (oMv tm) (s1 rfl) <| csB rfl rfl rfl <| csB rfl rfl rfl <| csB rfl rfl rfl <| csB rfl rfl rfl <| csB rfl rfl rfl <| cp (oPkT rfl tm cB) (s1 rfl) <| cp (oMv tm) (s1 rfl) <| csB rfl rfl rfl <| csB rfl rfl rfl <| csB rfl rfl rfl <| csB rfl rfl rfl <| csB rfl rfl rfl <| csB rfl rfl rfl <| csB rfl rfl rfl <| cp (oPkT rfl tm cB) (s1 rfl) <| cp (oMv tm) (s1 rfl) <| csB rfl rfl rfl <| csB rfl rfl rfl <| cp (oPkT rfl tm cB) (s1 rfl) <| .nil) (by kernel_rfl) ?_
        exact pJ1 _ (so h) ⟨rfl, rfl, rfl, rfl, rfl, rfl, rfl, rfl, rfl, trivial⟩ rfl
    · rintro x15 rfl
      replace h := hk1
      rcases ic h with ⟨hp24, h⟩ | ⟨hp24, h⟩
      · refine wBT hp24 tm (s1 rfl) ?_
        refine wSeq ?_
        refine rg (cp (oAs cB) trivial <| .nil) (by kernel_rfl) ?_
        refine pSeq ?_
        refine wRet ?_
        refine pThenR ?_
        obtain rfl := so h
        exact pR1 (.inl rfl) rfl (.tmp rfl <| .nil)
      · refine wBF hp24 tm (s1 rfl) ?_
        refine wSkip ?_
        refine pSeq ?_
        refine wSeq ?_
        refine wSeq ?_
        refine rg (cp (oMv tm) (s1 rfl) <| cp (oNe rfl tm (cI (by decide))) (s1 rfl) <| .nil) (by kernel_rfl) ?_
        refine pSeq ?_
        rcases ic h with ⟨hp25, h⟩ | ⟨hp25, h⟩
        · refine wNT hp25 tm (s1 rfl) ?_
          refine wSkip ?_
          refine pSeq ?_
          refine wSeq ?_
          obtain ⟨y26, hy26, h⟩ := bd h
          obtain ⟨y27, hy27, h⟩ := bd h
          refine rgD hm (cr (oLdA (n := 2) (fs := f_api_Lattice) (u := ⟨y1.Names, y1.Up⟩) rfl ⟨rfl, rfl, trivial⟩ t25 tm) (s1 rfl) <| cr (oLdA (n := 1) (fs := f_api_Table) (u := ⟨y2.Rows⟩) rfl ⟨rfl, trivial⟩ t28 tm) (s1 rfl) <| cp (oMv tm) (s1 rfl) <| cp (oMv tm) (s1 rfl) <| cp (oLenL u55 tm) (s1 rfl) <| cp (oSub tm (cI (by decide))) (s1 rfl) <| cp (oIdx u55 z35 hy26 tm tm) (s2 rfl rfl) <| cp (oLd t35 tm) (s1 rfl) <| cp (oMv tm) (s1 rfl) <| cp (oCall rfl (run_Run.ok hy27) b19 (opds_cons tm (opds_cons tm (opds_cons tm (opds_cons tm opds_nil))))) ⟨rfl, rfl, rfl, rfl, trivial⟩ <| cp (oMv tm) (s1 rfl) <| cp (oExt (k := 0) rfl tm) (s1 rfl) <| cp (oExt (k := 1) rfl tm) (s1 rfl) <| cp (oExt (k := 2) rfl tm) (s1 rfl) <| cp (oAs tm) (s1 rfl) <| cp (oAs tm) (s1 rfl) <| cp (oAs tm) (s1 rfl) <| .nil) (by kernel_rfl) (by kernel_rfl) ?_
          refine pSeq ?_
          obtain ⟨o1, h, hk1⟩ := bd h
          refine wJ1 (fun x33 => x33 = o1) (fun x33 => [(10, .d (kB.sig x33))]) (fun x33 => [.box 7 35 [.d (kI .i64) y3.Pc.V, .d (kI .i64) y3.Pc.L, .d (kL (kR f_api_Instr)) y3.Code, .d (kL (kR f_api_Atom)) y3.Mem, .d (kL (kR f_api_Slot)) y3.Stack, .d (kL (kR f_api_Atom)) y3.Out], .box 6 28 [.d (kL (kR f_api_Row)) y2.Rows], .box 5 25 [.d (kL kS) y1.Names, .d (kL (kI .u32)) y1.Up]]) ?_ ?_
          · rcases ic h with ⟨hp34, h⟩ | ⟨hp34, h⟩
            · rcases ic h with ⟨hp35, h⟩ | ⟨hp35, h⟩
              · rcases ic h with ⟨hp36, h⟩ | ⟨hp36, h⟩
                · obtain ⟨hc37, h⟩ := ib h
                  obtain ⟨y38, hy38, h⟩ := bd h
                  refine rg (cp (oMv tm) (s1 rfl) <| cp (oEq rfl tm (cI (by decide))) (s1 rfl) <| cp (oMv tm) (s1 rfl) <| cgB (decide_eq_true hp34) rfl rfl (oMv tm) (s1 rfl) <| cgB (decide_eq_true hp34) rfl rfl (oLenL u55 tm) (s1 rfl) <| cgB (decide_eq_true hp34) rfl rfl (oMv tm) (s1 rfl) <| cgB (decide_eq_true hp34) rfl rfl (oAdd tm (cI (by decide))) (s1 rfl) <| cgB (decide_eq_true hp34) rfl rfl (oEq rfl tm tm) (s2 rfl rfl) <| cp (oPkT (decide_eq_true hp34) tm tm) (s2 rfl rfl) <| cp (oMv tm) (s1 rfl) <| cgB (decide_eq_true hp35) rfl rfl (oMv tm) (s1 rfl) <| cgB (decide_eq_true hp35) rfl rfl (oMv tm) (s1 rfl) <| cgB (decide_eq_true hp35) rfl rfl (oEq rfl tm tm) (s2 rfl rfl) <| cp (oPkT (decide_eq_true hp35) tm tm) (s2 rfl rfl) <| cp (oMv tm) (s1 rfl) <| cgB (decide_eq_true hp36) rfl rfl (oMv tm) (s1 rfl) <| cgB (decide_eq_true hp36) rfl rfl (oMv tm) (s1 rfl) <| cgB (decide_eq_true hp36) rfl rfl (oCutLo u55 z35 hc37.1 hc37.2 tm tm) (s2 rfl rfl) <| cgB (decide_eq_true hp36) rfl rfl (oMv tm) (s1 rfl) <| cgB (decide_eq_true hp36) rfl rfl (oCall rfl (reticentlaw11_same.ok hy38) b21 (opds_cons tm (opds_cons tm opds_nil))) (s2 rfl rfl) <| cp (oPkT (decide_eq_true hp36) tm tm) (s2 rfl rfl) <| cp (oAs tm) (s1 rfl) <| .nil) (by kernel_rfl) ?_
                  exact pJ1 _ (so h) ⟨rfl, trivial⟩ rfl
                · refine rg (cp (oMv tm) (s1 rfl) <| cp (oEq rfl tm (cI (by decide))) (s1 rfl) <| cp (oMv tm) (s1 rfl) <| cgB (decide_eq_true hp34) rfl rfl (oMv tm) (s1 rfl) <| cgB (decide_eq_true hp34) rfl rfl (oLenL u55 tm) (s1 rfl) <| cgB (decide_eq_true hp34) rfl rfl (oMv tm) (s1 rfl) <| cgB (decide_eq_true hp34) rfl rfl (oAdd tm (cI (by decide))) (s1 rfl) <| cgB (decide_eq_true hp34) rfl rfl (oEq rfl tm tm) (s2 rfl rfl) <| cp (oPkT (decide_eq_true hp34) tm tm) (s2 rfl rfl) <| cp (oMv tm) (s1 rfl) <| cgB (decide_eq_true hp35) rfl rfl (oMv tm) (s1 rfl) <| cgB (decide_eq_true hp35) rfl rfl (oMv tm) (s1 rfl) <| cgB (decide_eq_true hp35) rfl rfl (oEq rfl tm tm) (s2 rfl rfl) <| cp (oPkT (decide_eq_true hp35) tm tm) (s2 rfl rfl) <| cp (oMv tm) (s1 rfl) <| csB (decide_eq_false hp36) rfl rfl <| csB (decide_eq_false hp36) rfl rfl <| csB (decide_eq_false hp36) rfl rfl <| csB (decide_eq_false hp36) rfl rfl <| csB (decide_eq_false hp36) rfl rfl <| cp (oPkF (decide_eq_false hp36) tm cB) (s1 rfl) <| cp (oAs tm) (s1 rfl) <| .nil) (by kernel_rfl) ?_
                  exact pJ1 _ (so h) ⟨rfl, trivial⟩ rfl
              · refine rg (cp (oMv tm) (s1 rfl) <| cp (oEq rfl tm (cI (by decide))) (s1 rfl) <| cp (oMv tm) (s1 rfl) <| cgB (decide_eq_true hp34) rfl rfl (oMv tm) (s1 rfl) <| cgB (decide_eq_true hp34) rfl rfl (oLenL u55 tm) (s1 rfl) <| cgB (decide_eq_true hp34) rfl rfl (oMv tm) (s1 rfl) <| cgB (decide_eq_true hp34) rfl rfl (oAdd tm (cI (by decide))) (s1 rfl) <| cgB (decide_eq_true hp34) rfl rfl (oEq rfl tm tm) (s2 rfl rfl) <| cp (oPkT (decide_eq_true hp34) tm tm) (s2 rfl rfl) <| cp (oMv tm) (s1 rfl) <| csB (decide_eq_false hp35) rfl rfl <| csB (decide_eq_false hp35) rfl rfl <| csB (decide_eq_false hp35) rfl rfl <| cp (oPkF (decide_eq_false hp35) tm cB) (s1 rfl) <| cp (oMv tm) (s1 rfl) <| csB rfl rfl rfl <| csB rfl rfl rfl <| csB rfl rfl rfl <| csB rfl rfl rfl <| csB rfl rfl rfl <| cp (oPkF rfl tm cB) (s1 rfl) <| cp (oAs tm) (s1 rfl) <| .nil) (by kernel_rfl) ?_
                exact pJ1 _ (so h) ⟨rfl, trivial⟩ rfl
            · refine rg (cp (oMv tm) (s1 rfl) <| cp (oEq rfl tm (cI (by decide))) (s1 rfl) <| cp (oMv tm) (s1 rfl) <| csB (decide_eq_false hp34) rfl rfl <| csB (decide_eq_false hp34) rfl rfl <| csB (decide_eq_false hp34) rfl rfl <| csB (decide_eq_false hp34) rfl rfl <| csB (decide_eq_false hp34) rfl rfl <| cp (oPkF (decide_eq_false hp34) tm cB) (s1 rfl) <| cp (oMv tm) (s1 rfl) <| csB rfl rfl rfl <| csB rfl rfl rfl <| csB rfl rfl rfl <| cp (oPkF rfl tm cB) (s1 rfl) <| cp (oMv tm) (s1 rfl) <| csB rfl rfl rfl <| csB rfl rfl rfl <| csB rfl rfl rfl <| csB rfl rfl rfl <| csB rfl rfl rfl <| cp (oPkF rfl tm cB) (s1 rfl) <| cp (oAs tm) (s1 rfl) <| .nil) (by kernel_rfl) ?_
              exact pJ1 _ (so h) ⟨rfl, trivial⟩ rfl
          · rintro x33 rfl
            replace h := hk1
            refine wRet ?_
            obtain rfl := so h
            exact pR1 (.inl rfl) rfl (.tmp rfl <| .nil)
        · refine wNF hp25 tm (s1 rfl) ?_
          obtain ⟨o1, h, hk1⟩ := bd h
          refine wJ1 (fun x40 => x40 = o1) (fun x40 => [(10, .d (kB.sig x40))]) (fun x40 => [.box 7 35 [.d (kI .i64) y3.Pc.V, .d (kI .i64) y3.Pc.L, .d (kL (kR f_api_Instr)) y3.Code, .d (kL (kR f_api_Atom)) y3.Mem, .d (kL (kR f_api_Slot)) y3.Stack, .d (kL (kR f_api_Atom)) y3.Out], .box 6 28 [.d (kL (kR f_api_Row)) y2.Rows], .box 5 25 [.d (kL kS) y1.Names, .d (kL (kI .u32)) y1.Up]]) ?_ ?_
          · rcases ic h with ⟨hp41, h⟩ | ⟨hp41, h⟩
            · refine rg (cp (oMv tm) (s1 rfl) <| cp (oMv tm) (s1 rfl) <| cp (oEq rfl tm tm) (s2 rfl rfl) <| cp (oMv tm) (s1 rfl) <| cgB (decide_eq_true hp41) rfl rfl (oMv tm) (s1 rfl) <| cgB (decide_eq_true hp41) rfl rfl (oLenL u55 tm) (s1 rfl) <| cgB (decide_eq_true hp41) rfl rfl (oMv tm) (s1 rfl) <| cgB (decide_eq_true hp41) rfl rfl (oLenL u55 tm) (s1 rfl) <| cgB (decide_eq_true hp41) rfl rfl (oEq rfl tm tm) (s2 rfl rfl) <| cp (oPkT (decide_eq_true hp41) tm tm) (s2 rfl rfl) <| cp (oAs tm) (s1 rfl) <| .nil) (by kernel_rfl) ?_
              exact pJ1 _ (so h) ⟨rfl, trivial⟩ rfl
            · refine rg (cp (oMv tm) (s1 rfl) <| cp (oMv tm) (s1 rfl) <| cp (oEq rfl tm tm) (s2 rfl rfl) <| cp (oMv tm) (s1 rfl) <| csB (decide_eq_false hp41) rfl rfl <| csB (decide_eq_false hp41) rfl rfl <| csB (decide_eq_false hp41) rfl rfl <| csB (decide_eq_false hp41) rfl rfl <| csB (decide_eq_false hp41) rfl rfl <| cp (oPkF (decide_eq_false hp41) tm cB) (s1 rfl) <| cp (oAs tm) (s1 rfl) <| .nil) (by kernel_rfl) ?_
              exact pJ1 _ (so h) ⟨rfl, trivial⟩ rfl
          · rintro x40 rfl
            replace h := hk1
            refine wRet ?_
            refine pThenR ?_
            obtain rfl := so h
            exact pR1 (.inl rfl) rfl (.tmp rfl <| .nil)
  · refine wNF hp6 tm (s1 rfl) ?_
    obtain ⟨o1, h, hk1⟩ := bd h
    refine wJ1 (fun x45 => x45 = o1) (fun x45 => [(10, .d (kB.sig x45))]) (fun x45 => [.box 7 35 [.d (kI .i64) y3.Pc.V, .d (kI .i64) y3.Pc.L, .d (kL (kR f_api_Instr)) y3.Code, .d (kL (kR f_api_Atom)) y3.Mem, .d (kL (kR f_api_Slot)) y3.Stack, .d (kL (kR f_api_Atom)) y3.Out], .box 6 28 [.d (kL (kR f_api_Row)) y2.Rows], .box 5 25 [.d (kL kS) y1.Names, .d (kL (kI .u32)) y1.Up]]) ?_ ?_
    · obtain ⟨y46, hy46, h⟩ := bd h
      rcases ic h with ⟨hp47, h⟩ | ⟨hp47, h⟩
      · rcases ic h with ⟨hp48, h⟩ | ⟨hp48, h⟩
        · refine rg (cp (oCall rfl (reticentlaw11_alive.ok hy46) b20 opds_nil) trivial <| cp (oMv tm) (s1 rfl) <| cgB hp47 rfl rfl (oMv tm) (s1 rfl) <| cgB hp47 rfl rfl (oMv tm) (s1 rfl) <| cgB hp47 rfl rfl (oEq rfl tm tm) (s2 rfl rfl) <| cp (oPkT hp47 tm tm) (s2 rfl rfl) <| cp (oMv tm) (s1 rfl) <| cgB (decide_eq_true hp48) rfl rfl (oMv tm) (s1 rfl) <| cgB (decide_eq_true hp48) rfl rfl (oLenL u55 tm) (s1 rfl) <| cgB (decide_eq_true hp48) rfl rfl (oMv tm) (s1 rfl) <| cgB (decide_eq_true hp48) rfl rfl (oLenL u55 tm) (s1 rfl) <| cgB (decide_eq_true hp48) rfl rfl (oAdd tm tm) (s2 rfl rfl) <| cgB (decide_eq_true hp48) rfl rfl (oEq rfl tm (cI (by decide))) (s1 rfl) <| cp (oPkT (decide_eq_true hp48) tm tm) (s2 rfl rfl) <| cp (oAs tm) (s1 rfl) <| .nil) (by kernel_rfl) ?_
          exact pJ1 _ (so h) ⟨rfl, trivial⟩ rfl
        · refine rg (cp (oCall rfl (reticentlaw11_alive.ok hy46) b20 opds_nil) trivial <| cp (oMv tm) (s1 rfl) <| cgB hp47 rfl rfl (oMv tm) (s1 rfl) <| cgB hp47 rfl rfl (oMv tm) (s1 rfl) <| cgB hp47 rfl rfl (oEq rfl tm tm) (s2 rfl rfl) <| cp (oPkT hp47 tm tm) (s2 rfl rfl) <| cp (oMv tm) (s1 rfl) <| csB (decide_eq_false hp48) rfl rfl <| csB (decide_eq_false hp48) rfl rfl <| csB (decide_eq_false hp48) rfl rfl <| csB (decide_eq_false hp48) rfl rfl <| csB (decide_eq_false hp48) rfl rfl <| csB (decide_eq_false hp48) rfl rfl <| cp (oPkF (decide_eq_false hp48) tm cB) (s1 rfl) <| cp (oAs tm) (s1 rfl) <| .nil) (by kernel_rfl) ?_
          exact pJ1 _ (so h) ⟨rfl, trivial⟩ rfl
      · refine rg (cp (oCall rfl (reticentlaw11_alive.ok hy46) b20 opds_nil) trivial <| cp (oMv tm) (s1 rfl) <| csB (nb hp47) rfl rfl <| csB (nb hp47) rfl rfl <| csB (nb hp47) rfl rfl <| cp (oPkF (nb hp47) tm cB) (s1 rfl) <| cp (oMv tm) (s1 rfl) <| csB rfl rfl rfl <| csB rfl rfl rfl <| csB rfl rfl rfl <| csB rfl rfl rfl <| csB rfl rfl rfl <| csB rfl rfl rfl <| cp (oPkF rfl tm cB) (s1 rfl) <| cp (oAs tm) (s1 rfl) <| .nil) (by kernel_rfl) ?_
        exact pJ1 _ (so h) ⟨rfl, trivial⟩ rfl
    · rintro x45 rfl
      replace h := hk1
      refine wRet ?_
      refine pThenR ?_
      obtain rfl := so h
      exact pR1 (.inl rfl) rfl (.tmp rfl <| .nil)

end Go.Proofs.YtmegdednaimgcaaDoor.TT
