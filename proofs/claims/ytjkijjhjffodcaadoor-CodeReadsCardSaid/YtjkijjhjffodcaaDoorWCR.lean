import Derived.Test.YtjkijjhjffodcaaDoorShelf
import Derived.Test.YtjkijjhjffodcaaDoorWCRp2
import Derived.Test.YtjkijjhjffodcaaDoorProg
set_option linter.unusedVariables false
set_option maxRecDepth 10000
set_option maxHeartbeats 2000000
namespace Go.Proofs.YtjkijjhjffodcaaDoor.CR
open Go Go.Proofs.YtjkijjhjffodcaaDoor.Ab

theorem reticentref08_one.ok {a0 : api_Lattice} {a1 : List api_Tok} {a2 : Int} {a3 : Int} {r : reticentref08_P} (h : reticentref08_one.f a0 a1 a2 a3 = some r) : FnA Tryd.prog 129 [(kR f_api_Lattice).sig a0, (kL (kR f_api_Tok)).sig a1, (kI .i64).sig a2, (kI .i64).sig a3] ((kR f_reticentref08_P).sig r) := by
  refine fnIntro Tryd.func129 rfl (by kernel_rfl) fun H0 w0 => ?_
  unfold reticentref08_one.f at h
  refine wSeq ?_
  refine rg (cp (oBox tm) (s1 rfl) <| cw (oAlloc (id := 8) (ls := [.d (kI .i64) 0, .d (kI .i64) 0, .d (kI .i64) 0, .d (kI .i64) 0, .d (kI .i64) 0, .d (kI .i64) 0]) ze206 (fun g => ⟨[(.int .i64 0)], _, rfl, zI_i64 g.H, ⟨[(.int .i64 0)], _, rfl, zI_i64 g.H, ⟨[(.int .i64 0)], _, rfl, zI_i64 g.H, ⟨[(.int .i64 0)], _, rfl, zI_i64 g.H, ⟨[(.int .i64 0)], _, rfl, zI_i64 g.H, ⟨[(.int .i64 0)], _, rfl, zI_i64 g.H, rfl⟩⟩⟩⟩⟩⟩)) trivial <| .nil) (by kernel_rfl) ?_
  refine pSeq ?_
  refine wSeq ?_
  refine rg (cp (oMv tm) (s1 rfl) <| cp (oAdd tm (cI (by decide))) (s1 rfl) <| cp (oBuild (fs := f_reticentref08_P) (u := ⟨IntKind.i64.wrap (a2 + 1), 0, (⟨0, 0, 0⟩ : api_Instr), 0⟩) rfl ze206 pl206 po206 (.op (zc := [(.int .i64 0)]) tm rfl (.ze (zc := [(.int .i64 0)]) zI_i64 (.ze (zc := [(.int .i64 0), (.int .i64 0), (.int .i64 0)]) zR_api_Instr (.ze (zc := [(.int .i64 0)]) zI_i64 .nil))))) (s1 rfl) <| cw (oAlloc (id := 9) (ls := [.d (kI .i64) 0, .d (kI .i64) 0, .d (kI .i64) 0, .d (kI .i64) 0, .d (kI .i64) 0, .d (kI .i64) 0]) ze206 (fun g => ⟨[(.int .i64 0)], _, rfl, zI_i64 g.H, ⟨[(.int .i64 0)], _, rfl, zI_i64 g.H, ⟨[(.int .i64 0)], _, rfl, zI_i64 g.H, ⟨[(.int .i64 0)], _, rfl, zI_i64 g.H, ⟨[(.int .i64 0)], _, rfl, zI_i64 g.H, ⟨[(.int .i64 0)], _, rfl, zI_i64 g.H, rfl⟩⟩⟩⟩⟩⟩)) trivial <| cwn (oStP (n := 0) (k := 0) (m := 6) (d := (kR f_reticentref08_P)) (u := (⟨IntKind.i64.wrap (a2 + 1), 0, (⟨0, 0, 0⟩ : api_Instr), 0⟩ : reticentref08_P)) (lfS (lfC lf1 (lfC lf1 (lfC (lfS (lfC lf1 (lfC lf1 (lfC lf1 lfN)))) (lfC lf1 lfN))))) rfl rfl rfl z206 tm tm) (s2 rfl rfl) <| .nil) (by kernel_rfl) ?_
  refine pSeq ?_
  refine wSeq ?_
  refine rg (cp (oMv tm) (s1 rfl) <| cp (oFldP o206_2 tm) (s1 rfl) <| cp (oFldP o89_0 tm) (s1 rfl) <| cwn (oSt (n := 0) (k := 2) rfl rfl rfl rfl z3 tm tm) (s2 rfl rfl) <| .nil) (by kernel_rfl) ?_
  refine pSeq ?_
  refine wSeq ?_
  refine wSeq ?_
  obtain ⟨y1, hy1, h⟩ := bd h
  refine rg (cp (oMv tm) (s1 rfl) <| cp (oCall rfl (reticentref08_Number.ok hy1) b183 (opds_cons tm opds_nil)) (s1 rfl) <| .nil) (by kernel_rfl) ?_
  refine pSeq ?_
  rcases ic h with ⟨hp2, h⟩ | ⟨hp2, h⟩
  · refine wBT hp2 tm (s1 rfl) ?_
    refine wSeq ?_
    obtain ⟨y3, hy3, h⟩ := bd h
    refine rg (cp (oMv tm) (s1 rfl) <| cr (oLdP (n := 0) (k := 0) (m := 6) (d := (kR f_reticentref08_P)) (u := (⟨IntKind.i64.wrap (a2 + 1), 0, ⟨a3, 0, 0⟩, 0⟩ : reticentref08_P)) (lfS (lfC lf1 (lfC lf1 (lfC (lfS (lfC lf1 (lfC lf1 (lfC lf1 lfN)))) (lfC lf1 lfN))))) rfl rfl rfl t206 tm) (s1 rfl) <| cp (oCall rfl (reticentref08_Int.ok hy3) b184 (opds_cons tm (opds_cons tm opds_nil))) (s2 rfl rfl) <| cwn (oStP (n := 0) (k := 0) (m := 6) (d := (kR f_reticentref08_P)) (u := y3) (lfS (lfC lf1 (lfC lf1 (lfC (lfS (lfC lf1 (lfC lf1 (lfC lf1 lfN)))) (lfC lf1 lfN))))) rfl rfl rfl z206 tm tm) (s2 rfl rfl) <| .nil) (by kernel_rfl) ?_
    refine pSeq ?_
    refine rg (cp (oFldP o206_1 tm) (s1 rfl) <| cr (oLdB (n := 0) (k := 1) rfl rfl rfl t3 tm) (s1 rfl) <| cp (oFldP o206_2 tm) (s1 rfl) <| cp (oFldP o89_1 tm) (s1 rfl) <| cwn (oSt (n := 0) (k := 3) rfl rfl rfl rfl z3 tm tm) (s2 rfl rfl) <| .nil) (by kernel_rfl) ?_
    refine pSeq ?_
    refine wSeq ?_
    refine wSeq ?_
    refine rg (cp (oMv tm) (s1 rfl) <| cp (oEq rfl tm (cI (by decide))) (s1 rfl) <| .nil) (by kernel_rfl) ?_
    refine pSeq ?_
    rcases ic h with ⟨hp4, h⟩ | ⟨hp4, h⟩
    · refine wCT hp4 tm (s1 rfl) ?_
      refine wSeq ?_
      obtain ⟨y5, hy5, h⟩ := bd h
      refine rg (cp (oLd t59 tm) (s1 rfl) <| cp (oMv tm) (s1 rfl) <| cr (oLdP (n := 0) (k := 0) (m := 6) (d := (kR f_reticentref08_P)) (u := (⟨y3.I, y3.N, ⟨y3.X.Op, y3.N, y3.X.L⟩, y3.E⟩ : reticentref08_P)) (lfS (lfC lf1 (lfC lf1 (lfC (lfS (lfC lf1 (lfC lf1 (lfC lf1 lfN)))) (lfC lf1 lfN))))) rfl rfl rfl t206 tm) (s1 rfl) <| cp (oCall rfl (reticentref08_Label.ok hy5) b185 (opds_cons tm (opds_cons tm (opds_cons tm opds_nil)))) (s3 rfl rfl rfl) <| cwn (oStP (n := 0) (k := 0) (m := 6) (d := (kR f_reticentref08_P)) (u := y5) (lfS (lfC lf1 (lfC lf1 (lfC (lfS (lfC lf1 (lfC lf1 (lfC lf1 lfN)))) (lfC lf1 lfN))))) rfl rfl rfl z206 tm tm) (s2 rfl rfl) <| .nil) (by kernel_rfl) ?_
      refine pSeq ?_
      refine rg (cp (oFldP o206_1 tm) (s1 rfl) <| cr (oLdB (n := 0) (k := 1) rfl rfl rfl t3 tm) (s1 rfl) <| cp (oFldP o206_2 tm) (s1 rfl) <| cp (oFldP o89_2 tm) (s1 rfl) <| cwn (oSt (n := 0) (k := 4) rfl rfl rfl rfl z3 tm tm) (s2 rfl rfl) <| .nil) (by kernel_rfl) ?_
      refine pSeq ?_
      refine wSeq ?_
      obtain ⟨y6, hy6, h⟩ := bd h
      refine rg (cp (oMv tm) (s1 rfl) <| cr (oLdP (n := 0) (k := 0) (m := 6) (d := (kR f_reticentref08_P)) (u := (⟨y5.I, y5.N, ⟨y5.X.Op, y5.X.N, y5.N⟩, y5.E⟩ : reticentref08_P)) (lfS (lfC lf1 (lfC lf1 (lfC (lfS (lfC lf1 (lfC lf1 (lfC lf1 lfN)))) (lfC lf1 lfN))))) rfl rfl rfl t206 tm) (s1 rfl) <| cp (oCall rfl (reticentref08_Mark.ok hy6) b186 (opds_cons tm (opds_cons tm (opds_cons (cS (by decide)) opds_nil)))) (s2 rfl rfl) <| cwn (oStP (n := 0) (k := 0) (m := 6) (d := (kR f_reticentref08_P)) (u := y6) (lfS (lfC lf1 (lfC lf1 (lfC (lfS (lfC lf1 (lfC lf1 (lfC lf1 lfN)))) (lfC lf1 lfN))))) rfl rfl rfl z206 tm tm) (s2 rfl rfl) <| .nil) (by kernel_rfl) ?_
      refine pSeq ?_
      refine wSeq ?_
      obtain ⟨o1, h, hk1⟩ := bd h
      refine wJ1 (fun x9 => x9 = o1) (fun x9 => [(2, .d ((kI .i64).sig a2)), (8, .p 8 0), (9, .p 9 0), (49, .d (kB.sig x9))]) (fun x9 => [.box 9 206 [.d (kI .i64) y6.I, .d (kI .i64) y6.N, .d (kI .i64) y6.X.Op, .d (kI .i64) y6.X.N, .d (kI .i64) y6.X.L, .d (kI .i64) y6.E], .box 8 206 [.d (kI .i64) 0, .d (kI .i64) 0, .d (kI .i64) 0, .d (kI .i64) 0, .d (kI .i64) 0, .d (kI .i64) 0]]) ?_ ?_
      · rcases ic h with ⟨hp10, h⟩ | ⟨hp10, h⟩
        · obtain ⟨y11, hy11, h⟩ := bd h
          refine rg (cp (oFldP o206_3 tm) (s1 rfl) <| cr (oLdB (n := 0) (k := 5) rfl rfl rfl t26 tm) (s1 rfl) <| cp (oEq rfl tm (cI (by decide))) (s1 rfl) <| cp (oMv tm) (s1 rfl) <| cgB (decide_eq_true hp10) rfl rfl (oFld (fs := f_api_Lattice) (k := 1) rfl o59_1 tm) (s1 rfl) <| cgB (decide_eq_true hp10) rfl rfl (oLd t57 tm) (s1 rfl) <| cgB (decide_eq_true hp10) rfl rfl (oLenL u57 tm) (s1 rfl) <| cgB (decide_eq_true hp10) rfl rfl (oFldP o206_2 tm) (s1 rfl) <| crgB (decide_eq_true hp10) rfl rfl (oLdP (n := 0) (k := 2) (m := 3) (d := (kR f_api_Instr)) (u := y6.X) (lfS (lfC lf1 (lfC lf1 (lfC lf1 lfN)))) rfl rfl rfl t89 tm) (s1 rfl) <| cgB (decide_eq_true hp10) rfl rfl (oCall rfl (reticentref08_Instr.ok hy11) b187 (opds_cons tm (opds_cons tm opds_nil))) (s2 rfl rfl) <| cgB (decide_eq_true hp10) rfl rfl (oNot tm) (s1 rfl) <| cp (oPkT (decide_eq_true hp10) tm tm) (s2 rfl rfl) <| .nil) (by kernel_rfl) ?_
          exact pJ1 _ (so h) ⟨rfl, rfl, rfl, rfl, trivial⟩ rfl
        · refine rg (cp (oFldP o206_3 tm) (s1 rfl) <| cr (oLdB (n := 0) (k := 5) rfl rfl rfl t26 tm) (s1 rfl) <| cp (oEq rfl tm (cI (by decide))) (s1 rfl) <| cp (oMv tm) (s1 rfl) <| csB (decide_eq_false hp10) rfl rfl <| csB (decide_eq_false hp10) rfl rfl <| csB (decide_eq_false hp10) rfl rfl <| csB (decide_eq_false hp10) rfl rfl <| csB (decide_eq_false hp10) rfl rfl <| csB (decide_eq_false hp10) rfl rfl <| csB (decide_eq_false hp10) rfl rfl <| cp (oPkF (decide_eq_false hp10) tm cB) (s1 rfl) <| .nil) (by kernel_rfl) ?_
          exact pJ1 _ (so h) ⟨rfl, rfl, rfl, rfl, trivial⟩ rfl
      · rintro x9 rfl
        replace h := hk1
        rcases ic h with ⟨hp12, h⟩ | ⟨hp12, h⟩
        · refine wBT hp12 tm (s1 rfl) ?_
          refine wSeq ?_
          refine rg (cp (oMv tm) (s1 rfl) <| cp (oBuild (fs := f_reticentref08_P) (u := ⟨a2, 0, (⟨0, 0, 0⟩ : api_Instr), 1⟩) rfl ze206 pl206 po206 (.op (zc := [(.int .i64 0)]) tm rfl (.ze (zc := [(.int .i64 0)]) zI_i64 (.ze (zc := [(.int .i64 0), (.int .i64 0), (.int .i64 0)]) zR_api_Instr (.op (zc := [(.int .i64 0)]) (cI (by decide)) rfl .nil))))) (s1 rfl) <| cwn (oStP (n := 1) (k := 0) (m := 6) (d := (kR f_reticentref08_P)) (u := (⟨a2, 0, (⟨0, 0, 0⟩ : api_Instr), 1⟩ : reticentref08_P)) (lfS (lfC lf1 (lfC lf1 (lfC (lfS (lfC lf1 (lfC lf1 (lfC lf1 lfN)))) (lfC lf1 lfN))))) rfl rfl rfl z206 tm tm) (s2 rfl rfl) <| .nil) (by kernel_rfl) ?_
          refine pSeq ?_
          refine wRet ?_
          refine pThenR ?_
          obtain rfl := so h
          exact pR1 (.inl rfl) rfl (.boxP (n := 1) (d := (kR f_reticentref08_P)) (u := (⟨a2, 0, ⟨0, 0, 0⟩, 1⟩ : reticentref08_P)) rfl rfl (lfS (lfC lf1 (lfC lf1 (lfC (lfS (lfC lf1 (lfC lf1 (lfC lf1 lfN)))) (lfC lf1 lfN))))) rfl t206 <| .nil)
        · refine wBF hp12 tm (s1 rfl) ?_
          refine wSkip ?_
          refine pSeq ?_
          refine wSeq ?_
          refine rg (cr (oLdP (n := 0) (k := 0) (m := 6) (d := (kR f_reticentref08_P)) (u := y6) (lfS (lfC lf1 (lfC lf1 (lfC (lfS (lfC lf1 (lfC lf1 (lfC lf1 lfN)))) (lfC lf1 lfN))))) rfl rfl rfl t206 tm) (s1 rfl) <| cwn (oStP (n := 1) (k := 0) (m := 6) (d := (kR f_reticentref08_P)) (u := y6) (lfS (lfC lf1 (lfC lf1 (lfC (lfS (lfC lf1 (lfC lf1 (lfC lf1 lfN)))) (lfC lf1 lfN))))) rfl rfl rfl z206 tm tm) (s2 rfl rfl) <| .nil) (by kernel_rfl) ?_
          refine pSeq ?_
          refine wRet ?_
          obtain rfl := so h
          exact pR1 (.inl rfl) rfl (.boxP (n := 1) (d := (kR f_reticentref08_P)) (u := y6) rfl rfl (lfS (lfC lf1 (lfC lf1 (lfC (lfS (lfC lf1 (lfC lf1 (lfC lf1 lfN)))) (lfC lf1 lfN))))) rfl t206 <| .nil)
    · refine wCF hp4 tm (s1 rfl) ?_
      refine wSkip ?_
      refine pSeq ?_
      refine wSeq ?_
      obtain ⟨y13, hy13, h⟩ := bd h
      refine rg (cp (oMv tm) (s1 rfl) <| cr (oLdP (n := 0) (k := 0) (m := 6) (d := (kR f_reticentref08_P)) (u := (⟨y3.I, y3.N, ⟨y3.X.Op, y3.N, y3.X.L⟩, y3.E⟩ : reticentref08_P)) (lfS (lfC lf1 (lfC lf1 (lfC (lfS (lfC lf1 (lfC lf1 (lfC lf1 lfN)))) (lfC lf1 lfN))))) rfl rfl rfl t206 tm) (s1 rfl) <| cp (oCall rfl (reticentref08_Mark.ok hy13) b186 (opds_cons tm (opds_cons tm (opds_cons (cS (by decide)) opds_nil)))) (s2 rfl rfl) <| cwn (oStP (n := 0) (k := 0) (m := 6) (d := (kR f_reticentref08_P)) (u := y13) (lfS (lfC lf1 (lfC lf1 (lfC (lfS (lfC lf1 (lfC lf1 (lfC lf1 lfN)))) (lfC lf1 lfN))))) rfl rfl rfl z206 tm tm) (s2 rfl rfl) <| .nil) (by kernel_rfl) ?_
      refine pSeq ?_
      refine wSeq ?_
      obtain ⟨o1, h, hk1⟩ := bd h
      refine wJ1 (fun x16 => x16 = o1) (fun x16 => [(2, .d ((kI .i64).sig a2)), (8, .p 8 0), (9, .p 9 0), (49, .d (kB.sig x16))]) (fun x16 => [.box 9 206 [.d (kI .i64) y13.I, .d (kI .i64) y13.N, .d (kI .i64) y13.X.Op, .d (kI .i64) y13.X.N, .d (kI .i64) y13.X.L, .d (kI .i64) y13.E], .box 8 206 [.d (kI .i64) 0, .d (kI .i64) 0, .d (kI .i64) 0, .d (kI .i64) 0, .d (kI .i64) 0, .d (kI .i64) 0]]) ?_ ?_
      · rcases ic h with ⟨hp17, h⟩ | ⟨hp17, h⟩
        · obtain ⟨y18, hy18, h⟩ := bd h
          refine rg (cp (oFldP o206_3 tm) (s1 rfl) <| cr (oLdB (n := 0) (k := 5) rfl rfl rfl t26 tm) (s1 rfl) <| cp (oEq rfl tm (cI (by decide))) (s1 rfl) <| cp (oMv tm) (s1 rfl) <| cgB (decide_eq_true hp17) rfl rfl (oFld (fs := f_api_Lattice) (k := 1) rfl o59_1 tm) (s1 rfl) <| cgB (decide_eq_true hp17) rfl rfl (oLd t57 tm) (s1 rfl) <| cgB (decide_eq_true hp17) rfl rfl (oLenL u57 tm) (s1 rfl) <| cgB (decide_eq_true hp17) rfl rfl (oFldP o206_2 tm) (s1 rfl) <| crgB (decide_eq_true hp17) rfl rfl (oLdP (n := 0) (k := 2) (m := 3) (d := (kR f_api_Instr)) (u := y13.X) (lfS (lfC lf1 (lfC lf1 (lfC lf1 lfN)))) rfl rfl rfl t89 tm) (s1 rfl) <| cgB (decide_eq_true hp17) rfl rfl (oCall rfl (reticentref08_Instr.ok hy18) b187 (opds_cons tm (opds_cons tm opds_nil))) (s2 rfl rfl) <| cgB (decide_eq_true hp17) rfl rfl (oNot tm) (s1 rfl) <| cp (oPkT (decide_eq_true hp17) tm tm) (s2 rfl rfl) <| .nil) (by kernel_rfl) ?_
          exact pJ1 _ (so h) ⟨rfl, rfl, rfl, rfl, trivial⟩ rfl
        · refine rg (cp (oFldP o206_3 tm) (s1 rfl) <| cr (oLdB (n := 0) (k := 5) rfl rfl rfl t26 tm) (s1 rfl) <| cp (oEq rfl tm (cI (by decide))) (s1 rfl) <| cp (oMv tm) (s1 rfl) <| csB (decide_eq_false hp17) rfl rfl <| csB (decide_eq_false hp17) rfl rfl <| csB (decide_eq_false hp17) rfl rfl <| csB (decide_eq_false hp17) rfl rfl <| csB (decide_eq_false hp17) rfl rfl <| csB (decide_eq_false hp17) rfl rfl <| csB (decide_eq_false hp17) rfl rfl <| cp (oPkF (decide_eq_false hp17) tm cB) (s1 rfl) <| .nil) (by kernel_rfl) ?_
          exact pJ1 _ (so h) ⟨rfl, rfl, rfl, rfl, trivial⟩ rfl
      · rintro x16 rfl
        replace h := hk1
        rcases ic h with ⟨hp19, h⟩ | ⟨hp19, h⟩
        · refine wBT hp19 tm (s1 rfl) ?_
          refine wSeq ?_
          refine rg (cp (oMv tm) (s1 rfl) <| cp (oBuild (fs := f_reticentref08_P) (u := ⟨a2, 0, (⟨0, 0, 0⟩ : api_Instr), 1⟩) rfl ze206 pl206 po206 (.op (zc := [(.int .i64 0)]) tm rfl (.ze (zc := [(.int .i64 0)]) zI_i64 (.ze (zc := [(.int .i64 0), (.int .i64 0), (.int .i64 0)]) zR_api_Instr (.op (zc := [(.int .i64 0)]) (cI (by decide)) rfl .nil))))) (s1 rfl) <| cwn (oStP (n := 1) (k := 0) (m := 6) (d := (kR f_reticentref08_P)) (u := (⟨a2, 0, (⟨0, 0, 0⟩ : api_Instr), 1⟩ : reticentref08_P)) (lfS (lfC lf1 (lfC lf1 (lfC (lfS (lfC lf1 (lfC lf1 (lfC lf1 lfN)))) (lfC lf1 lfN))))) rfl rfl rfl z206 tm tm) (s2 rfl rfl) <| .nil) (by kernel_rfl) ?_
          refine pSeq ?_
          refine wRet ?_
          refine pThenR ?_
          obtain rfl := so h
          exact pR1 (.inl rfl) rfl (.boxP (n := 1) (d := (kR f_reticentref08_P)) (u := (⟨a2, 0, ⟨0, 0, 0⟩, 1⟩ : reticentref08_P)) rfl rfl (lfS (lfC lf1 (lfC lf1 (lfC (lfS (lfC lf1 (lfC lf1 (lfC lf1 lfN)))) (lfC lf1 lfN))))) rfl t206 <| .nil)
        · refine wBF hp19 tm (s1 rfl) ?_
          refine wSkip ?_
          refine pSeq ?_
          refine wSeq ?_
          refine rg (cr (oLdP (n := 0) (k := 0) (m := 6) (d := (kR f_reticentref08_P)) (u := y13) (lfS (lfC lf1 (lfC lf1 (lfC (lfS (lfC lf1 (lfC lf1 (lfC lf1 lfN)))) (lfC lf1 lfN))))) rfl rfl rfl t206 tm) (s1 rfl) <| cwn (oStP (n := 1) (k := 0) (m := 6) (d := (kR f_reticentref08_P)) (u := y13) (lfS (lfC lf1 (lfC lf1 (lfC (lfS (lfC lf1 (lfC lf1 (lfC lf1 lfN)))) (lfC lf1 lfN))))) rfl rfl rfl z206 tm tm) (s2 rfl rfl) <| .nil) (by kernel_rfl) ?_
          refine pSeq ?_
          refine wRet ?_
          obtain rfl := so h
          exact pR1 (.inl rfl) rfl (.boxP (n := 1) (d := (kR f_reticentref08_P)) (u := y13) rfl rfl (lfS (lfC lf1 (lfC lf1 (lfC (lfS (lfC lf1 (lfC lf1 (lfC lf1 lfN)))) (lfC lf1 lfN))))) rfl t206 <| .nil)
  · refine wBF hp2 tm (s1 rfl) ?_
    refine wSkip ?_
    refine pSeq ?_
    refine wSeq ?_
    refine wSeq ?_
    refine rg (cp (oMv tm) (s1 rfl) <| cp (oEq rfl tm (cI (by decide))) (s1 rfl) <| .nil) (by kernel_rfl) ?_
    refine pSeq ?_
    rcases ic h with ⟨hp20, h⟩ | ⟨hp20, h⟩
    · refine wCT hp20 tm (s1 rfl) ?_
      refine wSeq ?_
      obtain ⟨y21, hy21, h⟩ := bd h
      refine rg (cp (oLd t59 tm) (s1 rfl) <| cp (oMv tm) (s1 rfl) <| cr (oLdP (n := 0) (k := 0) (m := 6) (d := (kR f_reticentref08_P)) (u := (⟨IntKind.i64.wrap (a2 + 1), 0, ⟨a3, 0, 0⟩, 0⟩ : reticentref08_P)) (lfS (lfC lf1 (lfC lf1 (lfC (lfS (lfC lf1 (lfC lf1 (lfC lf1 lfN)))) (lfC lf1 lfN))))) rfl rfl rfl t206 tm) (s1 rfl) <| cp (oCall rfl (reticentref08_Label.ok hy21) b185 (opds_cons tm (opds_cons tm (opds_cons tm opds_nil)))) (s3 rfl rfl rfl) <| cwn (oStP (n := 0) (k := 0) (m := 6) (d := (kR f_reticentref08_P)) (u := y21) (lfS (lfC lf1 (lfC lf1 (lfC (lfS (lfC lf1 (lfC lf1 (lfC lf1 lfN)))) (lfC lf1 lfN))))) rfl rfl rfl z206 tm tm) (s2 rfl rfl) <| .nil) (by kernel_rfl) ?_
      refine pSeq ?_
      refine rg (cp (oFldP o206_1 tm) (s1 rfl) <| cr (oLdB (n := 0) (k := 1) rfl rfl rfl t3 tm) (s1 rfl) <| cp (oFldP o206_2 tm) (s1 rfl) <| cp (oFldP o89_2 tm) (s1 rfl) <| cwn (oSt (n := 0) (k := 4) rfl rfl rfl rfl z3 tm tm) (s2 rfl rfl) <| .nil) (by kernel_rfl) ?_
      refine pSeq ?_
      refine wSeq ?_
      obtain ⟨y22, hy22, h⟩ := bd h
      refine rg (cp (oMv tm) (s1 rfl) <| cr (oLdP (n := 0) (k := 0) (m := 6) (d := (kR f_reticentref08_P)) (u := (⟨y21.I, y21.N, ⟨y21.X.Op, y21.X.N, y21.N⟩, y21.E⟩ : reticentref08_P)) (lfS (lfC lf1 (lfC lf1 (lfC (lfS (lfC lf1 (lfC lf1 (lfC lf1 lfN)))) (lfC lf1 lfN))))) rfl rfl rfl t206 tm) (s1 rfl) <| cp (oCall rfl (reticentref08_Mark.ok hy22) b186 (opds_cons tm (opds_cons tm (opds_cons (cS (by decide)) opds_nil)))) (s2 rfl rfl) <| cwn (oStP (n := 0) (k := 0) (m := 6) (d := (kR f_reticentref08_P)) (u := y22) (lfS (lfC lf1 (lfC lf1 (lfC (lfS (lfC lf1 (lfC lf1 (lfC lf1 lfN)))) (lfC lf1 lfN))))) rfl rfl rfl z206 tm tm) (s2 rfl rfl) <| .nil) (by kernel_rfl) ?_
      refine pSeq ?_
      refine wSeq ?_
      obtain ⟨o1, h, hk1⟩ := bd h
      refine wJ1 (fun x25 => x25 = o1) (fun x25 => [(2, .d ((kI .i64).sig a2)), (8, .p 8 0), (9, .p 9 0), (49, .d (kB.sig x25))]) (fun x25 => [.box 9 206 [.d (kI .i64) y22.I, .d (kI .i64) y22.N, .d (kI .i64) y22.X.Op, .d (kI .i64) y22.X.N, .d (kI .i64) y22.X.L, .d (kI .i64) y22.E], .box 8 206 [.d (kI .i64) 0, .d (kI .i64) 0, .d (kI .i64) 0, .d (kI .i64) 0, .d (kI .i64) 0, .d (kI .i64) 0]]) ?_ ?_
      · rcases ic h with ⟨hp26, h⟩ | ⟨hp26, h⟩
        · obtain ⟨y27, hy27, h⟩ := bd h
          refine rg (cp (oFldP o206_3 tm) (s1 rfl) <| cr (oLdB (n := 0) (k := 5) rfl rfl rfl t26 tm) (s1 rfl) <| cp (oEq rfl tm (cI (by decide))) (s1 rfl) <| cp (oMv tm) (s1 rfl) <| cgB (decide_eq_true hp26) rfl rfl (oFld (fs := f_api_Lattice) (k := 1) rfl o59_1 tm) (s1 rfl) <| cgB (decide_eq_true hp26) rfl rfl (oLd t57 tm) (s1 rfl) <| cgB (decide_eq_true hp26) rfl rfl (oLenL u57 tm) (s1 rfl) <| cgB (decide_eq_true hp26) rfl rfl (oFldP o206_2 tm) (s1 rfl) <| crgB (decide_eq_true hp26) rfl rfl (oLdP (n := 0) (k := 2) (m := 3) (d := (kR f_api_Instr)) (u := y22.X) (lfS (lfC lf1 (lfC lf1 (lfC lf1 lfN)))) rfl rfl rfl t89 tm) (s1 rfl) <| cgB (decide_eq_true hp26) rfl rfl (oCall rfl (reticentref08_Instr.ok hy27) b187 (opds_cons tm (opds_cons tm opds_nil))) (s2 rfl rfl) <| cgB (decide_eq_true hp26) rfl rfl (oNot tm) (s1 rfl) <| cp (oPkT (decide_eq_true hp26) tm tm) (s2 rfl rfl) <| .nil) (by kernel_rfl) ?_
          exact pJ1 _ (so h) ⟨rfl, rfl, rfl, rfl, trivial⟩ rfl
        · refine rg (cp (oFldP o206_3 tm) (s1 rfl) <| cr (oLdB (n := 0) (k := 5) rfl rfl rfl t26 tm) (s1 rfl) <| cp (oEq rfl tm (cI (by decide))) (s1 rfl) <| cp (oMv tm) (s1 rfl) <| csB (decide_eq_false hp26) rfl rfl <| csB (decide_eq_false hp26) rfl rfl <| csB (decide_eq_false hp26) rfl rfl <| csB (decide_eq_false hp26) rfl rfl <| csB (decide_eq_false hp26) rfl rfl <| csB (decide_eq_false hp26) rfl rfl <| csB (decide_eq_false hp26) rfl rfl <| cp (oPkF (decide_eq_false hp26) tm cB) (s1 rfl) <| .nil) (by kernel_rfl) ?_
          exact pJ1 _ (so h) ⟨rfl, rfl, rfl, rfl, trivial⟩ rfl
      · rintro x25 rfl
        replace h := hk1
        rcases ic h with ⟨hp28, h⟩ | ⟨hp28, h⟩
        · refine wBT hp28 tm (s1 rfl) ?_
          refine wSeq ?_
          refine rg (cp (oMv tm) (s1 rfl) <| cp (oBuild (fs := f_reticentref08_P) (u := ⟨a2, 0, (⟨0, 0, 0⟩ : api_Instr), 1⟩) rfl ze206 pl206 po206 (.op (zc := [(.int .i64 0)]) tm rfl (.ze (zc := [(.int .i64 0)]) zI_i64 (.ze (zc := [(.int .i64 0), (.int .i64 0), (.int .i64 0)]) zR_api_Instr (.op (zc := [(.int .i64 0)]) (cI (by decide)) rfl .nil))))) (s1 rfl) <| cwn (oStP (n := 1) (k := 0) (m := 6) (d := (kR f_reticentref08_P)) (u := (⟨a2, 0, (⟨0, 0, 0⟩ : api_Instr), 1⟩ : reticentref08_P)) (lfS (lfC lf1 (lfC lf1 (lfC (lfS (lfC lf1 (lfC lf1 (lfC lf1 lfN)))) (lfC lf1 lfN))))) rfl rfl rfl z206 tm tm) (s2 rfl rfl) <| .nil) (by kernel_rfl) ?_
          refine pSeq ?_
          refine wRet ?_
          refine pThenR ?_
          obtain rfl := so h
          exact pR1 (.inl rfl) rfl (.boxP (n := 1) (d := (kR f_reticentref08_P)) (u := (⟨a2, 0, ⟨0, 0, 0⟩, 1⟩ : reticentref08_P)) rfl rfl (lfS (lfC lf1 (lfC lf1 (lfC (lfS (lfC lf1 (lfC lf1 (lfC lf1 lfN)))) (lfC lf1 lfN))))) rfl t206 <| .nil)
        · refine wBF hp28 tm (s1 rfl) ?_
          refine wSkip ?_
          refine pSeq ?_
          refine wSeq ?_
          refine rg (cr (oLdP (n := 0) (k := 0) (m := 6) (d := (kR f_reticentref08_P)) (u := y22) (lfS (lfC lf1 (lfC lf1 (lfC (lfS (lfC lf1 (lfC lf1 (lfC lf1 lfN)))) (lfC lf1 lfN))))) rfl rfl rfl t206 tm) (s1 rfl) <| cwn (oStP (n := 1) (k := 0) (m := 6) (d := (kR f_reticentref08_P)) (u := y22) (lfS (lfC lf1 (lfC lf1 (lfC (lfS (lfC lf1 (lfC lf1 (lfC lf1 lfN)))) (lfC lf1 lfN))))) rfl rfl rfl z206 tm tm) (s2 rfl rfl) <| .nil) (by kernel_rfl) ?_
          refine pSeq ?_
          refine wRet ?_
          obtain rfl := so h
          exact pR1 (.inl rfl) rfl (.boxP (n := 1) (d := (kR f_reticentref08_P)) (u := y22) rfl rfl (lfS (lfC lf1 (lfC lf1 (lfC (lfS (lfC lf1 (lfC lf1 (lfC lf1 lfN)))) (lfC lf1 lfN))))) rfl t206 <| .nil)
    · refine wCF hp20 tm (s1 rfl) ?_
      refine wSkip ?_
      refine pSeq ?_
      refine wSeq ?_
      obtain ⟨y29, hy29, h⟩ := bd h
      refine rg (cp (oMv tm) (s1 rfl) <| cr (oLdP (n := 0) (k := 0) (m := 6) (d := (kR f_reticentref08_P)) (u := (⟨IntKind.i64.wrap (a2 + 1), 0, ⟨a3, 0, 0⟩, 0⟩ : reticentref08_P)) (lfS (lfC lf1 (lfC lf1 (lfC (lfS (lfC lf1 (lfC lf1 (lfC lf1 lfN)))) (lfC lf1 lfN))))) rfl rfl rfl t206 tm) (s1 rfl) <| cp (oCall rfl (reticentref08_Mark.ok hy29) b186 (opds_cons tm (opds_cons tm (opds_cons (cS (by decide)) opds_nil)))) (s2 rfl rfl) <| cwn (oStP (n := 0) (k := 0) (m := 6) (d := (kR f_reticentref08_P)) (u := y29) (lfS (lfC lf1 (lfC lf1 (lfC (lfS (lfC lf1 (lfC lf1 (lfC lf1 lfN)))) (lfC lf1 lfN))))) rfl rfl rfl z206 tm tm) (s2 rfl rfl) <| .nil) (by kernel_rfl) ?_
      refine pSeq ?_
      refine wSeq ?_
      obtain ⟨o1, h, hk1⟩ := bd h
      refine wJ1 (fun x32 => x32 = o1) (fun x32 => [(2, .d ((kI .i64).sig a2)), (8, .p 8 0), (9, .p 9 0), (49, .d (kB.sig x32))]) (fun x32 => [.box 9 206 [.d (kI .i64) y29.I, .d (kI .i64) y29.N, .d (kI .i64) y29.X.Op, .d (kI .i64) y29.X.N, .d (kI .i64) y29.X.L, .d (kI .i64) y29.E], .box 8 206 [.d (kI .i64) 0, .d (kI .i64) 0, .d (kI .i64) 0, .d (kI .i64) 0, .d (kI .i64) 0, .d (kI .i64) 0]]) ?_ ?_
      · rcases ic h with ⟨hp33, h⟩ | ⟨hp33, h⟩
        · obtain ⟨y34, hy34, h⟩ := bd h
          refine rg (cp (oFldP o206_3 tm) (s1 rfl) <| cr (oLdB (n := 0) (k := 5) rfl rfl rfl t26 tm) (s1 rfl) <| cp (oEq rfl tm (cI (by decide))) (s1 rfl) <| cp (oMv tm) (s1 rfl) <| cgB (decide_eq_true hp33) rfl rfl (oFld (fs := f_api_Lattice) (k := 1) rfl o59_1 tm) (s1 rfl) <| cgB (decide_eq_true hp33) rfl rfl (oLd t57 tm) (s1 rfl) <| cgB (decide_eq_true hp33) rfl rfl (oLenL u57 tm) (s1 rfl) <| cgB (decide_eq_true hp33) rfl rfl (oFldP o206_2 tm) (s1 rfl) <| crgB (decide_eq_true hp33) rfl rfl (oLdP (n := 0) (k := 2) (m := 3) (d := (kR f_api_Instr)) (u := y29.X) (lfS (lfC lf1 (lfC lf1 (lfC lf1 lfN)))) rfl rfl rfl t89 tm) (s1 rfl) <| cgB (decide_eq_true hp33) rfl rfl (oCall rfl (reticentref08_Instr.ok hy34) b187 (opds_cons tm (opds_cons tm opds_nil))) (s2 rfl rfl) <| cgB (decide_eq_true hp33) rfl rfl (oNot tm) (s1 rfl) <| cp (oPkT (decide_eq_true hp33) tm tm) (s2 rfl rfl) <| .nil) (by kernel_rfl) ?_
          exact pJ1 _ (so h) ⟨rfl, rfl, rfl, rfl, trivial⟩ rfl
        · refine rg (cp (oFldP o206_3 tm) (s1 rfl) <| cr (oLdB (n := 0) (k := 5) rfl rfl rfl t26 tm) (s1 rfl) <| cp (oEq rfl tm (cI (by decide))) (s1 rfl) <| cp (oMv tm) (s1 rfl) <| csB (decide_eq_false hp33) rfl rfl <| csB (decide_eq_false hp33) rfl rfl <| csB (decide_eq_false hp33) rfl rfl <| csB (decide_eq_false hp33) rfl rfl <| csB (decide_eq_false hp33) rfl rfl <| csB (decide_eq_false hp33) rfl rfl <| csB (decide_eq_false hp33) rfl rfl <| cp (oPkF (decide_eq_false hp33) tm cB) (s1 rfl) <| .nil) (by kernel_rfl) ?_
          exact pJ1 _ (so h) ⟨rfl, rfl, rfl, rfl, trivial⟩ rfl
      · rintro x32 rfl
        replace h := hk1
        rcases ic h with ⟨hp35, h⟩ | ⟨hp35, h⟩
        · refine wBT hp35 tm (s1 rfl) ?_
          refine wSeq ?_
          refine rg (cp (oMv tm) (s1 rfl) <| cp (oBuild (fs := f_reticentref08_P) (u := ⟨a2, 0, (⟨0, 0, 0⟩ : api_Instr), 1⟩) rfl ze206 pl206 po206 (.op (zc := [(.int .i64 0)]) tm rfl (.ze (zc := [(.int .i64 0)]) zI_i64 (.ze (zc := [(.int .i64 0), (.int .i64 0), (.int .i64 0)]) zR_api_Instr (.op (zc := [(.int .i64 0)]) (cI (by decide)) rfl .nil))))) (s1 rfl) <| cwn (oStP (n := 1) (k := 0) (m := 6) (d := (kR f_reticentref08_P)) (u := (⟨a2, 0, (⟨0, 0, 0⟩ : api_Instr), 1⟩ : reticentref08_P)) (lfS (lfC lf1 (lfC lf1 (lfC (lfS (lfC lf1 (lfC lf1 (lfC lf1 lfN)))) (lfC lf1 lfN))))) rfl rfl rfl z206 tm tm) (s2 rfl rfl) <| .nil) (by kernel_rfl) ?_
          refine pSeq ?_
          refine wRet ?_
          refine pThenR ?_
          obtain rfl := so h
          exact pR1 (.inl rfl) rfl (.boxP (n := 1) (d := (kR f_reticentref08_P)) (u := (⟨a2, 0, ⟨0, 0, 0⟩, 1⟩ : reticentref08_P)) rfl rfl (lfS (lfC lf1 (lfC lf1 (lfC (lfS (lfC lf1 (lfC lf1 (lfC lf1 lfN)))) (lfC lf1 lfN))))) rfl t206 <| .nil)
        · refine wBF hp35 tm (s1 rfl) ?_
          refine wSkip ?_
          refine pSeq ?_
          refine wSeq ?_
          refine rg (cr (oLdP (n := 0) (k := 0) (m := 6) (d := (kR f_reticentref08_P)) (u := y29) (lfS (lfC lf1 (lfC lf1 (lfC (lfS (lfC lf1 (lfC lf1 (lfC lf1 lfN)))) (lfC lf1 lfN))))) rfl rfl rfl t206 tm) (s1 rfl) <| cwn (oStP (n := 1) (k := 0) (m := 6) (d := (kR f_reticentref08_P)) (u := y29) (lfS (lfC lf1 (lfC lf1 (lfC (lfS (lfC lf1 (lfC lf1 (lfC lf1 lfN)))) (lfC lf1 lfN))))) rfl rfl rfl z206 tm tm) (s2 rfl rfl) <| .nil) (by kernel_rfl) ?_
          refine pSeq ?_
          refine wRet ?_
          obtain rfl := so h
          exact pR1 (.inl rfl) rfl (.boxP (n := 1) (d := (kR f_reticentref08_P)) (u := y29) rfl rfl (lfS (lfC lf1 (lfC lf1 (lfC (lfS (lfC lf1 (lfC lf1 (lfC lf1 lfN)))) (lfC lf1 lfN))))) rfl t206 <| .nil)

theorem reticentref08_From.ok {a0 : api_Lattice} {a1 : List api_Tok} {a2 : Int} {r : reticentref08_C} (h : reticentref08_From.f a0 a1 a2 = some r) : FnA Tryd.prog 75 [(kR f_api_Lattice).sig a0, (kL (kR f_api_Tok)).sig a1, (kI .i64).sig a2] ((kR f_reticentref08_C).sig r) := by
  refine fnIntro Tryd.func75 rfl (by kernel_rfl) fun H0 w0 => ?_
  unfold reticentref08_From.f at h
  refine wSeq ?_
  refine rg (cp (oBox tm) (s1 rfl) <| cw (oAlloc (id := 6) (ls := [.d (kL (kR f_api_Instr)) [], .d (kI .i64) 0, .d (kI .i64) 0]) ze65 (fun g => ⟨[(.slice none 0 0)], _, rfl, zL g.H, ⟨[(.int .i64 0)], _, rfl, zI_i64 g.H, ⟨[(.int .i64 0)], _, rfl, zI_i64 g.H, rfl⟩⟩⟩)) trivial <| .nil) (by kernel_rfl) ?_
  refine pSeq ?_
  refine wSeq ?_
  refine rg (cw (oLitR (id := 9) (d := (kR f_api_Instr)) el61 (by decide) rfl rfl rfl e0) trivial <| cp (oAs tm) (s1 rfl) <| .nil) (by kernel_rfl) ?_
  refine pSeq ?_
  refine wWeak (Γ' := [(1, .d ((kL (kR f_api_Tok)).sig a1)), (2, .d ((kI .i64).sig a2)), (3, .d (sP (kR f_api_Lattice) a0)), (6, .p 6 0), (7, .v 9)]) ⟨rfl, rfl, rfl, rfl, rfl, trivial⟩ ?_
  refine wRen 9 1007 rfl ?_
  obtain ⟨o1, h, hk1⟩ := bd h
  refine wJ2 (fun x35 x36 => .inr (x35, x36) = o1) (fun x35 x36 => [(2, .d ((kI .i64).sig x36)), (6, .p 6 0), (7, .v 1007)]) (fun x35 x36 => [.row 1007 89 (kR f_api_Instr) x35, .box 6 65 [.d (kL (kR f_api_Instr)) [], .d (kI .i64) 0, .d (kI .i64) 0]]) ?_ ?_
  · refine wBlock (wLoop ?_)
    refine lW (pc2 o1 (fun v33 v34 => [(1, .d ((kL (kR f_api_Tok)).sig a1)), (2, .d ((kI .i64).sig v34)), (3, .d (sP (kR f_api_Lattice) a0)), (6, .p 6 0), (7, .v 1007)]) (fun v33 v34 => [.row 1007 89 (kR f_api_Instr) v33, .box 6 65 [.d (kL (kR f_api_Instr)) [], .d (kI .i64) 0, .d (kI .i64) 0]]) (reticentref08_From.l0.partial_correctness a0 a1) ?_ _ _ h) ⟨rfl, rfl, rfl, rfl, rfl, trivial⟩ rfl
    clear h
    intro f' ih v33 v34 h
    refine wSeq ?_
    obtain ⟨o2, h, hk2⟩ := bd h
    refine wJ1 (fun x41 => x41 = o2) (fun x41 => [(1, .d ((kL (kR f_api_Tok)).sig a1)), (2, .d ((kI .i64).sig v34)), (3, .d (sP (kR f_api_Lattice) a0)), (6, .p 6 0), (7, .v 1007), (24, .d (kB.sig x41))]) (fun x41 => [.row 1007 89 (kR f_api_Instr) v33, .box 6 65 [.d (kL (kR f_api_Instr)) [], .d (kI .i64) 0, .d (kI .i64) 0]]) ?_ ?_
    · obtain ⟨y42, hy42, h⟩ := bd h
      rcases ic h with ⟨hp43, h⟩ | ⟨hp43, h⟩
      · obtain ⟨y44, hy44, h⟩ := bd h
        obtain ⟨y45, hy45, h⟩ := bd h
        refine rg (cp (oMv tm) (s1 rfl) <| cp (oMv tm) (s1 rfl) <| cp (oIdx u71 z123 hy42 tm tm) (s2 rfl rfl) <| cp (oFld (fs := f_api_Tok) (k := 0) rfl o123_0 tm) (s1 rfl) <| cp (oLd t3 tm) (s1 rfl) <| cp (oEq rfl tm (cI (by decide))) (s1 rfl) <| cp (oMv tm) (s1 rfl) <| cgB (decide_eq_true hp43) rfl rfl (oMv tm) (s1 rfl) <| cgB (decide_eq_true hp43) rfl rfl (oMv tm) (s1 rfl) <| cgB (decide_eq_true hp43) rfl rfl (oIdx u71 z123 hy44 tm tm) (s2 rfl rfl) <| cgB (decide_eq_true hp43) rfl rfl (oFld (fs := f_api_Tok) (k := 1) rfl o123_1 tm) (s1 rfl) <| cgB (decide_eq_true hp43) rfl rfl (oLd t9 tm) (s1 rfl) <| cgB (decide_eq_true hp43) rfl rfl (oCall rfl (reticentref06_Op.ok hy45) b64 (opds_cons tm opds_nil)) (s1 rfl) <| cgB (decide_eq_true hp43) rfl rfl (oGe rfl tm (cI (by decide))) (s1 rfl) <| cp (oPkT (decide_eq_true hp43) tm tm) (s2 rfl rfl) <| .nil) (by kernel_rfl) ?_
        exact pJ1 _ (so h) ⟨rfl, rfl, rfl, rfl, rfl, rfl, trivial⟩ rfl
      · refine rg (cp (oMv tm) (s1 rfl) <| cp (oMv tm) (s1 rfl) <| cp (oIdx u71 z123 hy42 tm tm) (s2 rfl rfl) <| cp (oFld (fs := f_api_Tok) (k := 0) rfl o123_0 tm) (s1 rfl) <| cp (oLd t3 tm) (s1 rfl) <| cp (oEq rfl tm (cI (by decide))) (s1 rfl) <| cp (oMv tm) (s1 rfl) <| csB (decide_eq_false hp43) rfl rfl <| csB (decide_eq_false hp43) rfl rfl <| csB (decide_eq_false hp43) rfl rfl <| csB (decide_eq_false hp43) rfl rfl <| csB (decide_eq_false hp43) rfl rfl <| csB (decide_eq_false hp43) rfl rfl <| csB (decide_eq_false hp43) rfl rfl <| cp (oPkF (decide_eq_false hp43) tm cB) (s1 rfl) <| .nil) (by kernel_rfl) ?_
        exact pJ1 _ (so h) ⟨rfl, rfl, rfl, rfl, rfl, rfl, trivial⟩ rfl
    · rintro x41 rfl
      replace h := hk2
      rcases ic h with ⟨hp46, h⟩ | ⟨hp46, h⟩
      · refine wBT hp46 tm (s1 rfl) ?_
        refine wSkip ?_
        refine pSeq ?_
        refine wBlock ?_
        refine wSeq ?_
        refine wSeq ?_
        refine rg (cp (oMv tm) (s1 rfl) <| cr (oLenR (n := 0) u61 rfl tm) (s1 rfl) <| cp (oEq rfl tm (cI (by decide))) (s1 rfl) <| .nil) (by kernel_rfl) ?_
        refine pSeq ?_
        rcases ic h with ⟨hp47, h⟩ | ⟨hp47, h⟩
        · refine wCT hp47 tm (s1 rfl) ?_
          refine wSeq ?_
          refine rg (cp (oMv tm) (s1 rfl) <| cp (oBuild (fs := f_reticentref08_C) (u := ⟨[], v34, 8⟩) rfl ze65 pl65 po65 (.ze (zc := [(.slice none 0 0)]) zL (.op (zc := [(.int .i64 0)]) tm rfl (.op (zc := [(.int .i64 0)]) (cI (by decide)) rfl .nil)))) (s1 rfl) <| cwn (oStA (n := 1) (fs := f_reticentref08_C) rfl rfl z65 tm tm) (s2 rfl rfl) <| .nil) (by kernel_rfl) ?_
          refine pSeq ?_
          refine wRet ?_
          refine pThenR ?_
          refine pBlkR ?_
          refine pThenR ?_
          refine pBlkR ?_
          refine pThenR ?_
          obtain rfl := so h
          replace h := hk1
          obtain rfl := so h
          exact pR1 (.inl rfl) rfl (.box (n := 1) (fs := f_reticentref08_C) (u := ⟨[], v34, 8⟩) rfl rfl ⟨rfl, rfl, rfl, trivial⟩ t65 <| .nil)
        · refine wCF hp47 tm (s1 rfl) ?_
          refine wSkip ?_
          refine pSeq ?_
          refine wSeq ?_
          obtain ⟨y48, hy48, h⟩ := bd h
          obtain ⟨y49, hy49, h⟩ := bd h
          obtain ⟨y50, hy50, h⟩ := bd h
          refine rgD hm (cp (oLd t59 tm) (s1 rfl) <| cp (oMv tm) (s1 rfl) <| cp (oMv tm) (s1 rfl) <| cp (oMv tm) (s1 rfl) <| cp (oMv tm) (s1 rfl) <| cp (oIdx u71 z123 hy48 tm tm) (s2 rfl rfl) <| cp (oFld (fs := f_api_Tok) (k := 1) rfl o123_1 tm) (s1 rfl) <| cp (oLd t9 tm) (s1 rfl) <| cp (oCall rfl (reticentref06_Op.ok hy49) b64 (opds_cons tm opds_nil)) (s1 rfl) <| cp (oCall rfl (reticentref08_one.ok hy50) b129 (opds_cons tm (opds_cons tm (opds_cons tm (opds_cons tm opds_nil))))) ⟨rfl, rfl, rfl, rfl, trivial⟩ <| cw (oAlloc (id := 8) (ls := [.d (kI .i64) 0, .d (kI .i64) 0, .d (kI .i64) 0, .d (kI .i64) 0, .d (kI .i64) 0, .d (kI .i64) 0]) ze206 (fun g => ⟨[(.int .i64 0)], _, rfl, zI_i64 g.H, ⟨[(.int .i64 0)], _, rfl, zI_i64 g.H, ⟨[(.int .i64 0)], _, rfl, zI_i64 g.H, ⟨[(.int .i64 0)], _, rfl, zI_i64 g.H, ⟨[(.int .i64 0)], _, rfl, zI_i64 g.H, ⟨[(.int .i64 0)], _, rfl, zI_i64 g.H, rfl⟩⟩⟩⟩⟩⟩)) trivial <| cwn (oStP (n := 0) (k := 0) (m := 6) (d := (kR f_reticentref08_P)) (u := y50) (lfS (lfC lf1 (lfC lf1 (lfC (lfS (lfC lf1 (lfC lf1 (lfC lf1 lfN)))) (lfC lf1 lfN))))) rfl rfl rfl z206 tm tm) (s2 rfl rfl) <| .nil) (by kernel_rfl) (by kernel_rfl) ?_
          refine pSeq ?_
          refine wSeq ?_
          refine wSeq ?_
          refine rg (cp (oFldP o206_3 tm) (s1 rfl) <| cr (oLdB (n := 0) (k := 5) rfl rfl rfl t26 tm) (s1 rfl) <| cp (oNe rfl tm (cI (by decide))) (s1 rfl) <| .nil) (by kernel_rfl) ?_
          refine pSeq ?_
          rcases ic h with ⟨hp51, h⟩ | ⟨hp51, h⟩
          · refine wNT hp51 tm (s1 rfl) ?_
            refine wSkip ?_
            refine pSeq ?_
            refine wSeq ?_
            obtain ⟨hc52, h⟩ := ib h
            refine rg (cp (oMv tm) (s1 rfl) <| cp (oFldP o206_2 tm) (s1 rfl) <| cr (oLdP (n := 0) (k := 2) (m := 3) (d := (kR f_api_Instr)) (u := y50.X) (lfS (lfC lf1 (lfC lf1 (lfC lf1 lfN)))) rfl rfl rfl t89 tm) (s1 rfl) <| cp (oLit (d := (kR f_api_Instr)) el61 (by decide) rfl rfl rfl (e1 tm e0)) (s1 rfl) <| cw (oApp (n := 1) (id' := 52) el61 (by decide) rfl (by decide) hc52 tm tm) (s2 rfl rfl) <| cp (oAs tm) (s1 rfl) <| .nil) (by kernel_rfl) ?_
            refine pSeq ?_
            refine rg (cp (oFldP o206_0 tm) (s1 rfl) <| cr (oLdB (n := 0) (k := 0) rfl rfl rfl t3 tm) (s1 rfl) <| cp (oAs tm) (s1 rfl) <| .nil) (by kernel_rfl) ?_
            refine pBlkN ?_
            refine pDrop (.cons _ (.cons_cons _ (.cons_cons _ .slnil))) ?_
            refine pSub (Γ' := [(1, .d ((kL (kR f_api_Tok)).sig a1)), (2, .d ((kI .i64).sig y50.I)), (3, .d (sP (kR f_api_Lattice) a0)), (6, .p 6 0), (7, .v 52)]) ⟨rfl, rfl, rfl, rfl, rfl, trivial⟩ ?_
            refine pRen 52 1007 rfl ?_
            exact pLoop (lW (ih _ _ h) ⟨rfl, rfl, rfl, rfl, rfl, trivial⟩ rfl)
          · refine wNF hp51 tm (s1 rfl) ?_
            refine wSeq ?_
            refine rg (cp (oFldP o206_0 tm) (s1 rfl) <| cr (oLdB (n := 0) (k := 0) rfl rfl rfl t3 tm) (s1 rfl) <| cp (oFldP o206_3 tm) (s1 rfl) <| cr (oLdB (n := 0) (k := 5) rfl rfl rfl t26 tm) (s1 rfl) <| cp (oBuild (fs := f_reticentref08_C) (u := ⟨[], y50.I, y50.E⟩) rfl ze65 pl65 po65 (.ze (zc := [(.slice none 0 0)]) zL (.op (zc := [(.int .i64 0)]) tm rfl (.op (zc := [(.int .i64 0)]) tm rfl .nil)))) (s2 rfl rfl) <| cwn (oStA (n := 2) (fs := f_reticentref08_C) rfl rfl z65 tm tm) (s2 rfl rfl) <| .nil) (by kernel_rfl) ?_
            refine pSeq ?_
            refine wRet ?_
            refine pThenR ?_
            refine pBlkR ?_
            refine pThenR ?_
            refine pBlkR ?_
            refine pThenR ?_
            obtain rfl := so h
            replace h := hk1
            obtain rfl := so h
            exact pR1 (.inl rfl) rfl (.box (n := 2) (fs := f_reticentref08_C) (u := ⟨[], y50.I, y50.E⟩) rfl rfl ⟨rfl, rfl, rfl, trivial⟩ t65 <| .nil)
      · refine wBF hp46 tm (s1 rfl) ?_
        refine wExit ?_
        refine pThenX ?_
        refine pThenX ?_
        refine pBlkX ?_
        exact pJ2 _ _ (so h) ⟨rfl, rfl, rfl, trivial⟩ rfl
  · rintro x35 x36 rfl
    replace h := hk1
    refine wSeq ?_
    refine wFrzR (n := 0) (id := 1007) [7] rfl rfl ⟨rfl, trivial⟩ ?_
    refine rg (cp (oMv tm) (s1 rfl) <| cp (oMv tm) (s1 rfl) <| cp (oBuild (fs := f_reticentref08_C) (u := ⟨x35, x36, 0⟩) rfl ze65 pl65 po65 (.op (zc := [(.slice none 0 0)]) tm rfl (.op (zc := [(.int .i64 0)]) tm rfl (.ze (zc := [(.int .i64 0)]) zI_i64 .nil)))) (s2 rfl rfl) <| cwn (oStA (n := 0) (fs := f_reticentref08_C) rfl rfl z65 tm tm) (s2 rfl rfl) <| .nil) (by kernel_rfl) ?_
    refine pSeq ?_
    refine wRet ?_
    obtain rfl := so h
    exact pR1 (.inl rfl) rfl (.box (n := 0) (fs := f_reticentref08_C) (u := ⟨x35, x36, 0⟩) rfl rfl ⟨rfl, rfl, rfl, trivial⟩ t65 <| .nil)

theorem reticentref08_Parse.ok {a0 : api_Lattice} {a1 : Str} {r : reticentref08_C} (h : reticentref08_Parse.f a0 a1 = some r) : FnA Tryd.prog 33 [(kR f_api_Lattice).sig a0, kS.sig a1] ((kR f_reticentref08_C).sig r) := by
  refine fnIntro Tryd.func33 rfl (by kernel_rfl) fun H0 w0 => ?_
  unfold reticentref08_Parse.f at h
  refine wSeq ?_
  refine rg (cp (oBox tm) (s1 rfl) <| cw (oAlloc (id := 4) (ls := [.d (kL (kR f_api_Instr)) [], .d (kI .i64) 0, .d (kI .i64) 0]) ze65 (fun g => ⟨[(.slice none 0 0)], _, rfl, zL g.H, ⟨[(.int .i64 0)], _, rfl, zI_i64 g.H, ⟨[(.int .i64 0)], _, rfl, zI_i64 g.H, rfl⟩⟩⟩)) trivial <| .nil) (by kernel_rfl) ?_
  refine pSeq ?_
  refine wSeq ?_
  obtain ⟨y1, hy1, h⟩ := bd h
  refine rg (cp (oLd t59 tm) (s1 rfl) <| cp (oCall rfl (reticentref01_Check.ok hy1) b74 (opds_cons tm opds_nil)) (s1 rfl) <| cp (oAs tm) (s1 rfl) <| .nil) (by kernel_rfl) ?_
  refine pSeq ?_
  refine wSeq ?_
  refine wSeq ?_
  refine rg (cp (oMv tm) (s1 rfl) <| cp (oNe rfl tm (cI (by decide))) (s1 rfl) <| .nil) (by kernel_rfl) ?_
  refine pSeq ?_
  rcases ic h with ⟨hp2, h⟩ | ⟨hp2, h⟩
  · refine wNT hp2 tm (s1 rfl) ?_
    refine wSkip ?_
    refine pSeq ?_
    refine wSeq ?_
    obtain ⟨y3, hy3, h⟩ := bd h
    refine rg (cp (oMv tm) (s1 rfl) <| cp (oCall rfl (reticentref03_Lex.ok hy3) b63 (opds_cons tm opds_nil)) (s1 rfl) <| cw (oAlloc (id := 6) (ls := [.d (kL (kR f_api_Tok)) [], .d (kI .i64) 0, .d (kI .i64) 0]) ze119 (fun g => ⟨[(.slice none 0 0)], _, rfl, zL g.H, ⟨[(.int .i64 0)], _, rfl, zI_i64 g.H, ⟨[(.int .i64 0)], _, rfl, zI_i64 g.H, rfl⟩⟩⟩)) trivial <| cwn (oStA (n := 0) (fs := f_reticentref03_R) rfl rfl z119 tm tm) (s2 rfl rfl) <| .nil) (by kernel_rfl) ?_
    refine pSeq ?_
    refine wSeq ?_
    refine wSeq ?_
    refine rg (cp (oFldP o119_2 tm) (s1 rfl) <| cr (oLdB (n := 0) (k := 2) rfl rfl rfl t26 tm) (s1 rfl) <| cp (oNe rfl tm (cI (by decide))) (s1 rfl) <| .nil) (by kernel_rfl) ?_
    refine pSeq ?_
    rcases ic h with ⟨hp4, h⟩ | ⟨hp4, h⟩
    · refine wNT hp4 tm (s1 rfl) ?_
      refine wSkip ?_
      refine pSeq ?_
      refine wSeq ?_
      obtain ⟨y5, hy5, h⟩ := bd h
      refine rg (cp (oLd t59 tm) (s1 rfl) <| cp (oFldP o119_0 tm) (s1 rfl) <| cr (oLdB (n := 0) (k := 0) rfl rfl rfl t71 tm) (s1 rfl) <| cp (oCall rfl (reticentref08_From.ok hy5) b75 (opds_cons tm (opds_cons tm (opds_cons (cI (by decide)) opds_nil)))) (s2 rfl rfl) <| cw (oAlloc (id := 7) (ls := [.d (kL (kR f_api_Instr)) [], .d (kI .i64) 0, .d (kI .i64) 0]) ze65 (fun g => ⟨[(.slice none 0 0)], _, rfl, zL g.H, ⟨[(.int .i64 0)], _, rfl, zI_i64 g.H, ⟨[(.int .i64 0)], _, rfl, zI_i64 g.H, rfl⟩⟩⟩)) trivial <| cwn (oStA (n := 0) (fs := f_reticentref08_C) rfl rfl z65 tm tm) (s2 rfl rfl) <| .nil) (by kernel_rfl) ?_
      refine pSeq ?_
      refine wSeq ?_
      obtain ⟨y6, hy6, h⟩ := bd h
      refine rg (cp (oFldP o119_0 tm) (s1 rfl) <| cr (oLdB (n := 1) (k := 0) rfl rfl rfl t71 tm) (s1 rfl) <| cp (oFldP o65_1 tm) (s1 rfl) <| cr (oLdB (n := 0) (k := 1) rfl rfl rfl t3 tm) (s1 rfl) <| cp (oIdx u71 z123 hy6 tm tm) (s2 rfl rfl) <| cp (oFld (fs := f_api_Tok) (k := 2) rfl o123_2 tm) (s1 rfl) <| cp (oLd t3 tm) (s1 rfl) <| cp (oAs tm) (s1 rfl) <| .nil) (by kernel_rfl) ?_
      refine pSeq ?_
      refine wSeq ?_
      refine wSeq ?_
      refine rg (cp (oFldP o65_2 tm) (s1 rfl) <| cr (oLdB (n := 0) (k := 2) rfl rfl rfl t26 tm) (s1 rfl) <| cp (oNe rfl tm (cI (by decide))) (s1 rfl) <| .nil) (by kernel_rfl) ?_
      refine pSeq ?_
      rcases ic h with ⟨hp7, h⟩ | ⟨hp7, h⟩
      · refine wNT hp7 tm (s1 rfl) ?_
        refine wSkip ?_
        refine pSeq ?_
        refine wSeq ?_
        refine wSeq ?_
        obtain ⟨y8, hy8, h⟩ := bd h
        refine rg (cp (oFldP o119_0 tm) (s1 rfl) <| cr (oLdB (n := 1) (k := 0) rfl rfl rfl t71 tm) (s1 rfl) <| cp (oFldP o65_1 tm) (s1 rfl) <| cr (oLdB (n := 0) (k := 1) rfl rfl rfl t3 tm) (s1 rfl) <| cp (oIdx u71 z123 hy8 tm tm) (s2 rfl rfl) <| cp (oFld (fs := f_api_Tok) (k := 0) rfl o123_0 tm) (s1 rfl) <| cp (oLd t3 tm) (s1 rfl) <| cp (oNe rfl tm (cI (by decide))) (s1 rfl) <| .nil) (by kernel_rfl) ?_
        refine pSeq ?_
        rcases ic h with ⟨hp9, h⟩ | ⟨hp9, h⟩
        · refine wNT hp9 tm (s1 rfl) ?_
          refine wSkip ?_
          refine pSeq ?_
          refine wSeq ?_
          refine rg (cp (oFldP o65_0 tm) (s1 rfl) <| cr (oLdB (n := 0) (k := 0) rfl rfl rfl t61 tm) (s1 rfl) <| cp (oBuild (fs := f_reticentref08_C) (u := ⟨y5.L, 0, 0⟩) rfl ze65 pl65 po65 (.op (zc := [(.slice none 0 0)]) tm rfl (.ze (zc := [(.int .i64 0)]) zI_i64 (.ze (zc := [(.int .i64 0)]) zI_i64 .nil)))) (s1 rfl) <| cwn (oStA (n := 2) (fs := f_reticentref08_C) rfl rfl z65 tm tm) (s2 rfl rfl) <| .nil) (by kernel_rfl) ?_
          refine pSeq ?_
          refine wRet ?_
          obtain rfl := so h
          exact pR1 (.inl rfl) rfl (.box (n := 2) (fs := f_reticentref08_C) (u := ⟨y5.L, 0, 0⟩) rfl rfl ⟨rfl, rfl, rfl, trivial⟩ t65 <| .nil)
        · refine wNF hp9 tm (s1 rfl) ?_
          refine wSeq ?_
          refine rg (cp (oMv tm) (s1 rfl) <| cp (oBuild (fs := f_reticentref08_C) (u := ⟨[], y6.At, 4⟩) rfl ze65 pl65 po65 (.ze (zc := [(.slice none 0 0)]) zL (.op (zc := [(.int .i64 0)]) tm rfl (.op (zc := [(.int .i64 0)]) (cI (by decide)) rfl .nil)))) (s1 rfl) <| cwn (oStA (n := 2) (fs := f_reticentref08_C) rfl rfl z65 tm tm) (s2 rfl rfl) <| .nil) (by kernel_rfl) ?_
          refine pSeq ?_
          refine wRet ?_
          refine pThenR ?_
          obtain rfl := so h
          exact pR1 (.inl rfl) rfl (.box (n := 2) (fs := f_reticentref08_C) (u := ⟨[], y6.At, 4⟩) rfl rfl ⟨rfl, rfl, rfl, trivial⟩ t65 <| .nil)
      · refine wNF hp7 tm (s1 rfl) ?_
        refine wSeq ?_
        refine rg (cp (oMv tm) (s1 rfl) <| cp (oFldP o65_2 tm) (s1 rfl) <| cr (oLdB (n := 0) (k := 2) rfl rfl rfl t26 tm) (s1 rfl) <| cp (oBuild (fs := f_reticentref08_C) (u := ⟨[], y6.At, y5.E⟩) rfl ze65 pl65 po65 (.ze (zc := [(.slice none 0 0)]) zL (.op (zc := [(.int .i64 0)]) tm rfl (.op (zc := [(.int .i64 0)]) tm rfl .nil)))) (s2 rfl rfl) <| cwn (oStA (n := 2) (fs := f_reticentref08_C) rfl rfl z65 tm tm) (s2 rfl rfl) <| .nil) (by kernel_rfl) ?_
        refine pSeq ?_
        refine wRet ?_
        refine pThenR ?_
        obtain rfl := so h
        exact pR1 (.inl rfl) rfl (.box (n := 2) (fs := f_reticentref08_C) (u := ⟨[], y6.At, y5.E⟩) rfl rfl ⟨rfl, rfl, rfl, trivial⟩ t65 <| .nil)
    · refine wNF hp4 tm (s1 rfl) ?_
      refine wSeq ?_
      refine rg (cp (oFldP o119_1 tm) (s1 rfl) <| cr (oLdB (n := 0) (k := 1) rfl rfl rfl t3 tm) (s1 rfl) <| cp (oFldP o119_2 tm) (s1 rfl) <| cr (oLdB (n := 0) (k := 2) rfl rfl rfl t26 tm) (s1 rfl) <| cp (oBuild (fs := f_reticentref08_C) (u := ⟨[], y3.At, y3.E⟩) rfl ze65 pl65 po65 (.ze (zc := [(.slice none 0 0)]) zL (.op (zc := [(.int .i64 0)]) tm rfl (.op (zc := [(.int .i64 0)]) tm rfl .nil)))) (s2 rfl rfl) <| cwn (oStA (n := 1) (fs := f_reticentref08_C) rfl rfl z65 tm tm) (s2 rfl rfl) <| .nil) (by kernel_rfl) ?_
      refine pSeq ?_
      refine wRet ?_
      refine pThenR ?_
      obtain rfl := so h
      exact pR1 (.inl rfl) rfl (.box (n := 1) (fs := f_reticentref08_C) (u := ⟨[], y3.At, y3.E⟩) rfl rfl ⟨rfl, rfl, rfl, trivial⟩ t65 <| .nil)
  · refine wNF hp2 tm (s1 rfl) ?_
    refine wSeq ?_
    refine rg (cp (oMv tm) (s1 rfl) <| cp (oBuild (fs := f_reticentref08_C) (u := ⟨[], 0, y1⟩) rfl ze65 pl65 po65 (.ze (zc := [(.slice none 0 0)]) zL (.ze (zc := [(.int .i64 0)]) zI_i64 (.op (zc := [(.int .i64 0)]) tm rfl .nil)))) (s1 rfl) <| cwn (oStA (n := 0) (fs := f_reticentref08_C) rfl rfl z65 tm tm) (s2 rfl rfl) <| .nil) (by kernel_rfl) ?_
    refine pSeq ?_
    refine wRet ?_
    refine pThenR ?_
    obtain rfl := so h
    exact pR1 (.inl rfl) rfl (.box (n := 0) (fs := f_reticentref08_C) (u := ⟨[], 0, y1⟩) rfl rfl ⟨rfl, rfl, rfl, trivial⟩ t65 <| .nil)

theorem slices_IndexFunc_api_Instr_api_Instr.ok {a0 : List api_Instr} {a1 : api_Instr → Option Bool} {r : Int} (h : slices_IndexFunc_api_Instr_api_Instr.f a0 a1 = some r) : FnA Tryd.prog 189 [(kL (kR f_api_Instr)).sig a0, (sFun Tryd.prog (rl1 (kR f_api_Instr) kB a1))] ((kI .i64).sig r) := by
  refine fnIntro Tryd.func189 rfl (by kernel_rfl) fun H0 w0 => ?_
  unfold slices_IndexFunc_api_Instr_api_Instr.f at h
  refine wSeq ?_
  refine rg (cp (oAs (cI (by decide))) trivial <| .nil) (by kernel_rfl) ?_
  refine pSeq ?_
  refine wSeq ?_
  refine wSeq ?_
  refine rg (cp (oMv tm) (s1 rfl) <| cp (oLenL u61 tm) (s1 rfl) <| cp (oMv (cI (by decide))) trivial <| .nil) (by kernel_rfl) ?_
  refine pSeq ?_
  obtain ⟨o1, h, hk1⟩ := bd h
  refine wK0 (.inr () = o1) ([]) ([]) ?_ ?_
  · refine wBlock (wLoop ?_)
    refine lW (pc1 o1 (fun v9 => [(0, .d ((kL (kR f_api_Instr)).sig a0)), (1, .d ((sFun Tryd.prog (rl1 (kR f_api_Instr) kB a1)))), (7, .d ((kI .i64).sig (a0.length : Int))), (8, .d ((kI .i64).sig v9))]) (fun v9 => []) (slices_IndexFunc_api_Instr_api_Instr.l0.partial_correctness a0 a1) ?_ _ h) ⟨rfl, rfl, rfl, rfl, trivial⟩ rfl
    clear h
    intro f' ih v9 h
    refine wSeq ?_
    refine rg (cp (oLt rfl tm tm) (s2 rfl rfl) <| .nil) (by kernel_rfl) ?_
    refine pSeq ?_
    refine wSeq ?_
    rcases ic h with ⟨hp10, h⟩ | ⟨hp10, h⟩
    · refine wCT hp10 tm (s1 rfl) ?_
      refine wSkip ?_
      refine pSeq ?_
      refine wSeq ?_
      refine wBlock ?_
      refine wSeq ?_
      refine rg (cp (oMv tm) (s1 rfl) <| cp (oAs tm) (s1 rfl) <| .nil) (by kernel_rfl) ?_
      refine pSeq ?_
      refine wSeq ?_
      obtain ⟨y11, hy11, h⟩ := bd h
      obtain ⟨y12, hy12, h⟩ := bd h
      refine rg (cp (oMv tm) (s1 rfl) <| cp (oMv tm) (s1 rfl) <| cp (oMv tm) (s1 rfl) <| cp (oIdx u61 z89 hy11 tm tm) (s2 rfl rfl) <| cp (oLd t89 tm) (s1 rfl) <| cp (oCallV rfl (rl1i hy12) tm (opds_cons tm opds_nil)) (s2 rfl rfl) <| .nil) (by kernel_rfl) ?_
      refine pSeq ?_
      rcases ic h with ⟨hp13, h⟩ | ⟨hp13, h⟩
      · refine wBT hp13 tm (s1 rfl) ?_
        refine wSeq ?_
        refine rg (cp (oMv tm) (s1 rfl) <| cp (oAs tm) (s1 rfl) <| .nil) (by kernel_rfl) ?_
        refine pSeq ?_
        refine wRet ?_
        refine pBlkR ?_
        refine pThenR ?_
        refine pThenR ?_
        refine pBlkR ?_
        refine pThenR ?_
        obtain rfl := so h
        replace h := hk1
        refine pThenR ?_
        obtain rfl := so h
        exact pR1 (.inl rfl) rfl (.tmp rfl <| .nil)
      · refine wBF hp13 tm (s1 rfl) ?_
        refine wSkip ?_
        refine pBlkN ?_
        refine pSeq ?_
        refine rg (cp (oAdd tm (cI (by decide))) (s1 rfl) <| cp (oMv tm) (s1 rfl) <| .nil) (by kernel_rfl) ?_
        exact pLoop (lW (ih _ h) ⟨rfl, rfl, rfl, rfl, trivial⟩ rfl)
    · refine wCF hp10 tm (s1 rfl) ?_
      refine wExit ?_
      refine pThenX ?_
      refine pThenX ?_
      refine pBlkX ?_
      exact pJ0 (so h) trivial rfl
  · rintro rfl
    replace h := hk1
    refine pSeq ?_
    refine wSeq ?_
    refine rg (cp (oAs (cI (by decide))) trivial <| .nil) (by kernel_rfl) ?_
    refine pSeq ?_
    refine wRet ?_
    obtain rfl := so h
    exact pR1 (.inl rfl) rfl (.tmp rfl <| .nil)

theorem slices_ContainsFunc_api_Instr_api_Instr.ok {a0 : List api_Instr} {a1 : api_Instr → Option Bool} {r : Bool} (h : slices_ContainsFunc_api_Instr_api_Instr.f a0 a1 = some r) : FnA Tryd.prog 132 [(kL (kR f_api_Instr)).sig a0, (sFun Tryd.prog (rl1 (kR f_api_Instr) kB a1))] (kB.sig r) := by
  refine fnIntro Tryd.func132 rfl (by kernel_rfl) fun H0 w0 => ?_
  unfold slices_ContainsFunc_api_Instr_api_Instr.f at h
  refine wSeq ?_
  refine rg (cp (oAs cB) trivial <| .nil) (by kernel_rfl) ?_
  refine pSeq ?_
  refine wSeq ?_
  obtain ⟨y1, hy1, h⟩ := bd h
  refine rg (cp (oMv tm) (s1 rfl) <| cp (oMv tm) (s1 rfl) <| cp (oCall rfl (slices_IndexFunc_api_Instr_api_Instr.ok hy1) b189 (opds_cons tm (opds_cons tm opds_nil))) (s2 rfl rfl) <| cp (oGe rfl tm (cI (by decide))) (s1 rfl) <| cp (oAs tm) (s1 rfl) <| .nil) (by kernel_rfl) ?_
  refine pSeq ?_
  refine wRet ?_
  obtain rfl := so h
  exact pR1 (.inl rfl) rfl (.tmp rfl <| .nil)

theorem code_Right_1.ok {a0 : api_Instr} {a1 : api_Lattice} {r : Bool} (h : code_Right_1.f a0 a1 = some r) : FnA Tryd.prog 130 [(kR f_api_Instr).sig a0, sP (kR f_api_Lattice) a1] (kB.sig r) := by
  refine fnIntro Tryd.func130 rfl (by kernel_rfl) fun H0 w0 => ?_
  unfold code_Right_1.f at h
  refine wSeq ?_
  refine rg (cp (oBox tm) (s1 rfl) <| cp (oAs cB) trivial <| .nil) (by kernel_rfl) ?_
  refine pSeq ?_
  refine wSeq ?_
  obtain ⟨y1, hy1, h⟩ := bd h
  refine rg (cp (oFld (fs := f_api_Lattice) (k := 1) rfl o59_1 tm) (s1 rfl) <| cp (oLd t57 tm) (s1 rfl) <| cp (oLenL u57 tm) (s1 rfl) <| cp (oLd t89 tm) (s1 rfl) <| cp (oCall rfl (code_right.ok hy1) b131 (opds_cons tm (opds_cons tm opds_nil))) (s2 rfl rfl) <| cp (oNot tm) (s1 rfl) <| cp (oAs tm) (s1 rfl) <| .nil) (by kernel_rfl) ?_
  refine pSeq ?_
  refine wRet ?_
  obtain rfl := so h
  exact pR1 (.inl rfl) rfl (.tmp rfl <| .nil)

theorem code_Right.ok {a0 : api_Lattice} {a1 : List api_Instr} {r : Bool} (h : code_Right.f a0 a1 = some r) : FnA Tryd.prog 76 [(kR f_api_Lattice).sig a0, (kL (kR f_api_Instr)).sig a1] (kB.sig r) := by
  refine fnIntro Tryd.func76 rfl (by kernel_rfl) fun H0 w0 => ?_
  unfold code_Right.f at h
  refine wSeq ?_
  refine rg (cp (oBox tm) (s1 rfl) <| cp (oAs cB) trivial <| .nil) (by kernel_rfl) ?_
  refine pSeq ?_
  refine wSeq ?_
  refine rg (cp (oMkF (Rl := rl1 (kR f_api_Instr) kB (fun z0 => code_Right_1.f z0 a0)) rfl b130 (rl1e code_Right_1.ok) (opds_cons tm opds_nil)) (s1 rfl) <| cp (oAs tm) (s1 rfl) <| .nil) (by kernel_rfl) ?_
  refine pSeq ?_
  obtain ⟨o1, h, hk1⟩ := bd h
  refine wJ1 (fun x5 => x5 = o1) (fun x5 => [(4, .d (kB.sig x5))]) (fun x5 => []) ?_ ?_
  · obtain ⟨y6, hy6, h⟩ := bd h
    rcases ic h with ⟨hp7, h⟩ | ⟨hp7, h⟩
    · rcases ic h with ⟨hp8, h⟩ | ⟨hp8, h⟩
      · obtain ⟨y9, hy9, h⟩ := bd h
        refine rg (cp (oLd t59 tm) (s1 rfl) <| cp (oCall rfl (lattice_Check.ok hy6) b72 (opds_cons tm opds_nil)) (s1 rfl) <| cp (oEq rfl tm (cI (by decide))) (s1 rfl) <| cp (oMv tm) (s1 rfl) <| cgB (decide_eq_true hp7) rfl rfl (oMv tm) (s1 rfl) <| cgB (decide_eq_true hp7) rfl rfl (oLenL u61 tm) (s1 rfl) <| cgB (decide_eq_true hp7) rfl rfl (oLe rfl tm (cI (by decide))) (s1 rfl) <| cp (oPkT (decide_eq_true hp7) tm tm) (s2 rfl rfl) <| cp (oMv tm) (s1 rfl) <| cgB (decide_eq_true hp8) rfl rfl (oMv tm) (s1 rfl) <| cgB (decide_eq_true hp8) rfl rfl (oMv tm) (s1 rfl) <| cgB (decide_eq_true hp8) rfl rfl (oCall rfl (slices_ContainsFunc_api_Instr_api_Instr.ok hy9) b132 (opds_cons tm (opds_cons tm opds_nil))) (s2 rfl rfl) <| cgB (decide_eq_true hp8) rfl rfl (oNot tm) (s1 rfl) <| cp (oPkT (decide_eq_true hp8) tm tm) (s2 rfl rfl) <| cp (oAs tm) (s1 rfl) <| .nil) (by kernel_rfl) ?_
        exact pJ1 _ (so h) ⟨rfl, trivial⟩ rfl
      · refine rg (cp (oLd t59 tm) (s1 rfl) <| cp (oCall rfl (lattice_Check.ok hy6) b72 (opds_cons tm opds_nil)) (s1 rfl) <| cp (oEq rfl tm (cI (by decide))) (s1 rfl) <| cp (oMv tm) (s1 rfl) <| cgB (decide_eq_true hp7) rfl rfl (oMv tm) (s1 rfl) <| cgB (decide_eq_true hp7) rfl rfl (oLenL u61 tm) (s1 rfl) <| cgB (decide_eq_true hp7) rfl rfl (oLe rfl tm (cI (by decide))) (s1 rfl) <| cp (oPkT (decide_eq_true hp7) tm tm) (s2 rfl rfl) <| cp (oMv tm) (s1 rfl) <| csB (decide_eq_false hp8) rfl rfl <| csB (decide_eq_false hp8) rfl rfl <| csB (decide_eq_false hp8) rfl rfl <| csB (decide_eq_false hp8) rfl rfl <| cp (oPkF (decide_eq_false hp8) tm cB) (s1 rfl) <| cp (oAs tm) (s1 rfl) <| .nil) (by kernel_rfl) ?_
        exact pJ1 _ (so h) ⟨rfl, trivial⟩ rfl
    · refine rg (cp (oLd t59 tm) (s1 rfl) <| cp (oCall rfl (lattice_Check.ok hy6) b72 (opds_cons tm opds_nil)) (s1 rfl) <| cp (oEq rfl tm (cI (by decide))) (s1 rfl) <| cp (oMv tm) (s1 rfl) <| csB (decide_eq_false hp7) rfl rfl <| csB (decide_eq_false hp7) rfl rfl <| csB (decide_eq_false hp7) rfl rfl <| cp (oPkF (decide_eq_false hp7) tm cB) (s1 rfl) <| cp (oMv tm) (s1 rfl) <| csB rfl rfl rfl <| csB rfl rfl rfl <| csB rfl rfl rfl <| csB rfl rfl rfl <| cp (oPkF rfl tm cB) (s1 rfl) <| cp (oAs tm) (s1 rfl) <| .nil) (by kernel_rfl) ?_
      exact pJ1 _ (so h) ⟨rfl, trivial⟩ rfl
  · rintro x5 rfl
    replace h := hk1
    refine wRet ?_
    obtain rfl := so h
    exact pR1 (.inl rfl) rfl (.tmp rfl <| .nil)

theorem reticentlaw08_alive.ok {r : Bool} (h : reticentlaw08_alive.f = some r) : FnA Tryd.prog 34 [] (kB.sig r) := by
  refine fnIntro Tryd.func34 rfl (by kernel_rfl) fun H0 w0 => ?_
  unfold reticentlaw08_alive.f at h
  refine wSeq ?_
  refine rg (cp (oAs cB) trivial <| .nil) (by kernel_rfl) ?_
  refine pSeq ?_
  refine wSeq ?_
  refine rg (cp (oLit (d := kS) el56 (by decide) rfl rfl rfl (e1 (cS (by decide)) (e1 (cS (by decide)) e0))) trivial <| cp (oLit (d := (kI .u32)) el57 (by decide) rfl rfl rfl (e1 (cI (by decide)) (e1 (cI (by decide)) e0))) trivial <| cp (oBuild (fs := f_api_Lattice) (u := ⟨([([97] : Str), ([98] : Str)] : List Str), ([3, 2] : List Int)⟩) rfl ze59 pl59 po59 (.op (zc := [(.slice none 0 0)]) tm rfl (.op (zc := [(.slice none 0 0)]) tm rfl .nil))) (s2 rfl rfl) <| cw (oAlloc (id := 1) (ls := [.d (kL kS) [], .d (kL (kI .u32)) []]) ze59 (fun g => ⟨[(.slice none 0 0)], _, rfl, zL g.H, ⟨[(.slice none 0 0)], _, rfl, zL g.H, rfl⟩⟩)) trivial <| cwn (oStA (n := 0) (fs := f_api_Lattice) rfl rfl z59 tm tm) (s2 rfl rfl) <| .nil) (by kernel_rfl) ?_
  refine pSeq ?_
  refine wSeq ?_
  obtain ⟨y1, hy1, h⟩ := bd h
  refine rg (cr (oLdA (n := 0) (fs := f_api_Lattice) (u := ⟨([([97] : Str), ([98] : Str)] : List Str), ([3, 2] : List Int)⟩) rfl ⟨rfl, rfl, trivial⟩ t59 tm) (s1 rfl) <| cp (oCall rfl (code_Parse.ok hy1) b32 (opds_cons tm (opds_cons (cS (by decide)) opds_nil))) (s1 rfl) <| cp (oMv tm) (s1 rfl) <| cp (oExt (k := 0) rfl tm) (s1 rfl) <| cp (oExt (k := 1) rfl tm) (s1 rfl) <| cp (oExt (k := 2) rfl tm) (s1 rfl) <| cp (oAs tm) (s1 rfl) <| cp (oAs tm) (s1 rfl) <| cp (oAs tm) (s1 rfl) <| .nil) (by kernel_rfl) ?_
  refine pSeq ?_
  obtain ⟨o1, h, hk1⟩ := bd h
  refine wJ1 (fun x7 => x7 = o1) (fun x7 => [(0, .d (kB.sig x7))]) (fun x7 => [.box 1 59 [.d (kL kS) ([([97] : Str), ([98] : Str)] : List Str), .d (kL (kI .u32)) ([3, 2] : List Int)]]) ?_ ?_
  · rcases ic h with ⟨hp8, h⟩ | ⟨hp8, h⟩
    · rcases ic h with ⟨hp9, h⟩ | ⟨hp9, h⟩
      · obtain ⟨y10, hy10, h⟩ := bd h
        rcases ic h with ⟨hp11, h⟩ | ⟨hp11, h⟩
        · obtain ⟨y12, hy12, h⟩ := bd h
          refine rg (cp (oMv tm) (s1 rfl) <| cp (oEq rfl tm (cI (by decide))) (s1 rfl) <| cp (oMv tm) (s1 rfl) <| cgB (decide_eq_true hp8) rfl rfl (oMv tm) (s1 rfl) <| cgB (decide_eq_true hp8) rfl rfl (oLenL u61 tm) (s1 rfl) <| cgB (decide_eq_true hp8) rfl rfl (oEq rfl tm (cI (by decide))) (s1 rfl) <| cp (oPkT (decide_eq_true hp8) tm tm) (s2 rfl rfl) <| cp (oMv tm) (s1 rfl) <| cgB (decide_eq_true hp9) rfl rfl (oMv tm) (s1 rfl) <| cgB (decide_eq_true hp9) rfl rfl (oIdx u61 z89 hy10 tm (cI (by decide))) (s1 rfl) <| cgB (decide_eq_true hp9) rfl rfl (oLd t89 tm) (s1 rfl) <| cgB (decide_eq_true hp9) rfl rfl (oBuild (fs := f_api_Instr) (u := ⟨1, (-3), 1⟩) rfl ze89 pl89 po89 (.op (zc := [(.int .i64 0)]) (cI (by decide)) rfl (.op (zc := [(.int .i64 0)]) (cI (by decide)) rfl (.op (zc := [(.int .i64 0)]) (cI (by decide)) rfl .nil)))) trivial <| cgB (decide_eq_true hp9) rfl rfl (oREq eqk89 rfl eg89 rfl tm tm) (s2 rfl rfl) <| cp (oPkT (decide_eq_true hp9) tm tm) (s2 rfl rfl) <| cp (oMv tm) (s1 rfl) <| crgB (decide_eq_true hp11) rfl rfl (oLdA (n := 0) (fs := f_api_Lattice) (u := ⟨([([97] : Str), ([98] : Str)] : List Str), ([3, 2] : List Int)⟩) rfl ⟨rfl, rfl, trivial⟩ t59 tm) (s1 rfl) <| cgB (decide_eq_true hp11) rfl rfl (oMv tm) (s1 rfl) <| cgB (decide_eq_true hp11) rfl rfl (oCall rfl (code_Right.ok hy12) b76 (opds_cons tm (opds_cons tm opds_nil))) (s2 rfl rfl) <| cp (oPkT (decide_eq_true hp11) tm tm) (s2 rfl rfl) <| cp (oAs tm) (s1 rfl) <| .nil) (by kernel_rfl) ?_
          exact pJ1 _ (so h) ⟨rfl, trivial⟩ rfl
        · refine rg (cp (oMv tm) (s1 rfl) <| cp (oEq rfl tm (cI (by decide))) (s1 rfl) <| cp (oMv tm) (s1 rfl) <| cgB (decide_eq_true hp8) rfl rfl (oMv tm) (s1 rfl) <| cgB (decide_eq_true hp8) rfl rfl (oLenL u61 tm) (s1 rfl) <| cgB (decide_eq_true hp8) rfl rfl (oEq rfl tm (cI (by decide))) (s1 rfl) <| cp (oPkT (decide_eq_true hp8) tm tm) (s2 rfl rfl) <| cp (oMv tm) (s1 rfl) <| cgB (decide_eq_true hp9) rfl rfl (oMv tm) (s1 rfl) <| cgB (decide_eq_true hp9) rfl rfl (oIdx u61 z89 hy10 tm (cI (by decide))) (s1 rfl) <| cgB (decide_eq_true hp9) rfl rfl (oLd t89 tm) (s1 rfl) <| cgB (decide_eq_true hp9) rfl rfl (oBuild (fs := f_api_Instr) (u := ⟨1, (-3), 1⟩) rfl ze89 pl89 po89 (.op (zc := [(.int .i64 0)]) (cI (by decide)) rfl (.op (zc := [(.int .i64 0)]) (cI (by decide)) rfl (.op (zc := [(.int .i64 0)]) (cI (by decide)) rfl .nil)))) trivial <| cgB (decide_eq_true hp9) rfl rfl (oREq eqk89 rfl eg89 rfl tm tm) (s2 rfl rfl) <| cp (oPkT (decide_eq_true hp9) tm tm) (s2 rfl rfl) <| cp (oMv tm) (s1 rfl) <| csB (decide_eq_false hp11) rfl rfl <| csB (decide_eq_false hp11) rfl rfl <| csB (decide_eq_false hp11) rfl rfl <| cp (oPkF (decide_eq_false hp11) tm cB) (s1 rfl) <| cp (oAs tm) (s1 rfl) <| .nil) (by kernel_rfl) ?_
          exact pJ1 _ (so h) ⟨rfl, trivial⟩ rfl
      · refine rg (cp (oMv tm) (s1 rfl) <| cp (oEq rfl tm (cI (by decide))) (s1 rfl) <| cp (oMv tm) (s1 rfl) <| cgB (decide_eq_true hp8) rfl rfl (oMv tm) (s1 rfl) <| cgB (decide_eq_true hp8) rfl rfl (oLenL u61 tm) (s1 rfl) <| cgB (decide_eq_true hp8) rfl rfl (oEq rfl tm (cI (by decide))) (s1 rfl) <| cp (oPkT (decide_eq_true hp8) tm tm) (s2 rfl rfl) <| cp (oMv tm) (s1 rfl) <| csB (decide_eq_false hp9) rfl rfl <| csB (decide_eq_false hp9) rfl rfl <| csB (decide_eq_false hp9) rfl rfl <| csB (decide_eq_false hp9) rfl rfl <| csB (decide_eq_false hp9) rfl rfl <| cp (oPkF (decide_eq_false hp9) tm cB) (s1 rfl) <| cp (oMv tm) (s1 rfl) <| csB rfl rfl rfl <| csB rfl rfl rfl <| csB rfl rfl rfl <| cp (oPkF rfl tm cB) (s1 rfl) <| cp (oAs tm) (s1 rfl) <| .nil) (by kernel_rfl) ?_
        exact pJ1 _ (so h) ⟨rfl, trivial⟩ rfl
    · refine rg (cp (oMv tm) (s1 rfl) <| cp (oEq rfl tm (cI (by decide))) (s1 rfl) <| cp (oMv tm) (s1 rfl) <| csB (decide_eq_false hp8) rfl rfl <| csB (decide_eq_false hp8) rfl rfl <| csB (decide_eq_false hp8) rfl rfl <| cp (oPkF (decide_eq_false hp8) tm cB) (s1 rfl) <| cp (oMv tm) (s1 rfl) <| csB rfl rfl rfl <| csB rfl rfl rfl <| csB rfl rfl rfl <| csB rfl rfl rfl <| csB rfl rfl rfl <| cp (oPkF rfl tm cB) (s1 rfl) <| cp (oMv tm) (s1 rfl) <| csB rfl rfl rfl <| csB rfl rfl rfl <| csB rfl rfl rfl <| cp (oPkF rfl tm cB) (s1 rfl) <| cp (oAs tm) (s1 rfl) <| .nil) (by kernel_rfl) ?_
      exact pJ1 _ (so h) ⟨rfl, trivial⟩ rfl
  · rintro x7 rfl
    replace h := hk1
    refine wRet ?_
    obtain rfl := so h
    exact pR1 (.inl rfl) rfl (.tmp rfl <| .nil)

theorem reticentref08_Same.ok {a0 : List api_Instr} {a1 : List api_Instr} {r : Bool} (h : reticentref08_Same.f a0 a1 = some r) : FnA Tryd.prog 35 [(kL (kR f_api_Instr)).sig a0, (kL (kR f_api_Instr)).sig a1] (kB.sig r) := by
  refine fnIntro Tryd.func35 rfl (by kernel_rfl) fun H0 w0 => ?_
  unfold reticentref08_Same.f at h
  refine wSeq ?_
  refine rg (cp (oAs cB) trivial <| .nil) (by kernel_rfl) ?_
  refine pSeq ?_
  refine wSeq ?_
  refine wSeq ?_
  refine rg (cp (oMv tm) (s1 rfl) <| cp (oLenL u61 tm) (s1 rfl) <| cp (oMv tm) (s1 rfl) <| cp (oLenL u61 tm) (s1 rfl) <| cp (oNe rfl tm tm) (s2 rfl rfl) <| .nil) (by kernel_rfl) ?_
  refine pSeq ?_
  rcases ic h with ⟨hp1, h⟩ | ⟨hp1, h⟩
  · refine wNT hp1 tm (s1 rfl) ?_
    refine wSkip ?_
    refine pSeq ?_
    refine wSeq ?_
    refine wSeq ?_
    refine rg (cp (oMv tm) (s1 rfl) <| cp (oLenL u61 tm) (s1 rfl) <| cp (oMv (cI (by decide))) trivial <| .nil) (by kernel_rfl) ?_
    refine pSeq ?_
    obtain ⟨o1, h, hk1⟩ := bd h
    refine wK0 (.inr () = o1) ([]) ([]) ?_ ?_
    · refine wBlock (wLoop ?_)
      refine lW (pc1 o1 (fun v10 => [(0, .d ((kL (kR f_api_Instr)).sig a0)), (1, .d ((kL (kR f_api_Instr)).sig a1)), (12, .d ((kI .i64).sig (a0.length : Int))), (13, .d ((kI .i64).sig v10))]) (fun v10 => []) (reticentref08_Same.l0.partial_correctness a0 a1) ?_ _ h) ⟨rfl, rfl, rfl, rfl, trivial⟩ rfl
      clear h
      intro f' ih v10 h
      refine wSeq ?_
      refine rg (cp (oLt rfl tm tm) (s2 rfl rfl) <| .nil) (by kernel_rfl) ?_
      refine pSeq ?_
      refine wSeq ?_
      rcases ic h with ⟨hp11, h⟩ | ⟨hp11, h⟩
      · refine wCT hp11 tm (s1 rfl) ?_
        refine wSkip ?_
        refine pSeq ?_
        refine wSeq ?_
        refine wBlock ?_
        refine wSeq ?_
        refine rg (cp (oMv tm) (s1 rfl) <| cp (oAs tm) (s1 rfl) <| .nil) (by kernel_rfl) ?_
        refine pSeq ?_
        refine wSeq ?_
        obtain ⟨y12, hy12, h⟩ := bd h
        obtain ⟨y13, hy13, h⟩ := bd h
        refine rgD hm (cp (oMv tm) (s1 rfl) <| cp (oMv tm) (s1 rfl) <| cp (oIdx u61 z89 hy12 tm tm) (s2 rfl rfl) <| cp (oLd t89 tm) (s1 rfl) <| cp (oMv tm) (s1 rfl) <| cp (oMv tm) (s1 rfl) <| cp (oIdx u61 z89 hy13 tm tm) (s2 rfl rfl) <| cp (oLd t89 tm) (s1 rfl) <| cp (oRNe eqk89 rfl eg89 rfl tm tm) (s2 rfl rfl) <| .nil) (by kernel_rfl) (by kernel_rfl) ?_
        refine pSeq ?_
        rcases ic h with ⟨hp14, h⟩ | ⟨hp14, h⟩
        · refine wNT hp14 tm (s1 rfl) ?_
          refine wSkip ?_
          refine pBlkN ?_
          refine pSeq ?_
          refine rg (cp (oAdd tm (cI (by decide))) (s1 rfl) <| cp (oMv tm) (s1 rfl) <| .nil) (by kernel_rfl) ?_
          exact pLoop (lW (ih _ h) ⟨rfl, rfl, rfl, rfl, trivial⟩ rfl)
        · refine wNF hp14 tm (s1 rfl) ?_
          refine wSeq ?_
          refine rg (cp (oAs cB) trivial <| .nil) (by kernel_rfl) ?_
          refine pSeq ?_
          refine wRet ?_
          refine pBlkR ?_
          refine pThenR ?_
          refine pThenR ?_
          refine pBlkR ?_
          refine pThenR ?_
          obtain rfl := so h
          replace h := hk1
          refine pThenR ?_
          obtain rfl := so h
          exact pR1 (.inl rfl) rfl (.tmp rfl <| .nil)
      · refine wCF hp11 tm (s1 rfl) ?_
        refine wExit ?_
        refine pThenX ?_
        refine pThenX ?_
        refine pBlkX ?_
        exact pJ0 (so h) trivial rfl
    · rintro rfl
      replace h := hk1
      refine pSeq ?_
      refine wSeq ?_
      refine rg (cp (oAs cB) trivial <| .nil) (by kernel_rfl) ?_
      refine pSeq ?_
      refine wRet ?_
      obtain rfl := so h
      exact pR1 (.inl rfl) rfl (.tmp rfl <| .nil)
  · refine wNF hp1 tm (s1 rfl) ?_
    refine wSeq ?_
    refine rg (cp (oAs cB) trivial <| .nil) (by kernel_rfl) ?_
    refine pSeq ?_
    refine wRet ?_
    refine pThenR ?_
    obtain rfl := so h
    exact pR1 (.inl rfl) rfl (.tmp rfl <| .nil)

theorem reticentlaw08_CodeReads.ok {a0 : api_Lattice} {a1 : Str} {r : Bool} (h : reticentlaw08_CodeReads.f a0 a1 = some r) : FnA Tryd.prog 6 [(kR f_api_Lattice).sig a0, kS.sig a1] (kB.sig r) := by
  refine fnIntro Tryd.func6 rfl (by kernel_rfl) fun H0 w0 => ?_
  unfold reticentlaw08_CodeReads.f at h
  refine wSeq ?_
  refine rg (cw (oBoxS (id := 2) (fs := f_api_Lattice) tm) (s1 rfl) <| cp (oAs cB) trivial <| .nil) (by kernel_rfl) ?_
  refine pSeq ?_
  refine wSeq ?_
  obtain ⟨y1, hy1, h⟩ := bd h
  obtain ⟨hc2, h⟩ := ib h
  refine rgD hm (cr (oLdA (n := 0) (fs := f_api_Lattice) (u := ⟨a0.Names, a0.Up⟩) rfl ⟨rfl, rfl, trivial⟩ t59 tm) (s1 rfl) <| cp (oCall rfl (reticentlaw08_few.ok hy1) b31 (opds_cons tm opds_nil)) (s1 rfl) <| cp (oMv tm) (s1 rfl) <| cp (oMv tm) (s1 rfl) <| cp (oLenS u9 tm) (s1 rfl) <| cp (oMin tm (cI (by decide))) (s1 rfl) <| cp (oCutSH u9 hc2.1 hc2.2 tm tm) (s2 rfl rfl) <| cwn (oStA (n := 0) (fs := f_api_Lattice) rfl rfl z59 tm tm) (s2 rfl rfl) <| cp (oAs tm) (s1 rfl) <| .nil) (by kernel_rfl) (by kernel_rfl) ?_
  refine pSeq ?_
  refine wSeq ?_
  obtain ⟨y3, hy3, h⟩ := bd h
  refine rg (cr (oLdA (n := 0) (fs := f_api_Lattice) (u := ⟨y1.Names, y1.Up⟩) rfl ⟨rfl, rfl, trivial⟩ t59 tm) (s1 rfl) <| cp (oMv tm) (s1 rfl) <| cp (oCall rfl (code_Parse.ok hy3) b32 (opds_cons tm (opds_cons tm opds_nil))) (s2 rfl rfl) <| cp (oMv tm) (s1 rfl) <| cp (oExt (k := 0) rfl tm) (s1 rfl) <| cp (oExt (k := 1) rfl tm) (s1 rfl) <| cp (oExt (k := 2) rfl tm) (s1 rfl) <| cp (oAs tm) (s1 rfl) <| cp (oAs tm) (s1 rfl) <| cp (oAs tm) (s1 rfl) <| .nil) (by kernel_rfl) ?_
  refine pSeq ?_
  refine wSeq ?_
  obtain ⟨y4, hy4, h⟩ := bd h
  refine rg (cr (oLdA (n := 0) (fs := f_api_Lattice) (u := ⟨y1.Names, y1.Up⟩) rfl ⟨rfl, rfl, trivial⟩ t59 tm) (s1 rfl) <| cp (oMv tm) (s1 rfl) <| cp (oCall rfl (reticentref08_Parse.ok hy4) b33 (opds_cons tm (opds_cons tm opds_nil))) (s2 rfl rfl) <| cw (oAlloc (id := 8) (ls := [.d (kL (kR f_api_Instr)) [], .d (kI .i64) 0, .d (kI .i64) 0]) ze65 (fun g => ⟨[(.slice none 0 0)], _, rfl, zL g.H, ⟨[(.int .i64 0)], _, rfl, zI_i64 g.H, ⟨[(.int .i64 0)], _, rfl, zI_i64 g.H, rfl⟩⟩⟩)) trivial <| cwn (oStA (n := 0) (fs := f_reticentref08_C) rfl rfl z65 tm tm) (s2 rfl rfl) <| .nil) (by kernel_rfl) ?_
  refine pSeq ?_
  obtain ⟨o1, h, hk1⟩ := bd h
  refine wJ1 (fun x10 => x10 = o1) (fun x10 => [(4, .d (kB.sig x10))]) (fun x10 => [.box 8 65 [.d (kL (kR f_api_Instr)) y4.L, .d (kI .i64) y4.I, .d (kI .i64) y4.E], .box 2 59 [.d (kL kS) y1.Names, .d (kL (kI .u32)) y1.Up]]) ?_ ?_
  · obtain ⟨y11, hy11, h⟩ := bd h
    rcases ic h with ⟨hp12, h⟩ | ⟨hp12, h⟩
    · rcases ic h with ⟨hp13, h⟩ | ⟨hp13, h⟩
      · rcases ic h with ⟨hp14, h⟩ | ⟨hp14, h⟩
        · obtain ⟨y15, hy15, h⟩ := bd h
          refine rg (cp (oCall rfl (reticentlaw08_alive.ok hy11) b34 opds_nil) trivial <| cp (oMv tm) (s1 rfl) <| cgB hp12 rfl rfl (oMv tm) (s1 rfl) <| cgB hp12 rfl rfl (oFldP o65_2 tm) (s1 rfl) <| crgB hp12 rfl rfl (oLdB (n := 0) (k := 2) rfl rfl rfl t26 tm) (s1 rfl) <| cgB hp12 rfl rfl (oEq rfl tm tm) (s2 rfl rfl) <| cp (oPkT hp12 tm tm) (s2 rfl rfl) <| cp (oMv tm) (s1 rfl) <| cgB (decide_eq_true hp13) rfl rfl (oMv tm) (s1 rfl) <| cgB (decide_eq_true hp13) rfl rfl (oFldP o65_1 tm) (s1 rfl) <| crgB (decide_eq_true hp13) rfl rfl (oLdB (n := 0) (k := 1) rfl rfl rfl t3 tm) (s1 rfl) <| cgB (decide_eq_true hp13) rfl rfl (oEq rfl tm tm) (s2 rfl rfl) <| cp (oPkT (decide_eq_true hp13) tm tm) (s2 rfl rfl) <| cp (oMv tm) (s1 rfl) <| cgB (decide_eq_true hp14) rfl rfl (oMv tm) (s1 rfl) <| cgB (decide_eq_true hp14) rfl rfl (oFldP o65_0 tm) (s1 rfl) <| crgB (decide_eq_true hp14) rfl rfl (oLdB (n := 0) (k := 0) rfl rfl rfl t61 tm) (s1 rfl) <| cgB (decide_eq_true hp14) rfl rfl (oCall rfl (reticentref08_Same.ok hy15) b35 (opds_cons tm (opds_cons tm opds_nil))) (s2 rfl rfl) <| cp (oPkT (decide_eq_true hp14) tm tm) (s2 rfl rfl) <| cp (oAs tm) (s1 rfl) <| .nil) (by kernel_rfl) ?_
          exact pJ1 _ (so h) ⟨rfl, trivial⟩ rfl
        · refine rg (cp (oCall rfl (reticentlaw08_alive.ok hy11) b34 opds_nil) trivial <| cp (oMv tm) (s1 rfl) <| cgB hp12 rfl rfl (oMv tm) (s1 rfl) <| cgB hp12 rfl rfl (oFldP o65_2 tm) (s1 rfl) <| crgB hp12 rfl rfl (oLdB (n := 0) (k := 2) rfl rfl rfl t26 tm) (s1 rfl) <| cgB hp12 rfl rfl (oEq rfl tm tm) (s2 rfl rfl) <| cp (oPkT hp12 tm tm) (s2 rfl rfl) <| cp (oMv tm) (s1 rfl) <| cgB (decide_eq_true hp13) rfl rfl (oMv tm) (s1 rfl) <| cgB (decide_eq_true hp13) rfl rfl (oFldP o65_1 tm) (s1 rfl) <| crgB (decide_eq_true hp13) rfl rfl (oLdB (n := 0) (k := 1) rfl rfl rfl t3 tm) (s1 rfl) <| cgB (decide_eq_true hp13) rfl rfl (oEq rfl tm tm) (s2 rfl rfl) <| cp (oPkT (decide_eq_true hp13) tm tm) (s2 rfl rfl) <| cp (oMv tm) (s1 rfl) <| csB (decide_eq_false hp14) rfl rfl <| csB (decide_eq_false hp14) rfl rfl <| csB (decide_eq_false hp14) rfl rfl <| csB (decide_eq_false hp14) rfl rfl <| cp (oPkF (decide_eq_false hp14) tm cB) (s1 rfl) <| cp (oAs tm) (s1 rfl) <| .nil) (by kernel_rfl) ?_
          exact pJ1 _ (so h) ⟨rfl, trivial⟩ rfl
      · refine rg (cp (oCall rfl (reticentlaw08_alive.ok hy11) b34 opds_nil) trivial <| cp (oMv tm) (s1 rfl) <| cgB hp12 rfl rfl (oMv tm) (s1 rfl) <| cgB hp12 rfl rfl (oFldP o65_2 tm) (s1 rfl) <| crgB hp12 rfl rfl (oLdB (n := 0) (k := 2) rfl rfl rfl t26 tm) (s1 rfl) <| cgB hp12 rfl rfl (oEq rfl tm tm) (s2 rfl rfl) <| cp (oPkT hp12 tm tm) (s2 rfl rfl) <| cp (oMv tm) (s1 rfl) <| csB (decide_eq_false hp13) rfl rfl <| csB (decide_eq_false hp13) rfl rfl <| csB (decide_eq_false hp13) rfl rfl <| csB (decide_eq_false hp13) rfl rfl <| cp (oPkF (decide_eq_false hp13) tm cB) (s1 rfl) <| cp (oMv tm) (s1 rfl) <| csB rfl rfl rfl <| csB rfl rfl rfl <| csB rfl rfl rfl <| csB rfl rfl rfl <| cp (oPkF rfl tm cB) (s1 rfl) <| cp (oAs tm) (s1 rfl) <| .nil) (by kernel_rfl) ?_
        exact pJ1 _ (so h) ⟨rfl, trivial⟩ rfl
    · refine rg (cp (oCall rfl (reticentlaw08_alive.ok hy11) b34 opds_nil) trivial <| cp (oMv tm) (s1 rfl) <| csB (nb hp12) rfl rfl <| csB (nb hp12) rfl rfl <| csB (nb hp12) rfl rfl <| csB (nb hp12) rfl rfl <| cp (oPkF (nb hp12) tm cB) (s1 rfl) <| cp (oMv tm) (s1 rfl) <| csB rfl rfl rfl <| csB rfl rfl rfl <| csB rfl rfl rfl <| csB rfl rfl rfl <| cp (oPkF rfl tm cB) (s1 rfl) <| cp (oMv tm) (s1 rfl) <| csB rfl rfl rfl <| csB rfl rfl rfl <| csB rfl rfl rfl <| csB rfl rfl rfl <| cp (oPkF rfl tm cB) (s1 rfl) <| cp (oAs tm) (s1 rfl) <| .nil) (by kernel_rfl) ?_
      exact pJ1 _ (so h) ⟨rfl, trivial⟩ rfl
  · rintro x10 rfl
    replace h := hk1
    refine wRet ?_
    obtain rfl := so h
    exact pR1 (.inl rfl) rfl (.tmp rfl <| .nil)

end Go.Proofs.YtjkijjhjffodcaaDoor.CR
