import Derived.Test.YthpmbokenhpakaaWLAp1
import Derived.Test.YthpmbokenhpakaaProg
set_option linter.unusedVariables false
set_option maxRecDepth 10000
namespace Go.Proofs.Ythpmbokenhpakaa.LA
open Go Go.Proofs.Ythpmbokenhpakaa.Ab

theorem reticentlaw01_LatticeTells.ok {a0 : api_Lattice} {a1 : Int} {a2 : Int} {r : Bool} (h : reticentlaw01_LatticeTells.f a0 a1 a2 = some r) : FnA Try.prog 6 [(kR f_api_Lattice).sig a0, (kI .i64).sig a1, (kI .i64).sig a2] (kB.sig r) := by
  refine fnIntro Try.func6 rfl (by kernel_rfl) fun H0 w0 => ?_
  unfold reticentlaw01_LatticeTells.f at h
  refine wSeq ?_
  refine rg (cw (oBoxS (id := 3) (fs := f_api_Lattice) tm) (s1 rfl) <| cp (oAs cB) trivial <| .nil) (by kernel_rfl) ?_
  refine pSeq ?_
  refine wSeq ?_
  obtain ⟨y1, hy1, h⟩ := bd h
  refine rg (cr (oLdA (n := 0) (fs := f_api_Lattice) (u := ⟨a0.Names, a0.Up⟩) rfl ⟨rfl, rfl, trivial⟩ t42 tm) (s1 rfl) <| cp (oCall rfl (reticentlaw01_few.ok hy1) b25 (opds_cons tm opds_nil)) (s1 rfl) <| cwn (oStA (n := 0) (fs := f_api_Lattice) rfl rfl z42 tm tm) (s2 rfl rfl) <| .nil) (by kernel_rfl) ?_
  refine pSeq ?_
  refine wSeq ?_
  obtain ⟨y2, hy2, h⟩ := bd h
  refine rg (cr (oLdA (n := 0) (fs := f_api_Lattice) (u := ⟨y1.Names, y1.Up⟩) rfl ⟨rfl, rfl, trivial⟩ t42 tm) (s1 rfl) <| cp (oMv tm) (s1 rfl) <| cp (oMv tm) (s1 rfl) <| cp (oCall rfl (lattice_Flows.ok hy2) b26 (opds_cons tm (opds_cons tm (opds_cons tm opds_nil)))) (s3 rfl rfl rfl) <| cp (oMv tm) (s1 rfl) <| cp (oExt (k := 0) rfl tm) (s1 rfl) <| cp (oExt (k := 1) rfl tm) (s1 rfl) <| cp (oAs tm) (s1 rfl) <| cp (oAs tm) (s1 rfl) <| .nil) (by kernel_rfl) ?_
  refine pSeq ?_
  refine wSeq ?_
  obtain ⟨y3, hy3, h⟩ := bd h
  refine rg (cr (oLdA (n := 0) (fs := f_api_Lattice) (u := ⟨y1.Names, y1.Up⟩) rfl ⟨rfl, rfl, trivial⟩ t42 tm) (s1 rfl) <| cp (oMv tm) (s1 rfl) <| cp (oMv tm) (s1 rfl) <| cp (oCall rfl (lattice_Join.ok hy3) b27 (opds_cons tm (opds_cons tm (opds_cons tm opds_nil)))) (s3 rfl rfl rfl) <| cp (oMv tm) (s1 rfl) <| cp (oExt (k := 0) rfl tm) (s1 rfl) <| cp (oExt (k := 1) rfl tm) (s1 rfl) <| cp (oAs tm) (s1 rfl) <| cp (oAs tm) (s1 rfl) <| .nil) (by kernel_rfl) ?_
  refine pSeq ?_
  refine wSeq ?_
  obtain ⟨y4, hy4, h⟩ := bd h
  refine rg (cr (oLdA (n := 0) (fs := f_api_Lattice) (u := ⟨y1.Names, y1.Up⟩) rfl ⟨rfl, rfl, trivial⟩ t42 tm) (s1 rfl) <| cp (oMv tm) (s1 rfl) <| cp (oMv tm) (s1 rfl) <| cp (oCall rfl (lattice_Meet.ok hy4) b28 (opds_cons tm (opds_cons tm (opds_cons tm opds_nil)))) (s3 rfl rfl rfl) <| cp (oMv tm) (s1 rfl) <| cp (oExt (k := 0) rfl tm) (s1 rfl) <| cp (oExt (k := 1) rfl tm) (s1 rfl) <| cp (oAs tm) (s1 rfl) <| cp (oAs tm) (s1 rfl) <| .nil) (by kernel_rfl) ?_
  refine pSeq ?_
  refine wSeq ?_
  obtain ⟨y5, hy5, h⟩ := bd h
  refine rg (cr (oLdA (n := 0) (fs := f_api_Lattice) (u := ⟨y1.Names, y1.Up⟩) rfl ⟨rfl, rfl, trivial⟩ t42 tm) (s1 rfl) <| cp (oMv tm) (s1 rfl) <| cp (oCall rfl (lattice_Height.ok hy5) b29 (opds_cons tm (opds_cons tm opds_nil))) (s2 rfl rfl) <| cp (oMv tm) (s1 rfl) <| cp (oExt (k := 0) rfl tm) (s1 rfl) <| cp (oExt (k := 1) rfl tm) (s1 rfl) <| cp (oAs tm) (s1 rfl) <| cp (oAs tm) (s1 rfl) <| .nil) (by kernel_rfl) ?_
  refine pSeq ?_
  refine wSeq ?_
  obtain ⟨y6, hy6, h⟩ := bd h
  obtain ⟨y7, hy7, h⟩ := bd h
  refine rgD hm (cr (oLdA (n := 0) (fs := f_api_Lattice) (u := ⟨y1.Names, y1.Up⟩) rfl ⟨rfl, rfl, trivial⟩ t42 tm) (s1 rfl) <| cp (oCall rfl (reticentref01_Check.ok hy6) b30 (opds_cons tm opds_nil)) (s1 rfl) <| cr (oLdA (n := 0) (fs := f_api_Lattice) (u := ⟨y1.Names, y1.Up⟩) rfl ⟨rfl, rfl, trivial⟩ t42 tm) (s1 rfl) <| cp (oCall rfl (reticentref01_Check.ok hy7) b30 (opds_cons tm opds_nil)) (s1 rfl) <| cp (oAs tm) (s1 rfl) <| cp (oAs tm) (s1 rfl) <| .nil) (by kernel_rfl) (by kernel_rfl) ?_
  refine pSeq ?_
  refine wSeq ?_
  obtain ⟨o1, h, hk1⟩ := bd h
  refine wJ1 (fun x10 => x10 = o1) (fun x10 => [(1, .d ((kI .i64).sig a1)), (2, .d ((kI .i64).sig a2)), (3, .p 3 0), (7, .d (kB.sig y2.1)), (8, .d ((kI .i64).sig y2.2)), (9, .d ((kI .i64).sig y3.1)), (10, .d ((kI .i64).sig y3.2)), (11, .d ((kI .i64).sig y4.1)), (12, .d ((kI .i64).sig y4.2)), (13, .d ((kI .i64).sig y5.1)), (14, .d ((kI .i64).sig y5.2)), (15, .d ((kI .i64).sig y6)), (16, .d ((kI .i64).sig y7)), (57, .d (kB.sig x10))]) (fun x10 => [.box 3 42 [.d (kL kS) y1.Names, .d (kL (kI .u32)) y1.Up]]) ?_ ?_
  · rcases ic h with ⟨hp11, h⟩ | ⟨hp11, h⟩
    · obtain ⟨y12, hy12, h⟩ := bd h
      refine rg (cp (oMv tm) (s1 rfl) <| cp (oEq rfl tm (cI (by decide))) (s1 rfl) <| cp (oMv tm) (s1 rfl) <| crgB (decide_eq_true hp11) rfl rfl (oLdA (n := 0) (fs := f_api_Lattice) (u := ⟨y1.Names, y1.Up⟩) rfl ⟨rfl, rfl, trivial⟩ t42 tm) (s1 rfl) <| cgB (decide_eq_true hp11) rfl rfl (oMv tm) (s1 rfl) <| cgB (decide_eq_true hp11) rfl rfl (oCall rfl (reticentlaw01_there.ok hy12) b31 (opds_cons tm (opds_cons tm opds_nil))) (s2 rfl rfl) <| cgB (decide_eq_true hp11) rfl rfl (oNot tm) (s1 rfl) <| cp (oPkT (decide_eq_true hp11) tm tm) (s2 rfl rfl) <| .nil) (by kernel_rfl) ?_
      exact pJ1 _ (so h) ⟨rfl, rfl, rfl, rfl, rfl, rfl, rfl, rfl, rfl, rfl, rfl, rfl, rfl, rfl, trivial⟩ rfl
    · refine rg (cp (oMv tm) (s1 rfl) <| cp (oEq rfl tm (cI (by decide))) (s1 rfl) <| cp (oMv tm) (s1 rfl) <| csB (decide_eq_false hp11) rfl rfl <| csB (decide_eq_false hp11) rfl rfl <| csB (decide_eq_false hp11) rfl rfl <| csB (decide_eq_false hp11) rfl rfl <| cp (oPkF (decide_eq_false hp11) tm cB) (s1 rfl) <| .nil) (by kernel_rfl) ?_
      exact pJ1 _ (so h) ⟨rfl, rfl, rfl, rfl, rfl, rfl, rfl, rfl, rfl, rfl, rfl, rfl, rfl, rfl, trivial⟩ rfl
  · rintro x10 rfl
    replace h := hk1
    rcases ic h with ⟨hp13, h⟩ | ⟨hp13, h⟩
    · refine wBT hp13 tm (s1 rfl) ?_
      refine rg (cp (oAs (cI (by decide))) trivial <| cp (oAs (cI (by decide))) trivial <| .nil) (by kernel_rfl) ?_
      refine pSeq ?_
      refine wSeq ?_
      obtain ⟨o1, h, hk1⟩ := bd h
      refine wJ1 (fun x16 => x16 = o1) (fun x16 => [(1, .d ((kI .i64).sig a1)), (2, .d ((kI .i64).sig a2)), (3, .p 3 0), (7, .d (kB.sig y2.1)), (8, .d ((kI .i64).sig y2.2)), (9, .d ((kI .i64).sig y3.1)), (10, .d ((kI .i64).sig y3.2)), (11, .d ((kI .i64).sig y4.1)), (12, .d ((kI .i64).sig y4.2)), (13, .d ((kI .i64).sig y5.1)), (14, .d ((kI .i64).sig y5.2)), (15, .d ((kI .i64).sig 9)), (16, .d ((kI .i64).sig 9)), (65, .d (kB.sig x16))]) (fun x16 => [.box 3 42 [.d (kL kS) y1.Names, .d (kL (kI .u32)) y1.Up]]) ?_ ?_
      · rcases ic h with ⟨hp17, h⟩ | ⟨hp17, h⟩
        · obtain ⟨y18, hy18, h⟩ := bd h
          refine rg (cp (oMv tm) (s1 rfl) <| cp (oEq rfl tm (cI (by decide))) (s1 rfl) <| cp (oMv tm) (s1 rfl) <| crgB (decide_eq_true hp17) rfl rfl (oLdA (n := 0) (fs := f_api_Lattice) (u := ⟨y1.Names, y1.Up⟩) rfl ⟨rfl, rfl, trivial⟩ t42 tm) (s1 rfl) <| cgB (decide_eq_true hp17) rfl rfl (oMv tm) (s1 rfl) <| cgB (decide_eq_true hp17) rfl rfl (oCall rfl (reticentlaw01_there.ok hy18) b31 (opds_cons tm (opds_cons tm opds_nil))) (s2 rfl rfl) <| cgB (decide_eq_true hp17) rfl rfl (oNot tm) (s1 rfl) <| cp (oPkT (decide_eq_true hp17) tm tm) (s2 rfl rfl) <| .nil) (by kernel_rfl) ?_
          exact pJ1 _ (so h) ⟨rfl, rfl, rfl, rfl, rfl, rfl, rfl, rfl, rfl, rfl, rfl, rfl, rfl, rfl, trivial⟩ rfl
        · refine rg (cp (oMv tm) (s1 rfl) <| cp (oEq rfl tm (cI (by decide))) (s1 rfl) <| cp (oMv tm) (s1 rfl) <| csB (decide_eq_false hp17) rfl rfl <| csB (decide_eq_false hp17) rfl rfl <| csB (decide_eq_false hp17) rfl rfl <| csB (decide_eq_false hp17) rfl rfl <| cp (oPkF (decide_eq_false hp17) tm cB) (s1 rfl) <| .nil) (by kernel_rfl) ?_
          exact pJ1 _ (so h) ⟨rfl, rfl, rfl, rfl, rfl, rfl, rfl, rfl, rfl, rfl, rfl, rfl, rfl, rfl, trivial⟩ rfl
      · rintro x16 rfl
        replace h := hk1
        rcases ic h with ⟨hp19, h⟩ | ⟨hp19, h⟩
        · refine wBT hp19 tm (s1 rfl) ?_
          refine rg (cp (oAs (cI (by decide))) trivial <| .nil) (by kernel_rfl) ?_
          refine pSeq ?_
          refine wSeq ?_
          obtain ⟨o1, h, hk1⟩ := bd h
          refine wJ1 (fun x25 => x25 = o1) (fun x25 => [(1, .d ((kI .i64).sig a1)), (2, .d ((kI .i64).sig a2)), (3, .p 3 0), (7, .d (kB.sig y2.1)), (9, .d ((kI .i64).sig y3.1)), (11, .d ((kI .i64).sig y4.1)), (13, .d ((kI .i64).sig y5.1)), (15, .d ((kI .i64).sig 9)), (16, .d ((kI .i64).sig 9)), (87, .d (kB.sig x25))]) (fun x25 => [.box 3 42 [.d (kL kS) y1.Names, .d (kL (kI .u32)) y1.Up]]) ?_ ?_
          · rcases ic h with ⟨hp26, h⟩ | ⟨hp26, h⟩
            · rcases ic h with ⟨hp27, h⟩ | ⟨hp27, h⟩
              · rcases ic h with ⟨hp28, h⟩ | ⟨hp28, h⟩
                · rcases ic h with ⟨hp29, h⟩ | ⟨hp29, h⟩
                  · obtain ⟨y30, hy30, h⟩ := bd h
                    refine rg (cp (oMv tm) (s1 rfl) <| cp (oMv tm) (s1 rfl) <| cp (oNe rfl tm tm) (s2 rfl rfl) <| cp (oMv tm) (s1 rfl) <| cgB (nf hp26) rfl rfl (oMv tm) (s1 rfl) <| cgB (nf hp26) rfl rfl (oMv tm) (s1 rfl) <| cgB (nf hp26) rfl rfl (oNe rfl tm tm) (s2 rfl rfl) <| cp (oPkF (nf hp26) tm tm) (s2 rfl rfl) <| cp (oMv tm) (s1 rfl) <| cgB (nf hp27) rfl rfl (oMv tm) (s1 rfl) <| cgB (nf hp27) rfl rfl (oMv tm) (s1 rfl) <| cgB (nf hp27) rfl rfl (oNe rfl tm tm) (s2 rfl rfl) <| cp (oPkF (nf hp27) tm tm) (s2 rfl rfl) <| cp (oMv tm) (s1 rfl) <| cgB (nf hp28) rfl rfl (oMv tm) (s1 rfl) <| cgB (nf hp28) rfl rfl (oMv tm) (s1 rfl) <| cgB (nf hp28) rfl rfl (oNe rfl tm tm) (s2 rfl rfl) <| cp (oPkF (nf hp28) tm tm) (s2 rfl rfl) <| cp (oMv tm) (s1 rfl) <| cgB (nf hp29) rfl rfl (oCall rfl (reticentlaw01_alive.ok hy30) b32 opds_nil) trivial <| cgB (nf hp29) rfl rfl (oNot tm) (s1 rfl) <| cp (oPkF (nf hp29) tm tm) (s2 rfl rfl) <| .nil) (by kernel_rfl) ?_
                    exact pJ1 _ (so h) ⟨rfl, rfl, rfl, rfl, rfl, rfl, rfl, rfl, rfl, rfl, trivial⟩ rfl
                  · refine rg (cp (oMv tm) (s1 rfl) <| cp (oMv tm) (s1 rfl) <| cp (oNe rfl tm tm) (s2 rfl rfl) <| cp (oMv tm) (s1 rfl) <| cgB (nf hp26) rfl rfl (oMv tm) (s1 rfl) <| cgB (nf hp26) rfl rfl (oMv tm) (s1 rfl) <| cgB (nf hp26) rfl rfl (oNe rfl tm tm) (s2 rfl rfl) <| cp (oPkF (nf hp26) tm tm) (s2 rfl rfl) <| cp (oMv tm) (s1 rfl) <| cgB (nf hp27) rfl rfl (oMv tm) (s1 rfl) <| cgB (nf hp27) rfl rfl (oMv tm) (s1 rfl) <| cgB (nf hp27) rfl rfl (oNe rfl tm tm) (s2 rfl rfl) <| cp (oPkF (nf hp27) tm tm) (s2 rfl rfl) <| cp (oMv tm) (s1 rfl) <| cgB (nf hp28) rfl rfl (oMv tm) (s1 rfl) <| cgB (nf hp28) rfl rfl (oMv tm) (s1 rfl) <| cgB (nf hp28) rfl rfl (oNe rfl tm tm) (s2 rfl rfl) <| cp (oPkF (nf hp28) tm tm) (s2 rfl rfl) <| cp (oMv tm) (s1 rfl) <| csB (nt hp29) rfl rfl <| csB (nt hp29) rfl rfl <| cp (oPkT (nt hp29) tm cB) (s1 rfl) <| .nil) (by kernel_rfl) ?_
                    exact pJ1 _ (so h) ⟨rfl, rfl, rfl, rfl, rfl, rfl, rfl, rfl, rfl, rfl, trivial⟩ rfl
                · refine rg (cp (oMv tm) (s1 rfl) <| cp (oMv tm) (s1 rfl) <| cp (oNe rfl tm tm) (s2 rfl rfl) <| cp (oMv tm) (s1 rfl) <| cgB (nf hp26) rfl rfl (oMv tm) (s1 rfl) <| cgB (nf hp26) rfl rfl (oMv tm) (s1 rfl) <| cgB (nf hp26) rfl rfl (oNe rfl tm tm) (s2 rfl rfl) <| cp (oPkF (nf hp26) tm tm) (s2 rfl rfl) <| cp (oMv tm) (s1 rfl) <| cgB (nf hp27) rfl rfl (oMv tm) (s1 rfl) <| cgB (nf hp27) rfl rfl (oMv tm) (s1 rfl) <| cgB (nf hp27) rfl rfl (oNe rfl tm tm) (s2 rfl rfl) <| cp (oPkF (nf hp27) tm tm) (s2 rfl rfl) <| cp (oMv tm) (s1 rfl) <| csB (nt hp28) rfl rfl <| csB (nt hp28) rfl rfl <| csB (nt hp28) rfl rfl <| cp (oPkT (nt hp28) tm cB) (s1 rfl) <| cp (oMv tm) (s1 rfl) <| csB rfl rfl rfl <| csB rfl rfl rfl <| cp (oPkT rfl tm cB) (s1 rfl) <| .nil) (by kernel_rfl) ?_
                  exact pJ1 _ (so h) ⟨rfl, rfl, rfl, rfl, rfl, rfl, rfl, rfl, rfl, rfl, trivial⟩ rfl
              · refine rg (cp (oMv tm) (s1 rfl) <| cp (oMv tm) (s1 rfl) <| cp (oNe rfl tm tm) (s2 rfl rfl) <| cp (oMv tm) (s1 rfl) <| cgB (nf hp26) rfl rfl (oMv tm) (s1 rfl) <| cgB (nf hp26) rfl rfl (oMv tm) (s1 rfl) <| cgB (nf hp26) rfl rfl (oNe rfl tm tm) (s2 rfl rfl) <| cp (oPkF (nf hp26) tm tm) (s2 rfl rfl) <| cp (oMv tm) (s1 rfl) <| csB (nt hp27) rfl rfl <| csB (nt hp27) rfl rfl <| csB (nt hp27) rfl rfl <| cp (oPkT (nt hp27) tm cB) (s1 rfl) <| cp (oMv tm) (s1 rfl) <| csB rfl rfl rfl <| csB rfl rfl rfl <| csB rfl rfl rfl <| cp (oPkT rfl tm cB) (s1 rfl) <| cp (oMv tm) (s1 rfl) <| csB rfl rfl rfl <| csB rfl rfl rfl <| cp (oPkT rfl tm cB) (s1 rfl) <| .nil) (by kernel_rfl) ?_
                exact pJ1 _ (so h) ⟨rfl, rfl, rfl, rfl, rfl, rfl, rfl, rfl, rfl, rfl, trivial⟩ rfl
            · refine rg (cp (oMv tm) (s1 rfl) <| cp (oMv tm) (s1 rfl) <| cp (oNe rfl tm tm) (s2 rfl rfl) <| cp (oMv tm) (s1 rfl) <| csB (nt hp26) rfl rfl <| csB (nt hp26) rfl rfl <| csB (nt hp26) rfl rfl <| cp (oPkT (nt hp26) tm cB) (s1 rfl) <| cp (oMv tm) (s1 rfl) <| csB rfl rfl rfl <| csB rfl rfl rfl <| csB rfl rfl rfl <| cp (oPkT rfl tm cB) (s1 rfl) <| cp (oMv tm) (s1 rfl) <| csB rfl rfl rfl <| csB rfl rfl rfl <| csB rfl rfl rfl <| cp (oPkT rfl tm cB) (s1 rfl) <| cp (oMv tm) (s1 rfl) <| csB rfl rfl rfl <| csB rfl rfl rfl <| cp (oPkT rfl tm cB) (s1 rfl) <| .nil) (by kernel_rfl) ?_
              exact pJ1 _ (so h) ⟨rfl, rfl, rfl, rfl, rfl, rfl, rfl, rfl, rfl, rfl, trivial⟩ rfl
          · rintro x25 rfl
            replace h := hk1
            rcases ic h with ⟨hp31, h⟩ | ⟨hp31, h⟩
            · refine wBT hp31 tm (s1 rfl) ?_
              refine wSeq ?_
              refine rg (cp (oAs cB) trivial <| .nil) (by kernel_rfl) ?_
              refine pSeq ?_
              refine wRet ?_
              refine pThenR ?_
              obtain rfl := so h
              exact pR1 (.inl rfl) rfl (.tmp rfl <| .nil)
            · refine wBF hp31 tm (s1 rfl) ?_
              refine wSkip ?_
              refine pSeq ?_
              refine wSeq ?_
              obtain ⟨o1, h, hk1⟩ := bd h
              refine wJ1 (fun x35 => x35 = o1) (fun x35 => [(1, .d ((kI .i64).sig a1)), (2, .d ((kI .i64).sig a2)), (3, .p 3 0), (7, .d (kB.sig y2.1)), (9, .d ((kI .i64).sig y3.1)), (11, .d ((kI .i64).sig y4.1)), (15, .d ((kI .i64).sig 9)), (104, .d (kB.sig x35))]) (fun x35 => [.box 3 42 [.d (kL kS) y1.Names, .d (kL (kI .u32)) y1.Up]]) ?_ ?_
              · rcases ic h with ⟨hp36, h⟩ | ⟨hp36, h⟩
                · obtain ⟨y37, hy37, h⟩ := bd h
                  refine rg (cp (oMv tm) (s1 rfl) <| cp (oNe rfl tm (cI (by decide))) (s1 rfl) <| cp (oMv tm) (s1 rfl) <| csB (nf hp36) rfl rfl <| csB (nf hp36) rfl rfl <| cp (oPkF (nf hp36) tm cB) (s1 rfl) <| cp (oMv tm) (s1 rfl) <| cgB rfl rfl rfl (oMv tm) (s1 rfl) <| cgB rfl rfl rfl (oEq rfl tm (cI (by decide))) (s1 rfl) <| cgB rfl rfl rfl (oMv tm) (s1 rfl) <| cgB (decide_eq_true hp36) rfl rfl (oMv tm) (s1 rfl) <| crgB (decide_eq_true hp36) rfl rfl (oLdA (n := 0) (fs := f_api_Lattice) (u := ⟨y1.Names, y1.Up⟩) rfl ⟨rfl, rfl, trivial⟩ t42 tm) (s1 rfl) <| cgB (decide_eq_true hp36) rfl rfl (oMv tm) (s1 rfl) <| cgB (decide_eq_true hp36) rfl rfl (oCall rfl (reticentref01_Height.ok hy37) b33 (opds_cons tm (opds_cons tm opds_nil))) (s2 rfl rfl) <| cgB (decide_eq_true hp36) rfl rfl (oNe rfl tm tm) (s2 rfl rfl) <| cgB rfl rfl rfl (oPkT (decide_eq_true hp36) tm tm) (s2 rfl rfl) <| cp (oPkF rfl tm tm) (s2 rfl rfl) <| .nil) (by kernel_rfl) ?_
                  exact pJ1 _ (so h) ⟨rfl, rfl, rfl, rfl, rfl, rfl, rfl, rfl, trivial⟩ rfl
                · rcases ic h with ⟨hp38, h⟩ | ⟨hp38, h⟩
                  · refine rg (cp (oMv tm) (s1 rfl) <| cp (oNe rfl tm (cI (by decide))) (s1 rfl) <| cp (oMv tm) (s1 rfl) <| cgB (nt hp36) rfl rfl (oMv tm) (s1 rfl) <| cgB (nt hp36) rfl rfl (oNe rfl tm (cI (by decide))) (s1 rfl) <| cp (oPkT (nt hp36) tm tm) (s2 rfl rfl) <| cp (oMv tm) (s1 rfl) <| cgB (nf hp38) rfl rfl (oMv tm) (s1 rfl) <| cgB (nf hp38) rfl rfl (oEq rfl tm (cI (by decide))) (s1 rfl) <| cgB (nf hp38) rfl rfl (oMv tm) (s1 rfl) <| csB (decide_eq_false hp36) rfl rfl <| csB (decide_eq_false hp36) rfl rfl <| csB (decide_eq_false hp36) rfl rfl <| csB (decide_eq_false hp36) rfl rfl <| csB (decide_eq_false hp36) rfl rfl <| cgB (nf hp38) rfl rfl (oPkF (decide_eq_false hp36) tm cB) (s1 rfl) <| cp (oPkF (nf hp38) tm tm) (s2 rfl rfl) <| .nil) (by kernel_rfl) ?_
                    exact pJ1 _ (so h) ⟨rfl, rfl, rfl, rfl, rfl, rfl, rfl, rfl, trivial⟩ rfl
                  · refine rg (cp (oMv tm) (s1 rfl) <| cp (oNe rfl tm (cI (by decide))) (s1 rfl) <| cp (oMv tm) (s1 rfl) <| cgB (nt hp36) rfl rfl (oMv tm) (s1 rfl) <| cgB (nt hp36) rfl rfl (oNe rfl tm (cI (by decide))) (s1 rfl) <| cp (oPkT (nt hp36) tm tm) (s2 rfl rfl) <| cp (oMv tm) (s1 rfl) <| csB (nt hp38) rfl rfl <| csB (nt hp38) rfl rfl <| csB (nt hp38) rfl rfl <| csU rfl rfl <| csU rfl rfl <| csU rfl rfl <| csU rfl rfl <| csU rfl rfl <| csB (nt hp38) rfl rfl <| cp (oPkT (nt hp38) tm cB) (s1 rfl) <| .nil) (by kernel_rfl) ?_
                    exact pJ1 _ (so h) ⟨rfl, rfl, rfl, rfl, rfl, rfl, rfl, rfl, trivial⟩ rfl
              · rintro x35 rfl
                replace h := hk1
                rcases ic h with ⟨hp39, h⟩ | ⟨hp39, h⟩
                · refine wBT hp39 tm (s1 rfl) ?_
                  refine wSeq ?_
                  refine rg (cp (oAs cB) trivial <| .nil) (by kernel_rfl) ?_
                  refine pSeq ?_
                  refine wRet ?_
                  refine pThenR ?_
                  obtain rfl := so h
                  exact pR1 (.inl rfl) rfl (.tmp rfl <| .nil)
                · refine wBF hp39 tm (s1 rfl) ?_
                  refine wSkip ?_
                  refine pSeq ?_
                  refine wSeq ?_
                  refine wSeq ?_
                  refine rg (cp (oMv tm) (s1 rfl) <| cp (oNe rfl tm (cI (by decide))) (s1 rfl) <| .nil) (by kernel_rfl) ?_
                  refine pSeq ?_
                  rcases ic h with ⟨hp40, h⟩ | ⟨hp40, h⟩
                  · refine wNT hp40 tm (s1 rfl) ?_
                    refine wSkip ?_
                    refine pSeq ?_
                    obtain ⟨o1, h, hk1⟩ := bd h
                    refine wJ1 (fun x46 => x46 = o1) (fun x46 => [(6, .d (kB.sig x46))]) (fun x46 => [.box 3 42 [.d (kL kS) y1.Names, .d (kL (kI .u32)) y1.Up]]) ?_ ?_
                    · obtain ⟨y47, hy47, h⟩ := bd h
                      rcases ic h with ⟨hp48, h⟩ | ⟨hp48, h⟩
                      · obtain ⟨y49, hy49, h⟩ := bd h
                        rcases ic h with ⟨hp50, h⟩ | ⟨hp50, h⟩
                        · obtain ⟨y51, hy51, h⟩ := bd h
                          refine rg (cp (oMv tm) (s1 rfl) <| cr (oLdA (n := 0) (fs := f_api_Lattice) (u := ⟨y1.Names, y1.Up⟩) rfl ⟨rfl, rfl, trivial⟩ t42 tm) (s1 rfl) <| cp (oMv tm) (s1 rfl) <| cp (oMv tm) (s1 rfl) <| cp (oCall rfl (reticentref01_Flows.ok hy47) b34 (opds_cons tm (opds_cons tm (opds_cons tm opds_nil)))) (s3 rfl rfl rfl) <| cp (oBEq u4 rfl tm tm) (s2 rfl rfl) <| cp (oMv tm) (s1 rfl) <| cgB (decide_eq_true hp48) rfl rfl (oMv tm) (s1 rfl) <| crgB (decide_eq_true hp48) rfl rfl (oLdA (n := 0) (fs := f_api_Lattice) (u := ⟨y1.Names, y1.Up⟩) rfl ⟨rfl, rfl, trivial⟩ t42 tm) (s1 rfl) <| cgB (decide_eq_true hp48) rfl rfl (oMv tm) (s1 rfl) <| cgB (decide_eq_true hp48) rfl rfl (oMv tm) (s1 rfl) <| cgB (decide_eq_true hp48) rfl rfl (oCall rfl (reticentref01_Join.ok hy49) b35 (opds_cons tm (opds_cons tm (opds_cons tm opds_nil)))) (s3 rfl rfl rfl) <| cgB (decide_eq_true hp48) rfl rfl (oEq rfl tm tm) (s2 rfl rfl) <| cp (oPkT (decide_eq_true hp48) tm tm) (s2 rfl rfl) <| cp (oMv tm) (s1 rfl) <| cgB (decide_eq_true hp50) rfl rfl (oMv tm) (s1 rfl) <| crgB (decide_eq_true hp50) rfl rfl (oLdA (n := 0) (fs := f_api_Lattice) (u := ⟨y1.Names, y1.Up⟩) rfl ⟨rfl, rfl, trivial⟩ t42 tm) (s1 rfl) <| cgB (decide_eq_true hp50) rfl rfl (oMv tm) (s1 rfl) <| cgB (decide_eq_true hp50) rfl rfl (oMv tm) (s1 rfl) <| cgB (decide_eq_true hp50) rfl rfl (oCall rfl (reticentref01_Meet.ok hy51) b36 (opds_cons tm (opds_cons tm (opds_cons tm opds_nil)))) (s3 rfl rfl rfl) <| cgB (decide_eq_true hp50) rfl rfl (oEq rfl tm tm) (s2 rfl rfl) <| cp (oPkT (decide_eq_true hp50) tm tm) (s2 rfl rfl) <| cp (oAs tm) (s1 rfl) <| .nil) (by kernel_rfl) ?_
                          exact pJ1 _ (so h) ⟨rfl, trivial⟩ rfl
                        · refine rg (cp (oMv tm) (s1 rfl) <| cr (oLdA (n := 0) (fs := f_api_Lattice) (u := ⟨y1.Names, y1.Up⟩) rfl ⟨rfl, rfl, trivial⟩ t42 tm) (s1 rfl) <| cp (oMv tm) (s1 rfl) <| cp (oMv tm) (s1 rfl) <| cp (oCall rfl (reticentref01_Flows.ok hy47) b34 (opds_cons tm (opds_cons tm (opds_cons tm opds_nil)))) (s3 rfl rfl rfl) <| cp (oBEq u4 rfl tm tm) (s2 rfl rfl) <| cp (oMv tm) (s1 rfl) <| cgB (decide_eq_true hp48) rfl rfl (oMv tm) (s1 rfl) <| crgB (decide_eq_true hp48) rfl rfl (oLdA (n := 0) (fs := f_api_Lattice) (u := ⟨y1.Names, y1.Up⟩) rfl ⟨rfl, rfl, trivial⟩ t42 tm) (s1 rfl) <| cgB (decide_eq_true hp48) rfl rfl (oMv tm) (s1 rfl) <| cgB (decide_eq_true hp48) rfl rfl (oMv tm) (s1 rfl) <| cgB (decide_eq_true hp48) rfl rfl (oCall rfl (reticentref01_Join.ok hy49) b35 (opds_cons tm (opds_cons tm (opds_cons tm opds_nil)))) (s3 rfl rfl rfl) <| cgB (decide_eq_true hp48) rfl rfl (oEq rfl tm tm) (s2 rfl rfl) <| cp (oPkT (decide_eq_true hp48) tm tm) (s2 rfl rfl) <| cp (oMv tm) (s1 rfl) <| csB (decide_eq_false hp50) rfl rfl <| csB (decide_eq_false hp50) rfl rfl <| csB (decide_eq_false hp50) rfl rfl <| csB (decide_eq_false hp50) rfl rfl <| csB (decide_eq_false hp50) rfl rfl <| csB (decide_eq_false hp50) rfl rfl <| cp (oPkF (decide_eq_false hp50) tm cB) (s1 rfl) <| cp (oAs tm) (s1 rfl) <| .nil) (by kernel_rfl) ?_
                          exact pJ1 _ (so h) ⟨rfl, trivial⟩ rfl
                      · refine rg (cp (oMv tm) (s1 rfl) <| cr (oLdA (n := 0) (fs := f_api_Lattice) (u := ⟨y1.Names, y1.Up⟩) rfl ⟨rfl, rfl, trivial⟩ t42 tm) (s1 rfl) <| cp (oMv tm) (s1 rfl) <| cp (oMv tm) (s1 rfl) <| cp (oCall rfl (reticentref01_Flows.ok hy47) b34 (opds_cons tm (opds_cons tm (opds_cons tm opds_nil)))) (s3 rfl rfl rfl) <| cp (oBEq u4 rfl tm tm) (s2 rfl rfl) <| cp (oMv tm) (s1 rfl) <| csB (decide_eq_false hp48) rfl rfl <| csB (decide_eq_false hp48) rfl rfl <| csB (decide_eq_false hp48) rfl rfl <| csB (decide_eq_false hp48) rfl rfl <| csB (decide_eq_false hp48) rfl rfl <| csB (decide_eq_false hp48) rfl rfl <| cp (oPkF (decide_eq_false hp48) tm cB) (s1 rfl) <| cp (oMv tm) (s1 rfl) <| csB rfl rfl rfl <| csB rfl rfl rfl <| csB rfl rfl rfl <| csB rfl rfl rfl <| csB rfl rfl rfl <| csB rfl rfl rfl <| cp (oPkF rfl tm cB) (s1 rfl) <| cp (oAs tm) (s1 rfl) <| .nil) (by kernel_rfl) ?_
                        exact pJ1 _ (so h) ⟨rfl, trivial⟩ rfl
                    · rintro x46 rfl
                      replace h := hk1
                      refine wRet ?_
                      obtain rfl := so h
                      exact pR1 (.inl rfl) rfl (.tmp rfl <| .nil)
                  · refine wNF hp40 tm (s1 rfl) ?_
                    obtain ⟨o1, h, hk1⟩ := bd h
                    refine wJ1 (fun x54 => x54 = o1) (fun x54 => [(6, .d (kB.sig x54))]) (fun x54 => [.box 3 42 [.d (kL kS) y1.Names, .d (kL (kI .u32)) y1.Up]]) ?_ ?_
                    · rcases ic h with ⟨hp55, h⟩ | ⟨hp55, h⟩
                      · rcases ic h with ⟨hp56, h⟩ | ⟨hp56, h⟩
                        · refine rg (cp (oMv tm) (s1 rfl) <| cp (oNot tm) (s1 rfl) <| cp (oMv tm) (s1 rfl) <| cgB hp55 rfl rfl (oMv tm) (s1 rfl) <| cgB hp55 rfl rfl (oEq rfl tm (cI (by decide))) (s1 rfl) <| cp (oPkT hp55 tm tm) (s2 rfl rfl) <| cp (oMv tm) (s1 rfl) <| cgB (decide_eq_true hp56) rfl rfl (oMv tm) (s1 rfl) <| cgB (decide_eq_true hp56) rfl rfl (oEq rfl tm (cI (by decide))) (s1 rfl) <| cp (oPkT (decide_eq_true hp56) tm tm) (s2 rfl rfl) <| cp (oAs tm) (s1 rfl) <| .nil) (by kernel_rfl) ?_
                          exact pJ1 _ (so h) ⟨rfl, trivial⟩ rfl
                        · refine rg (cp (oMv tm) (s1 rfl) <| cp (oNot tm) (s1 rfl) <| cp (oMv tm) (s1 rfl) <| cgB hp55 rfl rfl (oMv tm) (s1 rfl) <| cgB hp55 rfl rfl (oEq rfl tm (cI (by decide))) (s1 rfl) <| cp (oPkT hp55 tm tm) (s2 rfl rfl) <| cp (oMv tm) (s1 rfl) <| csB (decide_eq_false hp56) rfl rfl <| csB (decide_eq_false hp56) rfl rfl <| cp (oPkF (decide_eq_false hp56) tm cB) (s1 rfl) <| cp (oAs tm) (s1 rfl) <| .nil) (by kernel_rfl) ?_
                          exact pJ1 _ (so h) ⟨rfl, trivial⟩ rfl
                      · refine rg (cp (oMv tm) (s1 rfl) <| cp (oNot tm) (s1 rfl) <| cp (oMv tm) (s1 rfl) <| csB (nb hp55) rfl rfl <| csB (nb hp55) rfl rfl <| cp (oPkF (nb hp55) tm cB) (s1 rfl) <| cp (oMv tm) (s1 rfl) <| csB rfl rfl rfl <| csB rfl rfl rfl <| cp (oPkF rfl tm cB) (s1 rfl) <| cp (oAs tm) (s1 rfl) <| .nil) (by kernel_rfl) ?_
                        exact pJ1 _ (so h) ⟨rfl, trivial⟩ rfl
                    · rintro x54 rfl
                      replace h := hk1
                      refine wRet ?_
                      refine pThenR ?_
                      obtain rfl := so h
                      exact pR1 (.inl rfl) rfl (.tmp rfl <| .nil)
        · refine wBF hp19 tm (s1 rfl) ?_
          refine wSkip ?_
          refine pSeq ?_
          refine wSeq ?_
          obtain ⟨o1, h, hk1⟩ := bd h
          refine wJ1 (fun x62 => x62 = o1) (fun x62 => [(1, .d ((kI .i64).sig a1)), (2, .d ((kI .i64).sig a2)), (3, .p 3 0), (7, .d (kB.sig y2.1)), (9, .d ((kI .i64).sig y3.1)), (11, .d ((kI .i64).sig y4.1)), (13, .d ((kI .i64).sig y5.1)), (15, .d ((kI .i64).sig 9)), (16, .d ((kI .i64).sig 9)), (87, .d (kB.sig x62))]) (fun x62 => [.box 3 42 [.d (kL kS) y1.Names, .d (kL (kI .u32)) y1.Up]]) ?_ ?_
          · rcases ic h with ⟨hp63, h⟩ | ⟨hp63, h⟩
            · rcases ic h with ⟨hp64, h⟩ | ⟨hp64, h⟩
              · rcases ic h with ⟨hp65, h⟩ | ⟨hp65, h⟩
                · rcases ic h with ⟨hp66, h⟩ | ⟨hp66, h⟩
                  · obtain ⟨y67, hy67, h⟩ := bd h
                    refine rg (cp (oMv tm) (s1 rfl) <| cp (oMv tm) (s1 rfl) <| cp (oNe rfl tm tm) (s2 rfl rfl) <| cp (oMv tm) (s1 rfl) <| cgB (nf hp63) rfl rfl (oMv tm) (s1 rfl) <| cgB (nf hp63) rfl rfl (oMv tm) (s1 rfl) <| cgB (nf hp63) rfl rfl (oNe rfl tm tm) (s2 rfl rfl) <| cp (oPkF (nf hp63) tm tm) (s2 rfl rfl) <| cp (oMv tm) (s1 rfl) <| cgB (nf hp64) rfl rfl (oMv tm) (s1 rfl) <| cgB (nf hp64) rfl rfl (oMv tm) (s1 rfl) <| cgB (nf hp64) rfl rfl (oNe rfl tm tm) (s2 rfl rfl) <| cp (oPkF (nf hp64) tm tm) (s2 rfl rfl) <| cp (oMv tm) (s1 rfl) <| cgB (nf hp65) rfl rfl (oMv tm) (s1 rfl) <| cgB (nf hp65) rfl rfl (oMv tm) (s1 rfl) <| cgB (nf hp65) rfl rfl (oNe rfl tm tm) (s2 rfl rfl) <| cp (oPkF (nf hp65) tm tm) (s2 rfl rfl) <| cp (oMv tm) (s1 rfl) <| cgB (nf hp66) rfl rfl (oCall rfl (reticentlaw01_alive.ok hy67) b32 opds_nil) trivial <| cgB (nf hp66) rfl rfl (oNot tm) (s1 rfl) <| cp (oPkF (nf hp66) tm tm) (s2 rfl rfl) <| .nil) (by kernel_rfl) ?_
                    exact pJ1 _ (so h) ⟨rfl, rfl, rfl, rfl, rfl, rfl, rfl, rfl, rfl, rfl, trivial⟩ rfl
                  · refine rg (cp (oMv tm) (s1 rfl) <| cp (oMv tm) (s1 rfl) <| cp (oNe rfl tm tm) (s2 rfl rfl) <| cp (oMv tm) (s1 rfl) <| cgB (nf hp63) rfl rfl (oMv tm) (s1 rfl) <| cgB (nf hp63) rfl rfl (oMv tm) (s1 rfl) <| cgB (nf hp63) rfl rfl (oNe rfl tm tm) (s2 rfl rfl) <| cp (oPkF (nf hp63) tm tm) (s2 rfl rfl) <| cp (oMv tm) (s1 rfl) <| cgB (nf hp64) rfl rfl (oMv tm) (s1 rfl) <| cgB (nf hp64) rfl rfl (oMv tm) (s1 rfl) <| cgB (nf hp64) rfl rfl (oNe rfl tm tm) (s2 rfl rfl) <| cp (oPkF (nf hp64) tm tm) (s2 rfl rfl) <| cp (oMv tm) (s1 rfl) <| cgB (nf hp65) rfl rfl (oMv tm) (s1 rfl) <| cgB (nf hp65) rfl rfl (oMv tm) (s1 rfl) <| cgB (nf hp65) rfl rfl (oNe rfl tm tm) (s2 rfl rfl) <| cp (oPkF (nf hp65) tm tm) (s2 rfl rfl) <| cp (oMv tm) (s1 rfl) <| csB (nt hp66) rfl rfl <| csB (nt hp66) rfl rfl <| cp (oPkT (nt hp66) tm cB) (s1 rfl) <| .nil) (by kernel_rfl) ?_
                    exact pJ1 _ (so h) ⟨rfl, rfl, rfl, rfl, rfl, rfl, rfl, rfl, rfl, rfl, trivial⟩ rfl
                · refine rg (cp (oMv tm) (s1 rfl) <| cp (oMv tm) (s1 rfl) <| cp (oNe rfl tm tm) (s2 rfl rfl) <| cp (oMv tm) (s1 rfl) <| cgB (nf hp63) rfl rfl (oMv tm) (s1 rfl) <| cgB (nf hp63) rfl rfl (oMv tm) (s1 rfl) <| cgB (nf hp63) rfl rfl (oNe rfl tm tm) (s2 rfl rfl) <| cp (oPkF (nf hp63) tm tm) (s2 rfl rfl) <| cp (oMv tm) (s1 rfl) <| cgB (nf hp64) rfl rfl (oMv tm) (s1 rfl) <| cgB (nf hp64) rfl rfl (oMv tm) (s1 rfl) <| cgB (nf hp64) rfl rfl (oNe rfl tm tm) (s2 rfl rfl) <| cp (oPkF (nf hp64) tm tm) (s2 rfl rfl) <| cp (oMv tm) (s1 rfl) <| csB (nt hp65) rfl rfl <| csB (nt hp65) rfl rfl <| csB (nt hp65) rfl rfl <| cp (oPkT (nt hp65) tm cB) (s1 rfl) <| cp (oMv tm) (s1 rfl) <| csB rfl rfl rfl <| csB rfl rfl rfl <| cp (oPkT rfl tm cB) (s1 rfl) <| .nil) (by kernel_rfl) ?_
                  exact pJ1 _ (so h) ⟨rfl, rfl, rfl, rfl, rfl, rfl, rfl, rfl, rfl, rfl, trivial⟩ rfl
              · refine rg (cp (oMv tm) (s1 rfl) <| cp (oMv tm) (s1 rfl) <| cp (oNe rfl tm tm) (s2 rfl rfl) <| cp (oMv tm) (s1 rfl) <| cgB (nf hp63) rfl rfl (oMv tm) (s1 rfl) <| cgB (nf hp63) rfl rfl (oMv tm) (s1 rfl) <| cgB (nf hp63) rfl rfl (oNe rfl tm tm) (s2 rfl rfl) <| cp (oPkF (nf hp63) tm tm) (s2 rfl rfl) <| cp (oMv tm) (s1 rfl) <| csB (nt hp64) rfl rfl <| csB (nt hp64) rfl rfl <| csB (nt hp64) rfl rfl <| cp (oPkT (nt hp64) tm cB) (s1 rfl) <| cp (oMv tm) (s1 rfl) <| csB rfl rfl rfl <| csB rfl rfl rfl <| csB rfl rfl rfl <| cp (oPkT rfl tm cB) (s1 rfl) <| cp (oMv tm) (s1 rfl) <| csB rfl rfl rfl <| csB rfl rfl rfl <| cp (oPkT rfl tm cB) (s1 rfl) <| .nil) (by kernel_rfl) ?_
                exact pJ1 _ (so h) ⟨rfl, rfl, rfl, rfl, rfl, rfl, rfl, rfl, rfl, rfl, trivial⟩ rfl
            · refine rg (cp (oMv tm) (s1 rfl) <| cp (oMv tm) (s1 rfl) <| cp (oNe rfl tm tm) (s2 rfl rfl) <| cp (oMv tm) (s1 rfl) <| csB (nt hp63) rfl rfl <| csB (nt hp63) rfl rfl <| csB (nt hp63) rfl rfl <| cp (oPkT (nt hp63) tm cB) (s1 rfl) <| cp (oMv tm) (s1 rfl) <| csB rfl rfl rfl <| csB rfl rfl rfl <| csB rfl rfl rfl <| cp (oPkT rfl tm cB) (s1 rfl) <| cp (oMv tm) (s1 rfl) <| csB rfl rfl rfl <| csB rfl rfl rfl <| csB rfl rfl rfl <| cp (oPkT rfl tm cB) (s1 rfl) <| cp (oMv tm) (s1 rfl) <| csB rfl rfl rfl <| csB rfl rfl rfl <| cp (oPkT rfl tm cB) (s1 rfl) <| .nil) (by kernel_rfl) ?_
              exact pJ1 _ (so h) ⟨rfl, rfl, rfl, rfl, rfl, rfl, rfl, rfl, rfl, rfl, trivial⟩ rfl
          · rintro x62 rfl
            replace h := hk1
            rcases ic h with ⟨hp68, h⟩ | ⟨hp68, h⟩
            · refine wBT hp68 tm (s1 rfl) ?_
              refine wSeq ?_
              refine rg (cp (oAs cB) trivial <| .nil) (by kernel_rfl) ?_
              refine pSeq ?_
              refine wRet ?_
              refine pThenR ?_
              obtain rfl := so h
              exact pR1 (.inl rfl) rfl (.tmp rfl <| .nil)
            · refine wBF hp68 tm (s1 rfl) ?_
              refine wSkip ?_
              refine pSeq ?_
              refine wSeq ?_
              obtain ⟨o1, h, hk1⟩ := bd h
              refine wJ1 (fun x72 => x72 = o1) (fun x72 => [(1, .d ((kI .i64).sig a1)), (2, .d ((kI .i64).sig a2)), (3, .p 3 0), (7, .d (kB.sig y2.1)), (9, .d ((kI .i64).sig y3.1)), (11, .d ((kI .i64).sig y4.1)), (15, .d ((kI .i64).sig 9)), (104, .d (kB.sig x72))]) (fun x72 => [.box 3 42 [.d (kL kS) y1.Names, .d (kL (kI .u32)) y1.Up]]) ?_ ?_
              · rcases ic h with ⟨hp73, h⟩ | ⟨hp73, h⟩
                · obtain ⟨y74, hy74, h⟩ := bd h
                  refine rg (cp (oMv tm) (s1 rfl) <| cp (oNe rfl tm (cI (by decide))) (s1 rfl) <| cp (oMv tm) (s1 rfl) <| csB (nf hp73) rfl rfl <| csB (nf hp73) rfl rfl <| cp (oPkF (nf hp73) tm cB) (s1 rfl) <| cp (oMv tm) (s1 rfl) <| cgB rfl rfl rfl (oMv tm) (s1 rfl) <| cgB rfl rfl rfl (oEq rfl tm (cI (by decide))) (s1 rfl) <| cgB rfl rfl rfl (oMv tm) (s1 rfl) <| cgB (decide_eq_true hp73) rfl rfl (oMv tm) (s1 rfl) <| crgB (decide_eq_true hp73) rfl rfl (oLdA (n := 0) (fs := f_api_Lattice) (u := ⟨y1.Names, y1.Up⟩) rfl ⟨rfl, rfl, trivial⟩ t42 tm) (s1 rfl) <| cgB (decide_eq_true hp73) rfl rfl (oMv tm) (s1 rfl) <| cgB (decide_eq_true hp73) rfl rfl (oCall rfl (reticentref01_Height.ok hy74) b33 (opds_cons tm (opds_cons tm opds_nil))) (s2 rfl rfl) <| cgB (decide_eq_true hp73) rfl rfl (oNe rfl tm tm) (s2 rfl rfl) <| cgB rfl rfl rfl (oPkT (decide_eq_true hp73) tm tm) (s2 rfl rfl) <| cp (oPkF rfl tm tm) (s2 rfl rfl) <| .nil) (by kernel_rfl) ?_
                  exact pJ1 _ (so h) ⟨rfl, rfl, rfl, rfl, rfl, rfl, rfl, rfl, trivial⟩ rfl
                · rcases ic h with ⟨hp75, h⟩ | ⟨hp75, h⟩
                  · refine rg (cp (oMv tm) (s1 rfl) <| cp (oNe rfl tm (cI (by decide))) (s1 rfl) <| cp (oMv tm) (s1 rfl) <| cgB (nt hp73) rfl rfl (oMv tm) (s1 rfl) <| cgB (nt hp73) rfl rfl (oNe rfl tm (cI (by decide))) (s1 rfl) <| cp (oPkT (nt hp73) tm tm) (s2 rfl rfl) <| cp (oMv tm) (s1 rfl) <| cgB (nf hp75) rfl rfl (oMv tm) (s1 rfl) <| cgB (nf hp75) rfl rfl (oEq rfl tm (cI (by decide))) (s1 rfl) <| cgB (nf hp75) rfl rfl (oMv tm) (s1 rfl) <| csB (decide_eq_false hp73) rfl rfl <| csB (decide_eq_false hp73) rfl rfl <| csB (decide_eq_false hp73) rfl rfl <| csB (decide_eq_false hp73) rfl rfl <| csB (decide_eq_false hp73) rfl rfl <| cgB (nf hp75) rfl rfl (oPkF (decide_eq_false hp73) tm cB) (s1 rfl) <| cp (oPkF (nf hp75) tm tm) (s2 rfl rfl) <| .nil) (by kernel_rfl) ?_
                    exact pJ1 _ (so h) ⟨rfl, rfl, rfl, rfl, rfl, rfl, rfl, rfl, trivial⟩ rfl
                  · refine rg (cp (oMv tm) (s1 rfl) <| cp (oNe rfl tm (cI (by decide))) (s1 rfl) <| cp (oMv tm) (s1 rfl) <| cgB (nt hp73) rfl rfl (oMv tm) (s1 rfl) <| cgB (nt hp73) rfl rfl (oNe rfl tm (cI (by decide))) (s1 rfl) <| cp (oPkT (nt hp73) tm tm) (s2 rfl rfl) <| cp (oMv tm) (s1 rfl) <| csB (nt hp75) rfl rfl <| csB (nt hp75) rfl rfl <| csB (nt hp75) rfl rfl <| csU rfl rfl <| csU rfl rfl <| csU rfl rfl <| csU rfl rfl <| csU rfl rfl <| csB (nt hp75) rfl rfl <| cp (oPkT (nt hp75) tm cB) (s1 rfl) <| .nil) (by kernel_rfl) ?_
                    exact pJ1 _ (so h) ⟨rfl, rfl, rfl, rfl, rfl, rfl, rfl, rfl, trivial⟩ rfl
              · rintro x72 rfl
                replace h := hk1
                rcases ic h with ⟨hp76, h⟩ | ⟨hp76, h⟩
                · refine wBT hp76 tm (s1 rfl) ?_
                  refine wSeq ?_
                  refine rg (cp (oAs cB) trivial <| .nil) (by kernel_rfl) ?_
                  refine pSeq ?_
                  refine wRet ?_
                  refine pThenR ?_
                  obtain rfl := so h
                  exact pR1 (.inl rfl) rfl (.tmp rfl <| .nil)
                · refine wBF hp76 tm (s1 rfl) ?_
                  refine wSkip ?_
                  refine pSeq ?_
                  refine wSeq ?_
                  refine wSeq ?_
                  refine rg (cp (oMv tm) (s1 rfl) <| cp (oNe rfl tm (cI (by decide))) (s1 rfl) <| .nil) (by kernel_rfl) ?_
                  refine pSeq ?_
                  rcases ic h with ⟨hp77, h⟩ | ⟨hp77, h⟩
                  · refine wNT hp77 tm (s1 rfl) ?_
                    refine wSkip ?_
                    refine pSeq ?_
                    obtain ⟨o1, h, hk1⟩ := bd h
                    refine wJ1 (fun x83 => x83 = o1) (fun x83 => [(6, .d (kB.sig x83))]) (fun x83 => [.box 3 42 [.d (kL kS) y1.Names, .d (kL (kI .u32)) y1.Up]]) ?_ ?_
                    · obtain ⟨y84, hy84, h⟩ := bd h
                      rcases ic h with ⟨hp85, h⟩ | ⟨hp85, h⟩
                      · obtain ⟨y86, hy86, h⟩ := bd h
                        rcases ic h with ⟨hp87, h⟩ | ⟨hp87, h⟩
                        · obtain ⟨y88, hy88, h⟩ := bd h
                          refine rg (cp (oMv tm) (s1 rfl) <| cr (oLdA (n := 0) (fs := f_api_Lattice) (u := ⟨y1.Names, y1.Up⟩) rfl ⟨rfl, rfl, trivial⟩ t42 tm) (s1 rfl) <| cp (oMv tm) (s1 rfl) <| cp (oMv tm) (s1 rfl) <| cp (oCall rfl (reticentref01_Flows.ok hy84) b34 (opds_cons tm (opds_cons tm (opds_cons tm opds_nil)))) (s3 rfl rfl rfl) <| cp (oBEq u4 rfl tm tm) (s2 rfl rfl) <| cp (oMv tm) (s1 rfl) <| cgB (decide_eq_true hp85) rfl rfl (oMv tm) (s1 rfl) <| crgB (decide_eq_true hp85) rfl rfl (oLdA (n := 0) (fs := f_api_Lattice) (u := ⟨y1.Names, y1.Up⟩) rfl ⟨rfl, rfl, trivial⟩ t42 tm) (s1 rfl) <| cgB (decide_eq_true hp85) rfl rfl (oMv tm) (s1 rfl) <| cgB (decide_eq_true hp85) rfl rfl (oMv tm) (s1 rfl) <| cgB (decide_eq_true hp85) rfl rfl (oCall rfl (reticentref01_Join.ok hy86) b35 (opds_cons tm (opds_cons tm (opds_cons tm opds_nil)))) (s3 rfl rfl rfl) <| cgB (decide_eq_true hp85) rfl rfl (oEq rfl tm tm) (s2 rfl rfl) <| cp (oPkT (decide_eq_true hp85) tm tm) (s2 rfl rfl) <| cp (oMv tm) (s1 rfl) <| cgB (decide_eq_true hp87) rfl rfl (oMv tm) (s1 rfl) <| crgB (decide_eq_true hp87) rfl rfl (oLdA (n := 0) (fs := f_api_Lattice) (u := ⟨y1.Names, y1.Up⟩) rfl ⟨rfl, rfl, trivial⟩ t42 tm) (s1 rfl) <| cgB (decide_eq_true hp87) rfl rfl (oMv tm) (s1 rfl) <| cgB (decide_eq_true hp87) rfl rfl (oMv tm) (s1 rfl) <| cgB (decide_eq_true hp87) rfl rfl (oCall rfl (reticentref01_Meet.ok hy88) b36 (opds_cons tm (opds_cons tm (opds_cons tm opds_nil)))) (s3 rfl rfl rfl) <| cgB (decide_eq_true hp87) rfl rfl (oEq rfl tm tm) (s2 rfl rfl) <| cp (oPkT (decide_eq_true hp87) tm tm) (s2 rfl rfl) <| cp (oAs tm) (s1 rfl) <| .nil) (by kernel_rfl) ?_
                          exact pJ1 _ (so h) ⟨rfl, trivial⟩ rfl
                        · refine rg (cp (oMv tm) (s1 rfl) <| cr (oLdA (n := 0) (fs := f_api_Lattice) (u := ⟨y1.Names, y1.Up⟩) rfl ⟨rfl, rfl, trivial⟩ t42 tm) (s1 rfl) <| cp (oMv tm) (s1 rfl) <| cp (oMv tm) (s1 rfl) <| cp (oCall rfl (reticentref01_Flows.ok hy84) b34 (opds_cons tm (opds_cons tm (opds_cons tm opds_nil)))) (s3 rfl rfl rfl) <| cp (oBEq u4 rfl tm tm) (s2 rfl rfl) <| cp (oMv tm) (s1 rfl) <| cgB (decide_eq_true hp85) rfl rfl (oMv tm) (s1 rfl) <| crgB (decide_eq_true hp85) rfl rfl (oLdA (n := 0) (fs := f_api_Lattice) (u := ⟨y1.Names, y1.Up⟩) rfl ⟨rfl, rfl, trivial⟩ t42 tm) (s1 rfl) <| cgB (decide_eq_true hp85) rfl rfl (oMv tm) (s1 rfl) <| cgB (decide_eq_true hp85) rfl rfl (oMv tm) (s1 rfl) <| cgB (decide_eq_true hp85) rfl rfl (oCall rfl (reticentref01_Join.ok hy86) b35 (opds_cons tm (opds_cons tm (opds_cons tm opds_nil)))) (s3 rfl rfl rfl) <| cgB (decide_eq_true hp85) rfl rfl (oEq rfl tm tm) (s2 rfl rfl) <| cp (oPkT (decide_eq_true hp85) tm tm) (s2 rfl rfl) <| cp (oMv tm) (s1 rfl) <| csB (decide_eq_false hp87) rfl rfl <| csB (decide_eq_false hp87) rfl rfl <| csB (decide_eq_false hp87) rfl rfl <| csB (decide_eq_false hp87) rfl rfl <| csB (decide_eq_false hp87) rfl rfl <| csB (decide_eq_false hp87) rfl rfl <| cp (oPkF (decide_eq_false hp87) tm cB) (s1 rfl) <| cp (oAs tm) (s1 rfl) <| .nil) (by kernel_rfl) ?_
                          exact pJ1 _ (so h) ⟨rfl, trivial⟩ rfl
                      · refine rg (cp (oMv tm) (s1 rfl) <| cr (oLdA (n := 0) (fs := f_api_Lattice) (u := ⟨y1.Names, y1.Up⟩) rfl ⟨rfl, rfl, trivial⟩ t42 tm) (s1 rfl) <| cp (oMv tm) (s1 rfl) <| cp (oMv tm) (s1 rfl) <| cp (oCall rfl (reticentref01_Flows.ok hy84) b34 (opds_cons tm (opds_cons tm (opds_cons tm opds_nil)))) (s3 rfl rfl rfl) <| cp (oBEq u4 rfl tm tm) (s2 rfl rfl) <| cp (oMv tm) (s1 rfl) <| csB (decide_eq_false hp85) rfl rfl <| csB (decide_eq_false hp85) rfl rfl <| csB (decide_eq_false hp85) rfl rfl <| csB (decide_eq_false hp85) rfl rfl <| csB (decide_eq_false hp85) rfl rfl <| csB (decide_eq_false hp85) rfl rfl <| cp (oPkF (decide_eq_false hp85) tm cB) (s1 rfl) <| cp (oMv tm) (s1 rfl) <| csB rfl rfl rfl <| csB rfl rfl rfl <| csB rfl rfl rfl <| csB rfl rfl rfl <| csB rfl rfl rfl <| csB rfl rfl rfl <| cp (oPkF rfl tm cB) (s1 rfl) <| cp (oAs tm) (s1 rfl) <| .nil) (by kernel_rfl) ?_
                        exact pJ1 _ (so h) ⟨rfl, trivial⟩ rfl
                    · rintro x83 rfl
                      replace h := hk1
                      refine wRet ?_
                      obtain rfl := so h
                      exact pR1 (.inl rfl) rfl (.tmp rfl <| .nil)
                  · refine wNF hp77 tm (s1 rfl) ?_
                    obtain ⟨o1, h, hk1⟩ := bd h
                    refine wJ1 (fun x91 => x91 = o1) (fun x91 => [(6, .d (kB.sig x91))]) (fun x91 => [.box 3 42 [.d (kL kS) y1.Names, .d (kL (kI .u32)) y1.Up]]) ?_ ?_
                    · rcases ic h with ⟨hp92, h⟩ | ⟨hp92, h⟩
                      · rcases ic h with ⟨hp93, h⟩ | ⟨hp93, h⟩
                        · refine rg (cp (oMv tm) (s1 rfl) <| cp (oNot tm) (s1 rfl) <| cp (oMv tm) (s1 rfl) <| cgB hp92 rfl rfl (oMv tm) (s1 rfl) <| cgB hp92 rfl rfl (oEq rfl tm (cI (by decide))) (s1 rfl) <| cp (oPkT hp92 tm tm) (s2 rfl rfl) <| cp (oMv tm) (s1 rfl) <| cgB (decide_eq_true hp93) rfl rfl (oMv tm) (s1 rfl) <| cgB (decide_eq_true hp93) rfl rfl (oEq rfl tm (cI (by decide))) (s1 rfl) <| cp (oPkT (decide_eq_true hp93) tm tm) (s2 rfl rfl) <| cp (oAs tm) (s1 rfl) <| .nil) (by kernel_rfl) ?_
                          exact pJ1 _ (so h) ⟨rfl, trivial⟩ rfl
                        · refine rg (cp (oMv tm) (s1 rfl) <| cp (oNot tm) (s1 rfl) <| cp (oMv tm) (s1 rfl) <| cgB hp92 rfl rfl (oMv tm) (s1 rfl) <| cgB hp92 rfl rfl (oEq rfl tm (cI (by decide))) (s1 rfl) <| cp (oPkT hp92 tm tm) (s2 rfl rfl) <| cp (oMv tm) (s1 rfl) <| csB (decide_eq_false hp93) rfl rfl <| csB (decide_eq_false hp93) rfl rfl <| cp (oPkF (decide_eq_false hp93) tm cB) (s1 rfl) <| cp (oAs tm) (s1 rfl) <| .nil) (by kernel_rfl) ?_
                          exact pJ1 _ (so h) ⟨rfl, trivial⟩ rfl
                      · refine rg (cp (oMv tm) (s1 rfl) <| cp (oNot tm) (s1 rfl) <| cp (oMv tm) (s1 rfl) <| csB (nb hp92) rfl rfl <| csB (nb hp92) rfl rfl <| cp (oPkF (nb hp92) tm cB) (s1 rfl) <| cp (oMv tm) (s1 rfl) <| csB rfl rfl rfl <| csB rfl rfl rfl <| cp (oPkF rfl tm cB) (s1 rfl) <| cp (oAs tm) (s1 rfl) <| .nil) (by kernel_rfl) ?_
                        exact pJ1 _ (so h) ⟨rfl, trivial⟩ rfl
                    · rintro x91 rfl
                      replace h := hk1
                      refine wRet ?_
                      refine pThenR ?_
                      obtain rfl := so h
                      exact pR1 (.inl rfl) rfl (.tmp rfl <| .nil)
    · refine wBF hp13 tm (s1 rfl) ?_
      refine wSkip ?_
      refine pSeq ?_
      refine wSeq ?_
      obtain ⟨o1, h, hk1⟩ := bd h
      refine wJ1 (fun x96 => x96 = o1) (fun x96 => [(1, .d ((kI .i64).sig a1)), (2, .d ((kI .i64).sig a2)), (3, .p 3 0), (7, .d (kB.sig y2.1)), (8, .d ((kI .i64).sig y2.2)), (9, .d ((kI .i64).sig y3.1)), (10, .d ((kI .i64).sig y3.2)), (11, .d ((kI .i64).sig y4.1)), (12, .d ((kI .i64).sig y4.2)), (13, .d ((kI .i64).sig y5.1)), (14, .d ((kI .i64).sig y5.2)), (15, .d ((kI .i64).sig y6)), (16, .d ((kI .i64).sig y7)), (65, .d (kB.sig x96))]) (fun x96 => [.box 3 42 [.d (kL kS) y1.Names, .d (kL (kI .u32)) y1.Up]]) ?_ ?_
      · rcases ic h with ⟨hp97, h⟩ | ⟨hp97, h⟩
        · obtain ⟨y98, hy98, h⟩ := bd h
          refine rg (cp (oMv tm) (s1 rfl) <| cp (oEq rfl tm (cI (by decide))) (s1 rfl) <| cp (oMv tm) (s1 rfl) <| crgB (decide_eq_true hp97) rfl rfl (oLdA (n := 0) (fs := f_api_Lattice) (u := ⟨y1.Names, y1.Up⟩) rfl ⟨rfl, rfl, trivial⟩ t42 tm) (s1 rfl) <| cgB (decide_eq_true hp97) rfl rfl (oMv tm) (s1 rfl) <| cgB (decide_eq_true hp97) rfl rfl (oCall rfl (reticentlaw01_there.ok hy98) b31 (opds_cons tm (opds_cons tm opds_nil))) (s2 rfl rfl) <| cgB (decide_eq_true hp97) rfl rfl (oNot tm) (s1 rfl) <| cp (oPkT (decide_eq_true hp97) tm tm) (s2 rfl rfl) <| .nil) (by kernel_rfl) ?_
          exact pJ1 _ (so h) ⟨rfl, rfl, rfl, rfl, rfl, rfl, rfl, rfl, rfl, rfl, rfl, rfl, rfl, rfl, trivial⟩ rfl
        · refine rg (cp (oMv tm) (s1 rfl) <| cp (oEq rfl tm (cI (by decide))) (s1 rfl) <| cp (oMv tm) (s1 rfl) <| csB (decide_eq_false hp97) rfl rfl <| csB (decide_eq_false hp97) rfl rfl <| csB (decide_eq_false hp97) rfl rfl <| csB (decide_eq_false hp97) rfl rfl <| cp (oPkF (decide_eq_false hp97) tm cB) (s1 rfl) <| .nil) (by kernel_rfl) ?_
          exact pJ1 _ (so h) ⟨rfl, rfl, rfl, rfl, rfl, rfl, rfl, rfl, rfl, rfl, rfl, rfl, rfl, rfl, trivial⟩ rfl
      · rintro x96 rfl
        replace h := hk1
        rcases ic h with ⟨hp99, h⟩ | ⟨hp99, h⟩
        · refine wBT hp99 tm (s1 rfl) ?_
          refine rg (cp (oAs (cI (by decide))) trivial <| .nil) (by kernel_rfl) ?_
          refine pSeq ?_
          refine wSeq ?_
          obtain ⟨o1, h, hk1⟩ := bd h
          refine wJ1 (fun x105 => x105 = o1) (fun x105 => [(1, .d ((kI .i64).sig a1)), (2, .d ((kI .i64).sig a2)), (3, .p 3 0), (7, .d (kB.sig y2.1)), (9, .d ((kI .i64).sig y3.1)), (11, .d ((kI .i64).sig y4.1)), (13, .d ((kI .i64).sig y5.1)), (15, .d ((kI .i64).sig 9)), (16, .d ((kI .i64).sig y7)), (87, .d (kB.sig x105))]) (fun x105 => [.box 3 42 [.d (kL kS) y1.Names, .d (kL (kI .u32)) y1.Up]]) ?_ ?_
          · rcases ic h with ⟨hp106, h⟩ | ⟨hp106, h⟩
            · rcases ic h with ⟨hp107, h⟩ | ⟨hp107, h⟩
              · rcases ic h with ⟨hp108, h⟩ | ⟨hp108, h⟩
                · rcases ic h with ⟨hp109, h⟩ | ⟨hp109, h⟩
                  · obtain ⟨y110, hy110, h⟩ := bd h
                    refine rg (cp (oMv tm) (s1 rfl) <| cp (oMv tm) (s1 rfl) <| cp (oNe rfl tm tm) (s2 rfl rfl) <| cp (oMv tm) (s1 rfl) <| cgB (nf hp106) rfl rfl (oMv tm) (s1 rfl) <| cgB (nf hp106) rfl rfl (oMv tm) (s1 rfl) <| cgB (nf hp106) rfl rfl (oNe rfl tm tm) (s2 rfl rfl) <| cp (oPkF (nf hp106) tm tm) (s2 rfl rfl) <| cp (oMv tm) (s1 rfl) <| cgB (nf hp107) rfl rfl (oMv tm) (s1 rfl) <| cgB (nf hp107) rfl rfl (oMv tm) (s1 rfl) <| cgB (nf hp107) rfl rfl (oNe rfl tm tm) (s2 rfl rfl) <| cp (oPkF (nf hp107) tm tm) (s2 rfl rfl) <| cp (oMv tm) (s1 rfl) <| cgB (nf hp108) rfl rfl (oMv tm) (s1 rfl) <| cgB (nf hp108) rfl rfl (oMv tm) (s1 rfl) <| cgB (nf hp108) rfl rfl (oNe rfl tm tm) (s2 rfl rfl) <| cp (oPkF (nf hp108) tm tm) (s2 rfl rfl) <| cp (oMv tm) (s1 rfl) <| cgB (nf hp109) rfl rfl (oCall rfl (reticentlaw01_alive.ok hy110) b32 opds_nil) trivial <| cgB (nf hp109) rfl rfl (oNot tm) (s1 rfl) <| cp (oPkF (nf hp109) tm tm) (s2 rfl rfl) <| .nil) (by kernel_rfl) ?_
                    exact pJ1 _ (so h) ⟨rfl, rfl, rfl, rfl, rfl, rfl, rfl, rfl, rfl, rfl, trivial⟩ rfl
                  · refine rg (cp (oMv tm) (s1 rfl) <| cp (oMv tm) (s1 rfl) <| cp (oNe rfl tm tm) (s2 rfl rfl) <| cp (oMv tm) (s1 rfl) <| cgB (nf hp106) rfl rfl (oMv tm) (s1 rfl) <| cgB (nf hp106) rfl rfl (oMv tm) (s1 rfl) <| cgB (nf hp106) rfl rfl (oNe rfl tm tm) (s2 rfl rfl) <| cp (oPkF (nf hp106) tm tm) (s2 rfl rfl) <| cp (oMv tm) (s1 rfl) <| cgB (nf hp107) rfl rfl (oMv tm) (s1 rfl) <| cgB (nf hp107) rfl rfl (oMv tm) (s1 rfl) <| cgB (nf hp107) rfl rfl (oNe rfl tm tm) (s2 rfl rfl) <| cp (oPkF (nf hp107) tm tm) (s2 rfl rfl) <| cp (oMv tm) (s1 rfl) <| cgB (nf hp108) rfl rfl (oMv tm) (s1 rfl) <| cgB (nf hp108) rfl rfl (oMv tm) (s1 rfl) <| cgB (nf hp108) rfl rfl (oNe rfl tm tm) (s2 rfl rfl) <| cp (oPkF (nf hp108) tm tm) (s2 rfl rfl) <| cp (oMv tm) (s1 rfl) <| csB (nt hp109) rfl rfl <| csB (nt hp109) rfl rfl <| cp (oPkT (nt hp109) tm cB) (s1 rfl) <| .nil) (by kernel_rfl) ?_
                    exact pJ1 _ (so h) ⟨rfl, rfl, rfl, rfl, rfl, rfl, rfl, rfl, rfl, rfl, trivial⟩ rfl
                · refine rg (cp (oMv tm) (s1 rfl) <| cp (oMv tm) (s1 rfl) <| cp (oNe rfl tm tm) (s2 rfl rfl) <| cp (oMv tm) (s1 rfl) <| cgB (nf hp106) rfl rfl (oMv tm) (s1 rfl) <| cgB (nf hp106) rfl rfl (oMv tm) (s1 rfl) <| cgB (nf hp106) rfl rfl (oNe rfl tm tm) (s2 rfl rfl) <| cp (oPkF (nf hp106) tm tm) (s2 rfl rfl) <| cp (oMv tm) (s1 rfl) <| cgB (nf hp107) rfl rfl (oMv tm) (s1 rfl) <| cgB (nf hp107) rfl rfl (oMv tm) (s1 rfl) <| cgB (nf hp107) rfl rfl (oNe rfl tm tm) (s2 rfl rfl) <| cp (oPkF (nf hp107) tm tm) (s2 rfl rfl) <| cp (oMv tm) (s1 rfl) <| csB (nt hp108) rfl rfl <| csB (nt hp108) rfl rfl <| csB (nt hp108) rfl rfl <| cp (oPkT (nt hp108) tm cB) (s1 rfl) <| cp (oMv tm) (s1 rfl) <| csB rfl rfl rfl <| csB rfl rfl rfl <| cp (oPkT rfl tm cB) (s1 rfl) <| .nil) (by kernel_rfl) ?_
                  exact pJ1 _ (so h) ⟨rfl, rfl, rfl, rfl, rfl, rfl, rfl, rfl, rfl, rfl, trivial⟩ rfl
              · refine rg (cp (oMv tm) (s1 rfl) <| cp (oMv tm) (s1 rfl) <| cp (oNe rfl tm tm) (s2 rfl rfl) <| cp (oMv tm) (s1 rfl) <| cgB (nf hp106) rfl rfl (oMv tm) (s1 rfl) <| cgB (nf hp106) rfl rfl (oMv tm) (s1 rfl) <| cgB (nf hp106) rfl rfl (oNe rfl tm tm) (s2 rfl rfl) <| cp (oPkF (nf hp106) tm tm) (s2 rfl rfl) <| cp (oMv tm) (s1 rfl) <| csB (nt hp107) rfl rfl <| csB (nt hp107) rfl rfl <| csB (nt hp107) rfl rfl <| cp (oPkT (nt hp107) tm cB) (s1 rfl) <| cp (oMv tm) (s1 rfl) <| csB rfl rfl rfl <| csB rfl rfl rfl <| csB rfl rfl rfl <| cp (oPkT rfl tm cB) (s1 rfl) <| cp (oMv tm) (s1 rfl) <| csB rfl rfl rfl <| csB rfl rfl rfl <| cp (oPkT rfl tm cB) (s1 rfl) <| .nil) (by kernel_rfl) ?_
                exact pJ1 _ (so h) ⟨rfl, rfl, rfl, rfl, rfl, rfl, rfl, rfl, rfl, rfl, trivial⟩ rfl
            · refine rg (cp (oMv tm) (s1 rfl) <| cp (oMv tm) (s1 rfl) <| cp (oNe rfl tm tm) (s2 rfl rfl) <| cp (oMv tm) (s1 rfl) <| csB (nt hp106) rfl rfl <| csB (nt hp106) rfl rfl <| csB (nt hp106) rfl rfl <| cp (oPkT (nt hp106) tm cB) (s1 rfl) <| cp (oMv tm) (s1 rfl) <| csB rfl rfl rfl <| csB rfl rfl rfl <| csB rfl rfl rfl <| cp (oPkT rfl tm cB) (s1 rfl) <| cp (oMv tm) (s1 rfl) <| csB rfl rfl rfl <| csB rfl rfl rfl <| csB rfl rfl rfl <| cp (oPkT rfl tm cB) (s1 rfl) <| cp (oMv tm) (s1 rfl) <| csB rfl rfl rfl <| csB rfl rfl rfl <| cp (oPkT rfl tm cB) (s1 rfl) <| .nil) (by kernel_rfl) ?_
              exact pJ1 _ (so h) ⟨rfl, rfl, rfl, rfl, rfl, rfl, rfl, rfl, rfl, rfl, trivial⟩ rfl
          · rintro x105 rfl
            replace h := hk1
            rcases ic h with ⟨hp111, h⟩ | ⟨hp111, h⟩
            · refine wBT hp111 tm (s1 rfl) ?_
              refine wSeq ?_
              refine rg (cp (oAs cB) trivial <| .nil) (by kernel_rfl) ?_
              refine pSeq ?_
              refine wRet ?_
              refine pThenR ?_
              obtain rfl := so h
              exact pR1 (.inl rfl) rfl (.tmp rfl <| .nil)
            · refine wBF hp111 tm (s1 rfl) ?_
              refine wSkip ?_
              refine pSeq ?_
              refine wSeq ?_
              obtain ⟨o1, h, hk1⟩ := bd h
              refine wJ1 (fun x115 => x115 = o1) (fun x115 => [(1, .d ((kI .i64).sig a1)), (2, .d ((kI .i64).sig a2)), (3, .p 3 0), (7, .d (kB.sig y2.1)), (9, .d ((kI .i64).sig y3.1)), (11, .d ((kI .i64).sig y4.1)), (15, .d ((kI .i64).sig 9)), (104, .d (kB.sig x115))]) (fun x115 => [.box 3 42 [.d (kL kS) y1.Names, .d (kL (kI .u32)) y1.Up]]) ?_ ?_
              · rcases ic h with ⟨hp116, h⟩ | ⟨hp116, h⟩
                · obtain ⟨y117, hy117, h⟩ := bd h
                  refine rg (cp (oMv tm) (s1 rfl) <| cp (oNe rfl tm (cI (by decide))) (s1 rfl) <| cp (oMv tm) (s1 rfl) <| csB (nf hp116) rfl rfl <| csB (nf hp116) rfl rfl <| cp (oPkF (nf hp116) tm cB) (s1 rfl) <| cp (oMv tm) (s1 rfl) <| cgB rfl rfl rfl (oMv tm) (s1 rfl) <| cgB rfl rfl rfl (oEq rfl tm (cI (by decide))) (s1 rfl) <| cgB rfl rfl rfl (oMv tm) (s1 rfl) <| cgB (decide_eq_true hp116) rfl rfl (oMv tm) (s1 rfl) <| crgB (decide_eq_true hp116) rfl rfl (oLdA (n := 0) (fs := f_api_Lattice) (u := ⟨y1.Names, y1.Up⟩) rfl ⟨rfl, rfl, trivial⟩ t42 tm) (s1 rfl) <| cgB (decide_eq_true hp116) rfl rfl (oMv tm) (s1 rfl) <| cgB (decide_eq_true hp116) rfl rfl (oCall rfl (reticentref01_Height.ok hy117) b33 (opds_cons tm (opds_cons tm opds_nil))) (s2 rfl rfl) <| cgB (decide_eq_true hp116) rfl rfl (oNe rfl tm tm) (s2 rfl rfl) <| cgB rfl rfl rfl (oPkT (decide_eq_true hp116) tm tm) (s2 rfl rfl) <| cp (oPkF rfl tm tm) (s2 rfl rfl) <| .nil) (by kernel_rfl) ?_
                  exact pJ1 _ (so h) ⟨rfl, rfl, rfl, rfl, rfl, rfl, rfl, rfl, trivial⟩ rfl
                · rcases ic h with ⟨hp118, h⟩ | ⟨hp118, h⟩
                  · refine rg (cp (oMv tm) (s1 rfl) <| cp (oNe rfl tm (cI (by decide))) (s1 rfl) <| cp (oMv tm) (s1 rfl) <| cgB (nt hp116) rfl rfl (oMv tm) (s1 rfl) <| cgB (nt hp116) rfl rfl (oNe rfl tm (cI (by decide))) (s1 rfl) <| cp (oPkT (nt hp116) tm tm) (s2 rfl rfl) <| cp (oMv tm) (s1 rfl) <| cgB (nf hp118) rfl rfl (oMv tm) (s1 rfl) <| cgB (nf hp118) rfl rfl (oEq rfl tm (cI (by decide))) (s1 rfl) <| cgB (nf hp118) rfl rfl (oMv tm) (s1 rfl) <| csB (decide_eq_false hp116) rfl rfl <| csB (decide_eq_false hp116) rfl rfl <| csB (decide_eq_false hp116) rfl rfl <| csB (decide_eq_false hp116) rfl rfl <| csB (decide_eq_false hp116) rfl rfl <| cgB (nf hp118) rfl rfl (oPkF (decide_eq_false hp116) tm cB) (s1 rfl) <| cp (oPkF (nf hp118) tm tm) (s2 rfl rfl) <| .nil) (by kernel_rfl) ?_
                    exact pJ1 _ (so h) ⟨rfl, rfl, rfl, rfl, rfl, rfl, rfl, rfl, trivial⟩ rfl
                  · refine rg (cp (oMv tm) (s1 rfl) <| cp (oNe rfl tm (cI (by decide))) (s1 rfl) <| cp (oMv tm) (s1 rfl) <| cgB (nt hp116) rfl rfl (oMv tm) (s1 rfl) <| cgB (nt hp116) rfl rfl (oNe rfl tm (cI (by decide))) (s1 rfl) <| cp (oPkT (nt hp116) tm tm) (s2 rfl rfl) <| cp (oMv tm) (s1 rfl) <| csB (nt hp118) rfl rfl <| csB (nt hp118) rfl rfl <| csB (nt hp118) rfl rfl <| csU rfl rfl <| csU rfl rfl <| csU rfl rfl <| csU rfl rfl <| csU rfl rfl <| csB (nt hp118) rfl rfl <| cp (oPkT (nt hp118) tm cB) (s1 rfl) <| .nil) (by kernel_rfl) ?_
                    exact pJ1 _ (so h) ⟨rfl, rfl, rfl, rfl, rfl, rfl, rfl, rfl, trivial⟩ rfl
              · rintro x115 rfl
                replace h := hk1
                rcases ic h with ⟨hp119, h⟩ | ⟨hp119, h⟩
                · refine wBT hp119 tm (s1 rfl) ?_
                  refine wSeq ?_
                  refine rg (cp (oAs cB) trivial <| .nil) (by kernel_rfl) ?_
                  refine pSeq ?_
                  refine wRet ?_
                  refine pThenR ?_
                  obtain rfl := so h
                  exact pR1 (.inl rfl) rfl (.tmp rfl <| .nil)
                · refine wBF hp119 tm (s1 rfl) ?_
                  refine wSkip ?_
                  refine pSeq ?_
                  refine wSeq ?_
                  refine wSeq ?_
                  refine rg (cp (oMv tm) (s1 rfl) <| cp (oNe rfl tm (cI (by decide))) (s1 rfl) <| .nil) (by kernel_rfl) ?_
                  refine pSeq ?_
                  rcases ic h with ⟨hp120, h⟩ | ⟨hp120, h⟩
                  · refine wNT hp120 tm (s1 rfl) ?_
                    refine wSkip ?_
                    refine pSeq ?_
                    obtain ⟨o1, h, hk1⟩ := bd h
                    refine wJ1 (fun x126 => x126 = o1) (fun x126 => [(6, .d (kB.sig x126))]) (fun x126 => [.box 3 42 [.d (kL kS) y1.Names, .d (kL (kI .u32)) y1.Up]]) ?_ ?_
                    · obtain ⟨y127, hy127, h⟩ := bd h
                      rcases ic h with ⟨hp128, h⟩ | ⟨hp128, h⟩
                      · obtain ⟨y129, hy129, h⟩ := bd h
                        rcases ic h with ⟨hp130, h⟩ | ⟨hp130, h⟩
                        · obtain ⟨y131, hy131, h⟩ := bd h
                          refine rg (cp (oMv tm) (s1 rfl) <| cr (oLdA (n := 0) (fs := f_api_Lattice) (u := ⟨y1.Names, y1.Up⟩) rfl ⟨rfl, rfl, trivial⟩ t42 tm) (s1 rfl) <| cp (oMv tm) (s1 rfl) <| cp (oMv tm) (s1 rfl) <| cp (oCall rfl (reticentref01_Flows.ok hy127) b34 (opds_cons tm (opds_cons tm (opds_cons tm opds_nil)))) (s3 rfl rfl rfl) <| cp (oBEq u4 rfl tm tm) (s2 rfl rfl) <| cp (oMv tm) (s1 rfl) <| cgB (decide_eq_true hp128) rfl rfl (oMv tm) (s1 rfl) <| crgB (decide_eq_true hp128) rfl rfl (oLdA (n := 0) (fs := f_api_Lattice) (u := ⟨y1.Names, y1.Up⟩) rfl ⟨rfl, rfl, trivial⟩ t42 tm) (s1 rfl) <| cgB (decide_eq_true hp128) rfl rfl (oMv tm) (s1 rfl) <| cgB (decide_eq_true hp128) rfl rfl (oMv tm) (s1 rfl) <| cgB (decide_eq_true hp128) rfl rfl (oCall rfl (reticentref01_Join.ok hy129) b35 (opds_cons tm (opds_cons tm (opds_cons tm opds_nil)))) (s3 rfl rfl rfl) <| cgB (decide_eq_true hp128) rfl rfl (oEq rfl tm tm) (s2 rfl rfl) <| cp (oPkT (decide_eq_true hp128) tm tm) (s2 rfl rfl) <| cp (oMv tm) (s1 rfl) <| cgB (decide_eq_true hp130) rfl rfl (oMv tm) (s1 rfl) <| crgB (decide_eq_true hp130) rfl rfl (oLdA (n := 0) (fs := f_api_Lattice) (u := ⟨y1.Names, y1.Up⟩) rfl ⟨rfl, rfl, trivial⟩ t42 tm) (s1 rfl) <| cgB (decide_eq_true hp130) rfl rfl (oMv tm) (s1 rfl) <| cgB (decide_eq_true hp130) rfl rfl (oMv tm) (s1 rfl) <| cgB (decide_eq_true hp130) rfl rfl (oCall rfl (reticentref01_Meet.ok hy131) b36 (opds_cons tm (opds_cons tm (opds_cons tm opds_nil)))) (s3 rfl rfl rfl) <| cgB (decide_eq_true hp130) rfl rfl (oEq rfl tm tm) (s2 rfl rfl) <| cp (oPkT (decide_eq_true hp130) tm tm) (s2 rfl rfl) <| cp (oAs tm) (s1 rfl) <| .nil) (by kernel_rfl) ?_
                          exact pJ1 _ (so h) ⟨rfl, trivial⟩ rfl
                        · refine rg (cp (oMv tm) (s1 rfl) <| cr (oLdA (n := 0) (fs := f_api_Lattice) (u := ⟨y1.Names, y1.Up⟩) rfl ⟨rfl, rfl, trivial⟩ t42 tm) (s1 rfl) <| cp (oMv tm) (s1 rfl) <| cp (oMv tm) (s1 rfl) <| cp (oCall rfl (reticentref01_Flows.ok hy127) b34 (opds_cons tm (opds_cons tm (opds_cons tm opds_nil)))) (s3 rfl rfl rfl) <| cp (oBEq u4 rfl tm tm) (s2 rfl rfl) <| cp (oMv tm) (s1 rfl) <| cgB (decide_eq_true hp128) rfl rfl (oMv tm) (s1 rfl) <| crgB (decide_eq_true hp128) rfl rfl (oLdA (n := 0) (fs := f_api_Lattice) (u := ⟨y1.Names, y1.Up⟩) rfl ⟨rfl, rfl, trivial⟩ t42 tm) (s1 rfl) <| cgB (decide_eq_true hp128) rfl rfl (oMv tm) (s1 rfl) <| cgB (decide_eq_true hp128) rfl rfl (oMv tm) (s1 rfl) <| cgB (decide_eq_true hp128) rfl rfl (oCall rfl (reticentref01_Join.ok hy129) b35 (opds_cons tm (opds_cons tm (opds_cons tm opds_nil)))) (s3 rfl rfl rfl) <| cgB (decide_eq_true hp128) rfl rfl (oEq rfl tm tm) (s2 rfl rfl) <| cp (oPkT (decide_eq_true hp128) tm tm) (s2 rfl rfl) <| cp (oMv tm) (s1 rfl) <| csB (decide_eq_false hp130) rfl rfl <| csB (decide_eq_false hp130) rfl rfl <| csB (decide_eq_false hp130) rfl rfl <| csB (decide_eq_false hp130) rfl rfl <| csB (decide_eq_false hp130) rfl rfl <| csB (decide_eq_false hp130) rfl rfl <| cp (oPkF (decide_eq_false hp130) tm cB) (s1 rfl) <| cp (oAs tm) (s1 rfl) <| .nil) (by kernel_rfl) ?_
                          exact pJ1 _ (so h) ⟨rfl, trivial⟩ rfl
                      · refine rg (cp (oMv tm) (s1 rfl) <| cr (oLdA (n := 0) (fs := f_api_Lattice) (u := ⟨y1.Names, y1.Up⟩) rfl ⟨rfl, rfl, trivial⟩ t42 tm) (s1 rfl) <| cp (oMv tm) (s1 rfl) <| cp (oMv tm) (s1 rfl) <| cp (oCall rfl (reticentref01_Flows.ok hy127) b34 (opds_cons tm (opds_cons tm (opds_cons tm opds_nil)))) (s3 rfl rfl rfl) <| cp (oBEq u4 rfl tm tm) (s2 rfl rfl) <| cp (oMv tm) (s1 rfl) <| csB (decide_eq_false hp128) rfl rfl <| csB (decide_eq_false hp128) rfl rfl <| csB (decide_eq_false hp128) rfl rfl <| csB (decide_eq_false hp128) rfl rfl <| csB (decide_eq_false hp128) rfl rfl <| csB (decide_eq_false hp128) rfl rfl <| cp (oPkF (decide_eq_false hp128) tm cB) (s1 rfl) <| cp (oMv tm) (s1 rfl) <| csB rfl rfl rfl <| csB rfl rfl rfl <| csB rfl rfl rfl <| csB rfl rfl rfl <| csB rfl rfl rfl <| csB rfl rfl rfl <| cp (oPkF rfl tm cB) (s1 rfl) <| cp (oAs tm) (s1 rfl) <| .nil) (by kernel_rfl) ?_
                        exact pJ1 _ (so h) ⟨rfl, trivial⟩ rfl
                    · rintro x126 rfl
                      replace h := hk1
                      refine wRet ?_
                      obtain rfl := so h
                      exact pR1 (.inl rfl) rfl (.tmp rfl <| .nil)
                  · refine wNF hp120 tm (s1 rfl) ?_
                    obtain ⟨o1, h, hk1⟩ := bd h
                    refine wJ1 (fun x134 => x134 = o1) (fun x134 => [(6, .d (kB.sig x134))]) (fun x134 => [.box 3 42 [.d (kL kS) y1.Names, .d (kL (kI .u32)) y1.Up]]) ?_ ?_
                    · rcases ic h with ⟨hp135, h⟩ | ⟨hp135, h⟩
                      · rcases ic h with ⟨hp136, h⟩ | ⟨hp136, h⟩
                        · refine rg (cp (oMv tm) (s1 rfl) <| cp (oNot tm) (s1 rfl) <| cp (oMv tm) (s1 rfl) <| cgB hp135 rfl rfl (oMv tm) (s1 rfl) <| cgB hp135 rfl rfl (oEq rfl tm (cI (by decide))) (s1 rfl) <| cp (oPkT hp135 tm tm) (s2 rfl rfl) <| cp (oMv tm) (s1 rfl) <| cgB (decide_eq_true hp136) rfl rfl (oMv tm) (s1 rfl) <| cgB (decide_eq_true hp136) rfl rfl (oEq rfl tm (cI (by decide))) (s1 rfl) <| cp (oPkT (decide_eq_true hp136) tm tm) (s2 rfl rfl) <| cp (oAs tm) (s1 rfl) <| .nil) (by kernel_rfl) ?_
                          exact pJ1 _ (so h) ⟨rfl, trivial⟩ rfl
                        · refine rg (cp (oMv tm) (s1 rfl) <| cp (oNot tm) (s1 rfl) <| cp (oMv tm) (s1 rfl) <| cgB hp135 rfl rfl (oMv tm) (s1 rfl) <| cgB hp135 rfl rfl (oEq rfl tm (cI (by decide))) (s1 rfl) <| cp (oPkT hp135 tm tm) (s2 rfl rfl) <| cp (oMv tm) (s1 rfl) <| csB (decide_eq_false hp136) rfl rfl <| csB (decide_eq_false hp136) rfl rfl <| cp (oPkF (decide_eq_false hp136) tm cB) (s1 rfl) <| cp (oAs tm) (s1 rfl) <| .nil) (by kernel_rfl) ?_
                          exact pJ1 _ (so h) ⟨rfl, trivial⟩ rfl
                      · refine rg (cp (oMv tm) (s1 rfl) <| cp (oNot tm) (s1 rfl) <| cp (oMv tm) (s1 rfl) <| csB (nb hp135) rfl rfl <| csB (nb hp135) rfl rfl <| cp (oPkF (nb hp135) tm cB) (s1 rfl) <| cp (oMv tm) (s1 rfl) <| csB rfl rfl rfl <| csB rfl rfl rfl <| cp (oPkF rfl tm cB) (s1 rfl) <| cp (oAs tm) (s1 rfl) <| .nil) (by kernel_rfl) ?_
                        exact pJ1 _ (so h) ⟨rfl, trivial⟩ rfl
                    · rintro x134 rfl
                      replace h := hk1
                      refine wRet ?_
                      refine pThenR ?_
                      obtain rfl := so h
                      exact pR1 (.inl rfl) rfl (.tmp rfl <| .nil)
        · refine wBF hp99 tm (s1 rfl) ?_
          refine wSkip ?_
          refine pSeq ?_
          refine wSeq ?_
          obtain ⟨o1, h, hk1⟩ := bd h
          refine wJ1 (fun x142 => x142 = o1) (fun x142 => [(1, .d ((kI .i64).sig a1)), (2, .d ((kI .i64).sig a2)), (3, .p 3 0), (7, .d (kB.sig y2.1)), (9, .d ((kI .i64).sig y3.1)), (11, .d ((kI .i64).sig y4.1)), (13, .d ((kI .i64).sig y5.1)), (15, .d ((kI .i64).sig y6)), (16, .d ((kI .i64).sig y7)), (87, .d (kB.sig x142))]) (fun x142 => [.box 3 42 [.d (kL kS) y1.Names, .d (kL (kI .u32)) y1.Up]]) ?_ ?_
          · rcases ic h with ⟨hp143, h⟩ | ⟨hp143, h⟩
            · rcases ic h with ⟨hp144, h⟩ | ⟨hp144, h⟩
              · rcases ic h with ⟨hp145, h⟩ | ⟨hp145, h⟩
                · rcases ic h with ⟨hp146, h⟩ | ⟨hp146, h⟩
                  · obtain ⟨y147, hy147, h⟩ := bd h
                    refine rg (cp (oMv tm) (s1 rfl) <| cp (oMv tm) (s1 rfl) <| cp (oNe rfl tm tm) (s2 rfl rfl) <| cp (oMv tm) (s1 rfl) <| cgB (nf hp143) rfl rfl (oMv tm) (s1 rfl) <| cgB (nf hp143) rfl rfl (oMv tm) (s1 rfl) <| cgB (nf hp143) rfl rfl (oNe rfl tm tm) (s2 rfl rfl) <| cp (oPkF (nf hp143) tm tm) (s2 rfl rfl) <| cp (oMv tm) (s1 rfl) <| cgB (nf hp144) rfl rfl (oMv tm) (s1 rfl) <| cgB (nf hp144) rfl rfl (oMv tm) (s1 rfl) <| cgB (nf hp144) rfl rfl (oNe rfl tm tm) (s2 rfl rfl) <| cp (oPkF (nf hp144) tm tm) (s2 rfl rfl) <| cp (oMv tm) (s1 rfl) <| cgB (nf hp145) rfl rfl (oMv tm) (s1 rfl) <| cgB (nf hp145) rfl rfl (oMv tm) (s1 rfl) <| cgB (nf hp145) rfl rfl (oNe rfl tm tm) (s2 rfl rfl) <| cp (oPkF (nf hp145) tm tm) (s2 rfl rfl) <| cp (oMv tm) (s1 rfl) <| cgB (nf hp146) rfl rfl (oCall rfl (reticentlaw01_alive.ok hy147) b32 opds_nil) trivial <| cgB (nf hp146) rfl rfl (oNot tm) (s1 rfl) <| cp (oPkF (nf hp146) tm tm) (s2 rfl rfl) <| .nil) (by kernel_rfl) ?_
                    exact pJ1 _ (so h) ⟨rfl, rfl, rfl, rfl, rfl, rfl, rfl, rfl, rfl, rfl, trivial⟩ rfl
                  · refine rg (cp (oMv tm) (s1 rfl) <| cp (oMv tm) (s1 rfl) <| cp (oNe rfl tm tm) (s2 rfl rfl) <| cp (oMv tm) (s1 rfl) <| cgB (nf hp143) rfl rfl (oMv tm) (s1 rfl) <| cgB (nf hp143) rfl rfl (oMv tm) (s1 rfl) <| cgB (nf hp143) rfl rfl (oNe rfl tm tm) (s2 rfl rfl) <| cp (oPkF (nf hp143) tm tm) (s2 rfl rfl) <| cp (oMv tm) (s1 rfl) <| cgB (nf hp144) rfl rfl (oMv tm) (s1 rfl) <| cgB (nf hp144) rfl rfl (oMv tm) (s1 rfl) <| cgB (nf hp144) rfl rfl (oNe rfl tm tm) (s2 rfl rfl) <| cp (oPkF (nf hp144) tm tm) (s2 rfl rfl) <| cp (oMv tm) (s1 rfl) <| cgB (nf hp145) rfl rfl (oMv tm) (s1 rfl) <| cgB (nf hp145) rfl rfl (oMv tm) (s1 rfl) <| cgB (nf hp145) rfl rfl (oNe rfl tm tm) (s2 rfl rfl) <| cp (oPkF (nf hp145) tm tm) (s2 rfl rfl) <| cp (oMv tm) (s1 rfl) <| csB (nt hp146) rfl rfl <| csB (nt hp146) rfl rfl <| cp (oPkT (nt hp146) tm cB) (s1 rfl) <| .nil) (by kernel_rfl) ?_
                    exact pJ1 _ (so h) ⟨rfl, rfl, rfl, rfl, rfl, rfl, rfl, rfl, rfl, rfl, trivial⟩ rfl
                · refine rg (cp (oMv tm) (s1 rfl) <| cp (oMv tm) (s1 rfl) <| cp (oNe rfl tm tm) (s2 rfl rfl) <| cp (oMv tm) (s1 rfl) <| cgB (nf hp143) rfl rfl (oMv tm) (s1 rfl) <| cgB (nf hp143) rfl rfl (oMv tm) (s1 rfl) <| cgB (nf hp143) rfl rfl (oNe rfl tm tm) (s2 rfl rfl) <| cp (oPkF (nf hp143) tm tm) (s2 rfl rfl) <| cp (oMv tm) (s1 rfl) <| cgB (nf hp144) rfl rfl (oMv tm) (s1 rfl) <| cgB (nf hp144) rfl rfl (oMv tm) (s1 rfl) <| cgB (nf hp144) rfl rfl (oNe rfl tm tm) (s2 rfl rfl) <| cp (oPkF (nf hp144) tm tm) (s2 rfl rfl) <| cp (oMv tm) (s1 rfl) <| csB (nt hp145) rfl rfl <| csB (nt hp145) rfl rfl <| csB (nt hp145) rfl rfl <| cp (oPkT (nt hp145) tm cB) (s1 rfl) <| cp (oMv tm) (s1 rfl) <| csB rfl rfl rfl <| csB rfl rfl rfl <| cp (oPkT rfl tm cB) (s1 rfl) <| .nil) (by kernel_rfl) ?_
                  exact pJ1 _ (so h) ⟨rfl, rfl, rfl, rfl, rfl, rfl, rfl, rfl, rfl, rfl, trivial⟩ rfl
              · refine rg (cp (oMv tm) (s1 rfl) <| cp (oMv tm) (s1 rfl) <| cp (oNe rfl tm tm) (s2 rfl rfl) <| cp (oMv tm) (s1 rfl) <| cgB (nf hp143) rfl rfl (oMv tm) (s1 rfl) <| cgB (nf hp143) rfl rfl (oMv tm) (s1 rfl) <| cgB (nf hp143) rfl rfl (oNe rfl tm tm) (s2 rfl rfl) <| cp (oPkF (nf hp143) tm tm) (s2 rfl rfl) <| cp (oMv tm) (s1 rfl) <| csB (nt hp144) rfl rfl <| csB (nt hp144) rfl rfl <| csB (nt hp144) rfl rfl <| cp (oPkT (nt hp144) tm cB) (s1 rfl) <| cp (oMv tm) (s1 rfl) <| csB rfl rfl rfl <| csB rfl rfl rfl <| csB rfl rfl rfl <| cp (oPkT rfl tm cB) (s1 rfl) <| cp (oMv tm) (s1 rfl) <| csB rfl rfl rfl <| csB rfl rfl rfl <| cp (oPkT rfl tm cB) (s1 rfl) <| .nil) (by kernel_rfl) ?_
                exact pJ1 _ (so h) ⟨rfl, rfl, rfl, rfl, rfl, rfl, rfl, rfl, rfl, rfl, trivial⟩ rfl
            · refine rg (cp (oMv tm) (s1 rfl) <| cp (oMv tm) (s1 rfl) <| cp (oNe rfl tm tm) (s2 rfl rfl) <| cp (oMv tm) (s1 rfl) <| csB (nt hp143) rfl rfl <| csB (nt hp143) rfl rfl <| csB (nt hp143) rfl rfl <| cp (oPkT (nt hp143) tm cB) (s1 rfl) <| cp (oMv tm) (s1 rfl) <| csB rfl rfl rfl <| csB rfl rfl rfl <| csB rfl rfl rfl <| cp (oPkT rfl tm cB) (s1 rfl) <| cp (oMv tm) (s1 rfl) <| csB rfl rfl rfl <| csB rfl rfl rfl <| csB rfl rfl rfl <| cp (oPkT rfl tm cB) (s1 rfl) <| cp (oMv tm) (s1 rfl) <| csB rfl rfl rfl <| csB rfl rfl rfl <| cp (oPkT rfl tm cB) (s1 rfl) <| .nil) (by kernel_rfl) ?_
              exact pJ1 _ (so h) ⟨rfl, rfl, rfl, rfl, rfl, rfl, rfl, rfl, rfl, rfl, trivial⟩ rfl
          · rintro x142 rfl
            replace h := hk1
            rcases ic h with ⟨hp148, h⟩ | ⟨hp148, h⟩
            · refine wBT hp148 tm (s1 rfl) ?_
              refine wSeq ?_
              refine rg (cp (oAs cB) trivial <| .nil) (by kernel_rfl) ?_
              refine pSeq ?_
              refine wRet ?_
              refine pThenR ?_
              obtain rfl := so h
              exact pR1 (.inl rfl) rfl (.tmp rfl <| .nil)
            · refine wBF hp148 tm (s1 rfl) ?_
              refine wSkip ?_
              refine pSeq ?_
              refine wSeq ?_
              obtain ⟨o1, h, hk1⟩ := bd h
              refine wJ1 (fun x152 => x152 = o1) (fun x152 => [(1, .d ((kI .i64).sig a1)), (2, .d ((kI .i64).sig a2)), (3, .p 3 0), (7, .d (kB.sig y2.1)), (9, .d ((kI .i64).sig y3.1)), (11, .d ((kI .i64).sig y4.1)), (15, .d ((kI .i64).sig y6)), (104, .d (kB.sig x152))]) (fun x152 => [.box 3 42 [.d (kL kS) y1.Names, .d (kL (kI .u32)) y1.Up]]) ?_ ?_
              · rcases ic h with ⟨hp153, h⟩ | ⟨hp153, h⟩
                · obtain ⟨y154, hy154, h⟩ := bd h
                  refine rg (cp (oMv tm) (s1 rfl) <| cp (oNe rfl tm (cI (by decide))) (s1 rfl) <| cp (oMv tm) (s1 rfl) <| csB (nf hp153) rfl rfl <| csB (nf hp153) rfl rfl <| cp (oPkF (nf hp153) tm cB) (s1 rfl) <| cp (oMv tm) (s1 rfl) <| cgB rfl rfl rfl (oMv tm) (s1 rfl) <| cgB rfl rfl rfl (oEq rfl tm (cI (by decide))) (s1 rfl) <| cgB rfl rfl rfl (oMv tm) (s1 rfl) <| cgB (decide_eq_true hp153) rfl rfl (oMv tm) (s1 rfl) <| crgB (decide_eq_true hp153) rfl rfl (oLdA (n := 0) (fs := f_api_Lattice) (u := ⟨y1.Names, y1.Up⟩) rfl ⟨rfl, rfl, trivial⟩ t42 tm) (s1 rfl) <| cgB (decide_eq_true hp153) rfl rfl (oMv tm) (s1 rfl) <| cgB (decide_eq_true hp153) rfl rfl (oCall rfl (reticentref01_Height.ok hy154) b33 (opds_cons tm (opds_cons tm opds_nil))) (s2 rfl rfl) <| cgB (decide_eq_true hp153) rfl rfl (oNe rfl tm tm) (s2 rfl rfl) <| cgB rfl rfl rfl (oPkT (decide_eq_true hp153) tm tm) (s2 rfl rfl) <| cp (oPkF rfl tm tm) (s2 rfl rfl) <| .nil) (by kernel_rfl) ?_
                  exact pJ1 _ (so h) ⟨rfl, rfl, rfl, rfl, rfl, rfl, rfl, rfl, trivial⟩ rfl
                · rcases ic h with ⟨hp155, h⟩ | ⟨hp155, h⟩
                  · refine rg (cp (oMv tm) (s1 rfl) <| cp (oNe rfl tm (cI (by decide))) (s1 rfl) <| cp (oMv tm) (s1 rfl) <| cgB (nt hp153) rfl rfl (oMv tm) (s1 rfl) <| cgB (nt hp153) rfl rfl (oNe rfl tm (cI (by decide))) (s1 rfl) <| cp (oPkT (nt hp153) tm tm) (s2 rfl rfl) <| cp (oMv tm) (s1 rfl) <| cgB (nf hp155) rfl rfl (oMv tm) (s1 rfl) <| cgB (nf hp155) rfl rfl (oEq rfl tm (cI (by decide))) (s1 rfl) <| cgB (nf hp155) rfl rfl (oMv tm) (s1 rfl) <| csB (decide_eq_false hp153) rfl rfl <| csB (decide_eq_false hp153) rfl rfl <| csB (decide_eq_false hp153) rfl rfl <| csB (decide_eq_false hp153) rfl rfl <| csB (decide_eq_false hp153) rfl rfl <| cgB (nf hp155) rfl rfl (oPkF (decide_eq_false hp153) tm cB) (s1 rfl) <| cp (oPkF (nf hp155) tm tm) (s2 rfl rfl) <| .nil) (by kernel_rfl) ?_
                    exact pJ1 _ (so h) ⟨rfl, rfl, rfl, rfl, rfl, rfl, rfl, rfl, trivial⟩ rfl
                  · refine rg (cp (oMv tm) (s1 rfl) <| cp (oNe rfl tm (cI (by decide))) (s1 rfl) <| cp (oMv tm) (s1 rfl) <| cgB (nt hp153) rfl rfl (oMv tm) (s1 rfl) <| cgB (nt hp153) rfl rfl (oNe rfl tm (cI (by decide))) (s1 rfl) <| cp (oPkT (nt hp153) tm tm) (s2 rfl rfl) <| cp (oMv tm) (s1 rfl) <| csB (nt hp155) rfl rfl <| csB (nt hp155) rfl rfl <| csB (nt hp155) rfl rfl <| csU rfl rfl <| csU rfl rfl <| csU rfl rfl <| csU rfl rfl <| csU rfl rfl <| csB (nt hp155) rfl rfl <| cp (oPkT (nt hp155) tm cB) (s1 rfl) <| .nil) (by kernel_rfl) ?_
                    exact pJ1 _ (so h) ⟨rfl, rfl, rfl, rfl, rfl, rfl, rfl, rfl, trivial⟩ rfl
              · rintro x152 rfl
                replace h := hk1
                rcases ic h with ⟨hp156, h⟩ | ⟨hp156, h⟩
                · refine wBT hp156 tm (s1 rfl) ?_
                  refine wSeq ?_
                  refine rg (cp (oAs cB) trivial <| .nil) (by kernel_rfl) ?_
                  refine pSeq ?_
                  refine wRet ?_
                  refine pThenR ?_
                  obtain rfl := so h
                  exact pR1 (.inl rfl) rfl (.tmp rfl <| .nil)
                · refine wBF hp156 tm (s1 rfl) ?_
                  refine wSkip ?_
                  refine pSeq ?_
                  refine wSeq ?_
                  refine wSeq ?_
                  refine rg (cp (oMv tm) (s1 rfl) <| cp (oNe rfl tm (cI (by decide))) (s1 rfl) <| .nil) (by kernel_rfl) ?_
                  refine pSeq ?_
                  rcases ic h with ⟨hp157, h⟩ | ⟨hp157, h⟩
                  · refine wNT hp157 tm (s1 rfl) ?_
                    refine wSkip ?_
                    refine pSeq ?_
                    obtain ⟨o1, h, hk1⟩ := bd h
                    refine wJ1 (fun x163 => x163 = o1) (fun x163 => [(6, .d (kB.sig x163))]) (fun x163 => [.box 3 42 [.d (kL kS) y1.Names, .d (kL (kI .u32)) y1.Up]]) ?_ ?_
                    · obtain ⟨y164, hy164, h⟩ := bd h
                      rcases ic h with ⟨hp165, h⟩ | ⟨hp165, h⟩
                      · obtain ⟨y166, hy166, h⟩ := bd h
                        rcases ic h with ⟨hp167, h⟩ | ⟨hp167, h⟩
                        · obtain ⟨y168, hy168, h⟩ := bd h
                          refine rg (cp (oMv tm) (s1 rfl) <| cr (oLdA (n := 0) (fs := f_api_Lattice) (u := ⟨y1.Names, y1.Up⟩) rfl ⟨rfl, rfl, trivial⟩ t42 tm) (s1 rfl) <| cp (oMv tm) (s1 rfl) <| cp (oMv tm) (s1 rfl) <| cp (oCall rfl (reticentref01_Flows.ok hy164) b34 (opds_cons tm (opds_cons tm (opds_cons tm opds_nil)))) (s3 rfl rfl rfl) <| cp (oBEq u4 rfl tm tm) (s2 rfl rfl) <| cp (oMv tm) (s1 rfl) <| cgB (decide_eq_true hp165) rfl rfl (oMv tm) (s1 rfl) <| crgB (decide_eq_true hp165) rfl rfl (oLdA (n := 0) (fs := f_api_Lattice) (u := ⟨y1.Names, y1.Up⟩) rfl ⟨rfl, rfl, trivial⟩ t42 tm) (s1 rfl) <| cgB (decide_eq_true hp165) rfl rfl (oMv tm) (s1 rfl) <| cgB (decide_eq_true hp165) rfl rfl (oMv tm) (s1 rfl) <| cgB (decide_eq_true hp165) rfl rfl (oCall rfl (reticentref01_Join.ok hy166) b35 (opds_cons tm (opds_cons tm (opds_cons tm opds_nil)))) (s3 rfl rfl rfl) <| cgB (decide_eq_true hp165) rfl rfl (oEq rfl tm tm) (s2 rfl rfl) <| cp (oPkT (decide_eq_true hp165) tm tm) (s2 rfl rfl) <| cp (oMv tm) (s1 rfl) <| cgB (decide_eq_true hp167) rfl rfl (oMv tm) (s1 rfl) <| crgB (decide_eq_true hp167) rfl rfl (oLdA (n := 0) (fs := f_api_Lattice) (u := ⟨y1.Names, y1.Up⟩) rfl ⟨rfl, rfl, trivial⟩ t42 tm) (s1 rfl) <| cgB (decide_eq_true hp167) rfl rfl (oMv tm) (s1 rfl) <| cgB (decide_eq_true hp167) rfl rfl (oMv tm) (s1 rfl) <| cgB (decide_eq_true hp167) rfl rfl (oCall rfl (reticentref01_Meet.ok hy168) b36 (opds_cons tm (opds_cons tm (opds_cons tm opds_nil)))) (s3 rfl rfl rfl) <| cgB (decide_eq_true hp167) rfl rfl (oEq rfl tm tm) (s2 rfl rfl) <| cp (oPkT (decide_eq_true hp167) tm tm) (s2 rfl rfl) <| cp (oAs tm) (s1 rfl) <| .nil) (by kernel_rfl) ?_
                          exact pJ1 _ (so h) ⟨rfl, trivial⟩ rfl
                        · refine rg (cp (oMv tm) (s1 rfl) <| cr (oLdA (n := 0) (fs := f_api_Lattice) (u := ⟨y1.Names, y1.Up⟩) rfl ⟨rfl, rfl, trivial⟩ t42 tm) (s1 rfl) <| cp (oMv tm) (s1 rfl) <| cp (oMv tm) (s1 rfl) <| cp (oCall rfl (reticentref01_Flows.ok hy164) b34 (opds_cons tm (opds_cons tm (opds_cons tm opds_nil)))) (s3 rfl rfl rfl) <| cp (oBEq u4 rfl tm tm) (s2 rfl rfl) <| cp (oMv tm) (s1 rfl) <| cgB (decide_eq_true hp165) rfl rfl (oMv tm) (s1 rfl) <| crgB (decide_eq_true hp165) rfl rfl (oLdA (n := 0) (fs := f_api_Lattice) (u := ⟨y1.Names, y1.Up⟩) rfl ⟨rfl, rfl, trivial⟩ t42 tm) (s1 rfl) <| cgB (decide_eq_true hp165) rfl rfl (oMv tm) (s1 rfl) <| cgB (decide_eq_true hp165) rfl rfl (oMv tm) (s1 rfl) <| cgB (decide_eq_true hp165) rfl rfl (oCall rfl (reticentref01_Join.ok hy166) b35 (opds_cons tm (opds_cons tm (opds_cons tm opds_nil)))) (s3 rfl rfl rfl) <| cgB (decide_eq_true hp165) rfl rfl (oEq rfl tm tm) (s2 rfl rfl) <| cp (oPkT (decide_eq_true hp165) tm tm) (s2 rfl rfl) <| cp (oMv tm) (s1 rfl) <| csB (decide_eq_false hp167) rfl rfl <| csB (decide_eq_false hp167) rfl rfl <| csB (decide_eq_false hp167) rfl rfl <| csB (decide_eq_false hp167) rfl rfl <| csB (decide_eq_false hp167) rfl rfl <| csB (decide_eq_false hp167) rfl rfl <| cp (oPkF (decide_eq_false hp167) tm cB) (s1 rfl) <| cp (oAs tm) (s1 rfl) <| .nil) (by kernel_rfl) ?_
                          exact pJ1 _ (so h) ⟨rfl, trivial⟩ rfl
                      · refine rg (cp (oMv tm) (s1 rfl) <| cr (oLdA (n := 0) (fs := f_api_Lattice) (u := ⟨y1.Names, y1.Up⟩) rfl ⟨rfl, rfl, trivial⟩ t42 tm) (s1 rfl) <| cp (oMv tm) (s1 rfl) <| cp (oMv tm) (s1 rfl) <| cp (oCall rfl (reticentref01_Flows.ok hy164) b34 (opds_cons tm (opds_cons tm (opds_cons tm opds_nil)))) (s3 rfl rfl rfl) <| cp (oBEq u4 rfl tm tm) (s2 rfl rfl) <| cp (oMv tm) (s1 rfl) <| csB (decide_eq_false hp165) rfl rfl <| csB (decide_eq_false hp165) rfl rfl <| csB (decide_eq_false hp165) rfl rfl <| csB (decide_eq_false hp165) rfl rfl <| csB (decide_eq_false hp165) rfl rfl <| csB (decide_eq_false hp165) rfl rfl <| cp (oPkF (decide_eq_false hp165) tm cB) (s1 rfl) <| cp (oMv tm) (s1 rfl) <| csB rfl rfl rfl <| csB rfl rfl rfl <| csB rfl rfl rfl <| csB rfl rfl rfl <| csB rfl rfl rfl <| csB rfl rfl rfl <| cp (oPkF rfl tm cB) (s1 rfl) <| cp (oAs tm) (s1 rfl) <| .nil) (by kernel_rfl) ?_
                        exact pJ1 _ (so h) ⟨rfl, trivial⟩ rfl
                    · rintro x163 rfl
                      replace h := hk1
                      refine wRet ?_
                      obtain rfl := so h
                      exact pR1 (.inl rfl) rfl (.tmp rfl <| .nil)
                  · refine wNF hp157 tm (s1 rfl) ?_
                    obtain ⟨o1, h, hk1⟩ := bd h
                    refine wJ1 (fun x171 => x171 = o1) (fun x171 => [(6, .d (kB.sig x171))]) (fun x171 => [.box 3 42 [.d (kL kS) y1.Names, .d (kL (kI .u32)) y1.Up]]) ?_ ?_
                    · rcases ic h with ⟨hp172, h⟩ | ⟨hp172, h⟩
                      · rcases ic h with ⟨hp173, h⟩ | ⟨hp173, h⟩
                        · refine rg (cp (oMv tm) (s1 rfl) <| cp (oNot tm) (s1 rfl) <| cp (oMv tm) (s1 rfl) <| cgB hp172 rfl rfl (oMv tm) (s1 rfl) <| cgB hp172 rfl rfl (oEq rfl tm (cI (by decide))) (s1 rfl) <| cp (oPkT hp172 tm tm) (s2 rfl rfl) <| cp (oMv tm) (s1 rfl) <| cgB (decide_eq_true hp173) rfl rfl (oMv tm) (s1 rfl) <| cgB (decide_eq_true hp173) rfl rfl (oEq rfl tm (cI (by decide))) (s1 rfl) <| cp (oPkT (decide_eq_true hp173) tm tm) (s2 rfl rfl) <| cp (oAs tm) (s1 rfl) <| .nil) (by kernel_rfl) ?_
                          exact pJ1 _ (so h) ⟨rfl, trivial⟩ rfl
                        · refine rg (cp (oMv tm) (s1 rfl) <| cp (oNot tm) (s1 rfl) <| cp (oMv tm) (s1 rfl) <| cgB hp172 rfl rfl (oMv tm) (s1 rfl) <| cgB hp172 rfl rfl (oEq rfl tm (cI (by decide))) (s1 rfl) <| cp (oPkT hp172 tm tm) (s2 rfl rfl) <| cp (oMv tm) (s1 rfl) <| csB (decide_eq_false hp173) rfl rfl <| csB (decide_eq_false hp173) rfl rfl <| cp (oPkF (decide_eq_false hp173) tm cB) (s1 rfl) <| cp (oAs tm) (s1 rfl) <| .nil) (by kernel_rfl) ?_
                          exact pJ1 _ (so h) ⟨rfl, trivial⟩ rfl
                      · refine rg (cp (oMv tm) (s1 rfl) <| cp (oNot tm) (s1 rfl) <| cp (oMv tm) (s1 rfl) <| csB (nb hp172) rfl rfl <| csB (nb hp172) rfl rfl <| cp (oPkF (nb hp172) tm cB) (s1 rfl) <| cp (oMv tm) (s1 rfl) <| csB rfl rfl rfl <| csB rfl rfl rfl <| cp (oPkF rfl tm cB) (s1 rfl) <| cp (oAs tm) (s1 rfl) <| .nil) (by kernel_rfl) ?_
                        exact pJ1 _ (so h) ⟨rfl, trivial⟩ rfl
                    · rintro x171 rfl
                      replace h := hk1
                      refine wRet ?_
                      refine pThenR ?_
                      obtain rfl := so h
                      exact pR1 (.inl rfl) rfl (.tmp rfl <| .nil)

theorem slices_Index_uint32_uint32.ok {a0 : List Int} {a1 : Int} {r : Int} (h : slices_Index_uint32_uint32.f a0 a1 = some r) : FnA Try.prog 76 [(kL (kI .u32)).sig a0, (kI .u32).sig a1] ((kI .i64).sig r) := by
  refine fnIntro Try.func76 rfl (by kernel_rfl) fun H0 w0 => ?_
  unfold slices_Index_uint32_uint32.f at h
  refine wSeq ?_
  refine rg (cp (oAs (cI (by decide))) trivial <| .nil) (by kernel_rfl) ?_
  refine pSeq ?_
  refine wSeq ?_
  refine wSeq ?_
  refine rg (cp (oMv tm) (s1 rfl) <| cp (oLenL u40 tm) (s1 rfl) <| cp (oMv (cI (by decide))) trivial <| .nil) (by kernel_rfl) ?_
  refine pSeq ?_
  obtain ⟨o1, h, hk1⟩ := bd h
  refine wK0 (.inr () = o1) ([]) ([]) ?_ ?_
  · refine wBlock (wLoop ?_)
    refine lW (pc1 o1 (fun v7 => [(0, .d ((kL (kI .u32)).sig a0)), (1, .d ((kI .u32).sig a1)), (7, .d ((kI .i64).sig (a0.length : Int))), (8, .d ((kI .i64).sig v7))]) (fun v7 => []) (slices_Index_uint32_uint32.l0.partial_correctness a0 a1) ?_ _ h) ⟨rfl, rfl, rfl, rfl, trivial⟩ rfl
    clear h
    intro f' ih v7 h
    refine wSeq ?_
    refine rg (cp (oLt rfl tm tm) (s2 rfl rfl) <| .nil) (by kernel_rfl) ?_
    refine pSeq ?_
    refine wSeq ?_
    rcases ic h with ⟨hp8, h⟩ | ⟨hp8, h⟩
    · refine wCT hp8 tm (s1 rfl) ?_
      refine wSkip ?_
      refine pSeq ?_
      refine wSeq ?_
      refine wBlock ?_
      refine wSeq ?_
      refine rg (cp (oMv tm) (s1 rfl) <| cp (oAs tm) (s1 rfl) <| .nil) (by kernel_rfl) ?_
      refine pSeq ?_
      refine wSeq ?_
      obtain ⟨y9, hy9, h⟩ := bd h
      refine rg (cp (oMv tm) (s1 rfl) <| cp (oMv tm) (s1 rfl) <| cp (oMv tm) (s1 rfl) <| cp (oIdx u40 z64 hy9 tm tm) (s2 rfl rfl) <| cp (oLd t64 tm) (s1 rfl) <| cp (oEq rfl tm tm) (s2 rfl rfl) <| .nil) (by kernel_rfl) ?_
      refine pSeq ?_
      rcases ic h with ⟨hp10, h⟩ | ⟨hp10, h⟩
      · refine wCT hp10 tm (s1 rfl) ?_
        refine wSeq ?_
        refine rg (cp (oMv tm) (s1 rfl) <| cp (oAs tm) (s1 rfl) <| .nil) (by kernel_rfl) ?_
        refine pSeq ?_
        refine wRet ?_
        refine pBlkR ?_
        refine pThenR ?_
        refine pThenR ?_
        refine pBlkR ?_
        refine pThenR ?_
        obtain rfl := so h
        replace h := hk1
        refine pThenR ?_
        obtain rfl := so h
        exact pR1 (.inl rfl) rfl (.tmp rfl <| .nil)
      · refine wCF hp10 tm (s1 rfl) ?_
        refine wSkip ?_
        refine pBlkN ?_
        refine pSeq ?_
        refine rg (cp (oAdd tm (cI (by decide))) (s1 rfl) <| cp (oMv tm) (s1 rfl) <| .nil) (by kernel_rfl) ?_
        exact pLoop (lW (ih _ h) ⟨rfl, rfl, rfl, rfl, trivial⟩ rfl)
    · refine wCF hp8 tm (s1 rfl) ?_
      refine wExit ?_
      refine pThenX ?_
      refine pThenX ?_
      refine pBlkX ?_
      exact pJ0 (so h) trivial rfl
  · rintro rfl
    replace h := hk1
    refine pSeq ?_
    refine wSeq ?_
    refine rg (cp (oAs (cI (by decide))) trivial <| .nil) (by kernel_rfl) ?_
    refine pSeq ?_
    refine wRet ?_
    obtain rfl := so h
    exact pR1 (.inl rfl) rfl (.tmp rfl <| .nil)

theorem lattice_Bottom.ok {a0 : api_Lattice} {r : Int × Int} (h : lattice_Bottom.f a0 = some r) : FnA Try.prog 37 [(kR f_api_Lattice).sig a0] (tup [(kI .i64).sig r.1, (kI .i64).sig r.2]) := by
  refine fnIntro Try.func37 rfl (by kernel_rfl) fun H0 w0 => ?_
  unfold lattice_Bottom.f at h
  refine wSeq ?_
  refine rg (cp (oBox tm) (s1 rfl) <| cp (oAs (cI (by decide))) trivial <| cp (oAs (cI (by decide))) trivial <| .nil) (by kernel_rfl) ?_
  refine pSeq ?_
  refine wSeq ?_
  refine wSeq ?_
  obtain ⟨y1, hy1, h⟩ := bd h
  refine rg (cp (oLd t42 tm) (s1 rfl) <| cp (oCall rfl (lattice_there.ok hy1) b69 (opds_cons tm (opds_cons (cN (d := (kI .i64))) opds_nil))) (s1 rfl) <| cp (oAs tm) (s1 rfl) <| .nil) (by kernel_rfl) ?_
  refine pSeq ?_
  refine wSeq ?_
  refine rg (cp (oMv tm) (s1 rfl) <| cp (oNe rfl tm (cI (by decide))) (s1 rfl) <| .nil) (by kernel_rfl) ?_
  refine pSeq ?_
  rcases ic h with ⟨hp2, h⟩ | ⟨hp2, h⟩
  · refine wNT hp2 tm (s1 rfl) ?_
    refine wSkip ?_
    refine pSeq ?_
    refine wSeq ?_
    obtain ⟨hc3, h⟩ := ib h
    refine rg (cp (oFld (fs := f_api_Lattice) (k := 1) rfl o42_1 tm) (s1 rfl) <| cp (oLd t40 tm) (s1 rfl) <| cp (oLenL u40 tm) (s1 rfl) <| cp (oShl hc3 (cI (by decide)) tm) (s1 rfl) <| cp (oSub tm (cI (by decide))) (s1 rfl) <| cp (oAs tm) (s1 rfl) <| .nil) (by kernel_rfl) ?_
    refine pSeq ?_
    refine wSeq ?_
    obtain ⟨y4, hy4, h⟩ := bd h
    refine rg (cp (oFld (fs := f_api_Lattice) (k := 1) rfl o42_1 tm) (s1 rfl) <| cp (oLd t40 tm) (s1 rfl) <| cp (oMv tm) (s1 rfl) <| cp (oCall rfl (slices_Index_uint32_uint32.ok hy4) b76 (opds_cons tm (opds_cons tm opds_nil))) (s2 rfl rfl) <| cp (oAs tm) (s1 rfl) <| cp (oAs (cI (by decide))) trivial <| .nil) (by kernel_rfl) ?_
    refine pSeq ?_
    refine wRet ?_
    obtain rfl := so h
    exact pRn (.inl rfl) rfl rfl (.tmp rfl <| .tmp rfl <| .nil)
  · refine wNF hp2 tm (s1 rfl) ?_
    refine wSeq ?_
    refine rg (cp (oMv tm) (s1 rfl) <| cp (oAs (cI (by decide))) trivial <| cp (oAs tm) (s1 rfl) <| .nil) (by kernel_rfl) ?_
    refine pSeq ?_
    refine wRet ?_
    refine pThenR ?_
    obtain rfl := so h
    exact pRn (.inl rfl) rfl rfl (.tmp rfl <| .tmp rfl <| .nil)

theorem bits_OnesCount32.ok {a0 : Int} {r : Int} (h : bits_OnesCount32.f a0 = some r) : FnA Try.prog 79 [(kI .u32).sig a0] ((kI .i64).sig r) := by
  refine fnIntro Try.func79 rfl (by kernel_rfl) fun H0 w0 => ?_
  unfold bits_OnesCount32.f at h
  refine wSeq ?_
  refine rg (cp (oAs (cI (by decide))) trivial <| .nil) (by kernel_rfl) ?_
  refine pSeq ?_
  refine wSeq ?_
  obtain ⟨hc1, h⟩ := ib h
  obtain ⟨hc2, h⟩ := ib h
  obtain ⟨hc3, h⟩ := ib h
  obtain ⟨hc4, h⟩ := ib h
  refine rgD hm (cp (oMv tm) (s1 rfl) <| cp (oShr (by decide) tm (cI (by decide))) (s1 rfl) <| cp (oIdxS u9 hc1.1 hc1.2 (cS (s := ks0) (by decide)) tm) (s1 rfl) <| cp (oMv tm) (s1 rfl) <| cp (oShr (by decide) tm (cI (by decide))) (s1 rfl) <| cp (oAnd tm (cI (by decide))) (s1 rfl) <| cp (oIdxS u9 hc2.1 hc2.2 (cS (s := ks0) (by decide)) tm) (s1 rfl) <| cp (oAdd tm tm) (s2 rfl rfl) <| cp (oMv tm) (s1 rfl) <| cp (oShr (by decide) tm (cI (by decide))) (s1 rfl) <| cp (oAnd tm (cI (by decide))) (s1 rfl) <| cp (oIdxS u9 hc3.1 hc3.2 (cS (s := ks0) (by decide)) tm) (s1 rfl) <| cp (oAdd tm tm) (s2 rfl rfl) <| cp (oMv tm) (s1 rfl) <| cp (oAnd tm (cI (by decide))) (s1 rfl) <| cp (oIdxS u9 hc4.1 hc4.2 (cS (s := ks0) (by decide)) tm) (s1 rfl) <| cp (oAdd tm tm) (s2 rfl rfl) <| cp (oConv u5 u3 tm) (s1 rfl) <| cp (oAs tm) (s1 rfl) <| .nil) (by kernel_rfl) (by kernel_rfl) ?_
  refine pSeq ?_
  refine wRet ?_
  obtain rfl := so h
  exact pR1 (.inl rfl) rfl (.tmp rfl <| .nil)

theorem lattice_Top_1.ok {a0 : Int} {r : Bool} (h : lattice_Top_1.f a0 = some r) : FnA Try.prog 78 [(kI .u32).sig a0] (kB.sig r) := by
  refine fnIntro Try.func78 rfl (by kernel_rfl) fun H0 w0 => ?_
  unfold lattice_Top_1.f at h
  refine wSeq ?_
  refine rg (cp (oAs cB) trivial <| .nil) (by kernel_rfl) ?_
  refine pSeq ?_
  refine wSeq ?_
  obtain ⟨y1, hy1, h⟩ := bd h
  refine rg (cp (oMv tm) (s1 rfl) <| cp (oCall rfl (bits_OnesCount32.ok hy1) b79 (opds_cons tm opds_nil)) (s1 rfl) <| cp (oEq rfl tm (cI (by decide))) (s1 rfl) <| cp (oAs tm) (s1 rfl) <| .nil) (by kernel_rfl) ?_
  refine pSeq ?_
  refine wRet ?_
  obtain rfl := so h
  exact pR1 (.inl rfl) rfl (.tmp rfl <| .nil)

theorem lattice_Top.ok {a0 : api_Lattice} {r : Int × Int} (h : lattice_Top.f a0 = some r) : FnA Try.prog 38 [(kR f_api_Lattice).sig a0] (tup [(kI .i64).sig r.1, (kI .i64).sig r.2]) := by
  refine fnIntro Try.func38 rfl (by kernel_rfl) fun H0 w0 => ?_
  unfold lattice_Top.f at h
  refine wSeq ?_
  refine rg (cp (oBox tm) (s1 rfl) <| cp (oAs (cI (by decide))) trivial <| cp (oAs (cI (by decide))) trivial <| .nil) (by kernel_rfl) ?_
  refine pSeq ?_
  refine wSeq ?_
  refine wSeq ?_
  obtain ⟨y1, hy1, h⟩ := bd h
  refine rg (cp (oLd t42 tm) (s1 rfl) <| cp (oCall rfl (lattice_there.ok hy1) b69 (opds_cons tm (opds_cons (cN (d := (kI .i64))) opds_nil))) (s1 rfl) <| cp (oAs tm) (s1 rfl) <| .nil) (by kernel_rfl) ?_
  refine pSeq ?_
  refine wSeq ?_
  refine rg (cp (oMv tm) (s1 rfl) <| cp (oNe rfl tm (cI (by decide))) (s1 rfl) <| .nil) (by kernel_rfl) ?_
  refine pSeq ?_
  rcases ic h with ⟨hp2, h⟩ | ⟨hp2, h⟩
  · refine wNT hp2 tm (s1 rfl) ?_
    refine wSkip ?_
    refine pSeq ?_
    refine wSeq ?_
    obtain ⟨y3, hy3, h⟩ := bd h
    refine rg (cp (oFld (fs := f_api_Lattice) (k := 1) rfl o42_1 tm) (s1 rfl) <| cp (oLd t40 tm) (s1 rfl) <| cp (oCall rfl (slices_IndexFunc_uint32_uint32.ok hy3) b77 (opds_cons tm (opds_cons (oFn b78 (rl1n lattice_Top_1.ok)) opds_nil))) (s1 rfl) <| cp (oAs tm) (s1 rfl) <| cp (oAs (cI (by decide))) trivial <| .nil) (by kernel_rfl) ?_
    refine pSeq ?_
    refine wRet ?_
    obtain rfl := so h
    exact pRn (.inl rfl) rfl rfl (.tmp rfl <| .tmp rfl <| .nil)
  · refine wNF hp2 tm (s1 rfl) ?_
    refine wSeq ?_
    refine rg (cp (oMv tm) (s1 rfl) <| cp (oAs (cI (by decide))) trivial <| cp (oAs tm) (s1 rfl) <| .nil) (by kernel_rfl) ?_
    refine pSeq ?_
    refine wRet ?_
    refine pThenR ?_
    obtain rfl := so h
    exact pRn (.inl rfl) rfl rfl (.tmp rfl <| .tmp rfl <| .nil)

theorem reticentref01_Bottom.ok {a0 : api_Lattice} {r : Int} (h : reticentref01_Bottom.f a0 = some r) : FnA Try.prog 40 [(kR f_api_Lattice).sig a0] ((kI .i64).sig r) := by
  refine fnIntro Try.func40 rfl (by kernel_rfl) fun H0 w0 => ?_
  unfold reticentref01_Bottom.f at h
  refine wSeq ?_
  refine rg (cp (oBox tm) (s1 rfl) <| cp (oAs (cI (by decide))) trivial <| .nil) (by kernel_rfl) ?_
  refine pSeq ?_
  refine wSeq ?_
  refine rg (cp (oAs (cI (by decide))) trivial <| .nil) (by kernel_rfl) ?_
  refine pSeq ?_
  refine wSeq ?_
  refine wSeq ?_
  refine rg (cp (oFld (fs := f_api_Lattice) (k := 1) rfl o42_1 tm) (s1 rfl) <| cp (oLd t40 tm) (s1 rfl) <| cp (oLenL u40 tm) (s1 rfl) <| cp (oMv (cI (by decide))) trivial <| .nil) (by kernel_rfl) ?_
  refine pSeq ?_
  obtain ⟨o1, h, hk1⟩ := bd h
  refine wK1 (fun x7 => x7 = o1) (fun x7 => [(3, .d ((kI .i64).sig x7))]) (fun x7 => []) ?_ ?_
  · refine wBlock (wLoop ?_)
    refine lW (pc2 o1 (fun v5 v6 => [(1, .d (sP (kR f_api_Lattice) a0)), (3, .d ((kI .i64).sig v5)), (7, .d ((kI .i64).sig (a0.Up.length : Int))), (8, .d ((kI .i64).sig v6))]) (fun v5 v6 => []) (reticentref01_Bottom.l0.partial_correctness a0) ?_ _ _ h) ⟨rfl, rfl, rfl, rfl, trivial⟩ rfl
    clear h
    intro f' ih v5 v6 h
    refine wSeq ?_
    refine rg (cp (oLt rfl tm tm) (s2 rfl rfl) <| .nil) (by kernel_rfl) ?_
    refine pSeq ?_
    refine wSeq ?_
    rcases ic h with ⟨hp8, h⟩ | ⟨hp8, h⟩
    · refine wCT hp8 tm (s1 rfl) ?_
      refine wSkip ?_
      refine pSeq ?_
      refine wSeq ?_
      refine wBlock ?_
      refine wSeq ?_
      refine rg (cp (oMv tm) (s1 rfl) <| cp (oAs tm) (s1 rfl) <| .nil) (by kernel_rfl) ?_
      refine pSeq ?_
      obtain ⟨y9, hy9, h⟩ := bd h
      refine rg (cp (oLd t42 tm) (s1 rfl) <| cp (oMv tm) (s1 rfl) <| cp (oMv tm) (s1 rfl) <| cp (oCall rfl (reticentref01_Meet.ok hy9) b36 (opds_cons tm (opds_cons tm (opds_cons tm opds_nil)))) (s3 rfl rfl rfl) <| cp (oAs tm) (s1 rfl) <| .nil) (by kernel_rfl) ?_
      refine pBlkN ?_
      refine pSeq ?_
      refine rg (cp (oAdd tm (cI (by decide))) (s1 rfl) <| cp (oMv tm) (s1 rfl) <| .nil) (by kernel_rfl) ?_
      exact pLoop (lW (ih _ _ h) ⟨rfl, rfl, rfl, rfl, trivial⟩ rfl)
    · refine wCF hp8 tm (s1 rfl) ?_
      refine wExit ?_
      refine pThenX ?_
      refine pThenX ?_
      refine pBlkX ?_
      exact pJ1 _ (so h) ⟨rfl, trivial⟩ rfl
  · rintro x7 rfl
    replace h := hk1
    refine pSeq ?_
    refine wSeq ?_
    refine rg (cp (oMv tm) (s1 rfl) <| cp (oAs tm) (s1 rfl) <| .nil) (by kernel_rfl) ?_
    refine pSeq ?_
    refine wRet ?_
    obtain rfl := so h
    exact pR1 (.inl rfl) rfl (.tmp rfl <| .nil)

theorem reticentref01_Top.ok {a0 : api_Lattice} {r : Int} (h : reticentref01_Top.f a0 = some r) : FnA Try.prog 41 [(kR f_api_Lattice).sig a0] ((kI .i64).sig r) := by
  refine fnIntro Try.func41 rfl (by kernel_rfl) fun H0 w0 => ?_
  unfold reticentref01_Top.f at h
  refine wSeq ?_
  refine rg (cp (oBox tm) (s1 rfl) <| cp (oAs (cI (by decide))) trivial <| .nil) (by kernel_rfl) ?_
  refine pSeq ?_
  refine wSeq ?_
  refine rg (cp (oAs (cI (by decide))) trivial <| .nil) (by kernel_rfl) ?_
  refine pSeq ?_
  refine wSeq ?_
  refine wSeq ?_
  refine rg (cp (oFld (fs := f_api_Lattice) (k := 1) rfl o42_1 tm) (s1 rfl) <| cp (oLd t40 tm) (s1 rfl) <| cp (oLenL u40 tm) (s1 rfl) <| cp (oMv (cI (by decide))) trivial <| .nil) (by kernel_rfl) ?_
  refine pSeq ?_
  obtain ⟨o1, h, hk1⟩ := bd h
  refine wK1 (fun x7 => x7 = o1) (fun x7 => [(3, .d ((kI .i64).sig x7))]) (fun x7 => []) ?_ ?_
  · refine wBlock (wLoop ?_)
    refine lW (pc2 o1 (fun v5 v6 => [(1, .d (sP (kR f_api_Lattice) a0)), (3, .d ((kI .i64).sig v5)), (7, .d ((kI .i64).sig (a0.Up.length : Int))), (8, .d ((kI .i64).sig v6))]) (fun v5 v6 => []) (reticentref01_Top.l0.partial_correctness a0) ?_ _ _ h) ⟨rfl, rfl, rfl, rfl, trivial⟩ rfl
    clear h
    intro f' ih v5 v6 h
    refine wSeq ?_
    refine rg (cp (oLt rfl tm tm) (s2 rfl rfl) <| .nil) (by kernel_rfl) ?_
    refine pSeq ?_
    refine wSeq ?_
    rcases ic h with ⟨hp8, h⟩ | ⟨hp8, h⟩
    · refine wCT hp8 tm (s1 rfl) ?_
      refine wSkip ?_
      refine pSeq ?_
      refine wSeq ?_
      refine wBlock ?_
      refine wSeq ?_
      refine rg (cp (oMv tm) (s1 rfl) <| cp (oAs tm) (s1 rfl) <| .nil) (by kernel_rfl) ?_
      refine pSeq ?_
      obtain ⟨y9, hy9, h⟩ := bd h
      refine rg (cp (oLd t42 tm) (s1 rfl) <| cp (oMv tm) (s1 rfl) <| cp (oMv tm) (s1 rfl) <| cp (oCall rfl (reticentref01_Join.ok hy9) b35 (opds_cons tm (opds_cons tm (opds_cons tm opds_nil)))) (s3 rfl rfl rfl) <| cp (oAs tm) (s1 rfl) <| .nil) (by kernel_rfl) ?_
      refine pBlkN ?_
      refine pSeq ?_
      refine rg (cp (oAdd tm (cI (by decide))) (s1 rfl) <| cp (oMv tm) (s1 rfl) <| .nil) (by kernel_rfl) ?_
      exact pLoop (lW (ih _ _ h) ⟨rfl, rfl, rfl, rfl, trivial⟩ rfl)
    · refine wCF hp8 tm (s1 rfl) ?_
      refine wExit ?_
      refine pThenX ?_
      refine pThenX ?_
      refine pBlkX ?_
      exact pJ1 _ (so h) ⟨rfl, trivial⟩ rfl
  · rintro x7 rfl
    replace h := hk1
    refine pSeq ?_
    refine wSeq ?_
    refine rg (cp (oMv tm) (s1 rfl) <| cp (oAs tm) (s1 rfl) <| .nil) (by kernel_rfl) ?_
    refine pSeq ?_
    refine wRet ?_
    obtain rfl := so h
    exact pR1 (.inl rfl) rfl (.tmp rfl <| .nil)

theorem reticentlaw01_LatticeChecks.ok {a0 : api_Lattice} {r : Bool} (h : reticentlaw01_LatticeChecks.f a0 = some r) : FnA Try.prog 7 [(kR f_api_Lattice).sig a0] (kB.sig r) := by
  refine fnIntro Try.func7 rfl (by kernel_rfl) fun H0 w0 => ?_
  unfold reticentlaw01_LatticeChecks.f at h
  refine wSeq ?_
  refine rg (cw (oBoxS (id := 1) (fs := f_api_Lattice) tm) (s1 rfl) <| cp (oAs cB) trivial <| .nil) (by kernel_rfl) ?_
  refine pSeq ?_
  refine wSeq ?_
  obtain ⟨y1, hy1, h⟩ := bd h
  refine rg (cr (oLdA (n := 0) (fs := f_api_Lattice) (u := ⟨a0.Names, a0.Up⟩) rfl ⟨rfl, rfl, trivial⟩ t42 tm) (s1 rfl) <| cp (oCall rfl (reticentlaw01_few.ok hy1) b25 (opds_cons tm opds_nil)) (s1 rfl) <| cwn (oStA (n := 0) (fs := f_api_Lattice) rfl rfl z42 tm tm) (s2 rfl rfl) <| .nil) (by kernel_rfl) ?_
  refine pSeq ?_
  refine wSeq ?_
  obtain ⟨y2, hy2, h⟩ := bd h
  refine rg (cr (oLdA (n := 0) (fs := f_api_Lattice) (u := ⟨y1.Names, y1.Up⟩) rfl ⟨rfl, rfl, trivial⟩ t42 tm) (s1 rfl) <| cp (oCall rfl (reticentref01_Check.ok hy2) b30 (opds_cons tm opds_nil)) (s1 rfl) <| cp (oAs tm) (s1 rfl) <| .nil) (by kernel_rfl) ?_
  refine pSeq ?_
  refine wSeq ?_
  obtain ⟨y3, hy3, h⟩ := bd h
  refine rg (cr (oLdA (n := 0) (fs := f_api_Lattice) (u := ⟨y1.Names, y1.Up⟩) rfl ⟨rfl, rfl, trivial⟩ t42 tm) (s1 rfl) <| cp (oCall rfl (lattice_Bottom.ok hy3) b37 (opds_cons tm opds_nil)) (s1 rfl) <| cp (oMv tm) (s1 rfl) <| cp (oExt (k := 0) rfl tm) (s1 rfl) <| cp (oExt (k := 1) rfl tm) (s1 rfl) <| cp (oAs tm) (s1 rfl) <| cp (oAs tm) (s1 rfl) <| .nil) (by kernel_rfl) ?_
  refine pSeq ?_
  refine wSeq ?_
  obtain ⟨y4, hy4, h⟩ := bd h
  refine rg (cr (oLdA (n := 0) (fs := f_api_Lattice) (u := ⟨y1.Names, y1.Up⟩) rfl ⟨rfl, rfl, trivial⟩ t42 tm) (s1 rfl) <| cp (oCall rfl (lattice_Top.ok hy4) b38 (opds_cons tm opds_nil)) (s1 rfl) <| cp (oMv tm) (s1 rfl) <| cp (oExt (k := 0) rfl tm) (s1 rfl) <| cp (oExt (k := 1) rfl tm) (s1 rfl) <| cp (oAs tm) (s1 rfl) <| cp (oAs tm) (s1 rfl) <| .nil) (by kernel_rfl) ?_
  refine pSeq ?_
  refine wSeq ?_
  obtain ⟨o1, h, hk1⟩ := bd h
  refine wJ1 (fun x10 => x10 = o1) (fun x10 => [(1, .p 1 0), (3, .d ((kI .i64).sig y2)), (4, .d ((kI .i64).sig y3.1)), (6, .d ((kI .i64).sig y4.1)), (39, .d (kB.sig x10))]) (fun x10 => [.box 1 42 [.d (kL kS) y1.Names, .d (kL (kI .u32)) y1.Up]]) ?_ ?_
  · obtain ⟨y11, hy11, h⟩ := bd h
    rcases ic h with ⟨hp12, h⟩ | ⟨hp12, h⟩
    · rcases ic h with ⟨hp13, h⟩ | ⟨hp13, h⟩
      · rcases ic h with ⟨hp14, h⟩ | ⟨hp14, h⟩
        · obtain ⟨y15, hy15, h⟩ := bd h
          refine rg (cr (oLdA (n := 0) (fs := f_api_Lattice) (u := ⟨y1.Names, y1.Up⟩) rfl ⟨rfl, rfl, trivial⟩ t42 tm) (s1 rfl) <| cp (oCall rfl (lattice_Check.ok hy11) b39 (opds_cons tm opds_nil)) (s1 rfl) <| cp (oMv tm) (s1 rfl) <| cp (oNe rfl tm tm) (s2 rfl rfl) <| cp (oMv tm) (s1 rfl) <| cgB (nf hp12) rfl rfl (oMv tm) (s1 rfl) <| cgB (nf hp12) rfl rfl (oMv tm) (s1 rfl) <| cgB (nf hp12) rfl rfl (oNe rfl tm tm) (s2 rfl rfl) <| cp (oPkF (nf hp12) tm tm) (s2 rfl rfl) <| cp (oMv tm) (s1 rfl) <| cgB (nf hp13) rfl rfl (oMv tm) (s1 rfl) <| cgB (nf hp13) rfl rfl (oMv tm) (s1 rfl) <| cgB (nf hp13) rfl rfl (oNe rfl tm tm) (s2 rfl rfl) <| cp (oPkF (nf hp13) tm tm) (s2 rfl rfl) <| cp (oMv tm) (s1 rfl) <| cgB (nf hp14) rfl rfl (oCall rfl (reticentlaw01_alive.ok hy15) b32 opds_nil) trivial <| cgB (nf hp14) rfl rfl (oNot tm) (s1 rfl) <| cp (oPkF (nf hp14) tm tm) (s2 rfl rfl) <| .nil) (by kernel_rfl) ?_
          exact pJ1 _ (so h) ⟨rfl, rfl, rfl, rfl, rfl, trivial⟩ rfl
        · refine rg (cr (oLdA (n := 0) (fs := f_api_Lattice) (u := ⟨y1.Names, y1.Up⟩) rfl ⟨rfl, rfl, trivial⟩ t42 tm) (s1 rfl) <| cp (oCall rfl (lattice_Check.ok hy11) b39 (opds_cons tm opds_nil)) (s1 rfl) <| cp (oMv tm) (s1 rfl) <| cp (oNe rfl tm tm) (s2 rfl rfl) <| cp (oMv tm) (s1 rfl) <| cgB (nf hp12) rfl rfl (oMv tm) (s1 rfl) <| cgB (nf hp12) rfl rfl (oMv tm) (s1 rfl) <| cgB (nf hp12) rfl rfl (oNe rfl tm tm) (s2 rfl rfl) <| cp (oPkF (nf hp12) tm tm) (s2 rfl rfl) <| cp (oMv tm) (s1 rfl) <| cgB (nf hp13) rfl rfl (oMv tm) (s1 rfl) <| cgB (nf hp13) rfl rfl (oMv tm) (s1 rfl) <| cgB (nf hp13) rfl rfl (oNe rfl tm tm) (s2 rfl rfl) <| cp (oPkF (nf hp13) tm tm) (s2 rfl rfl) <| cp (oMv tm) (s1 rfl) <| csB (nt hp14) rfl rfl <| csB (nt hp14) rfl rfl <| cp (oPkT (nt hp14) tm cB) (s1 rfl) <| .nil) (by kernel_rfl) ?_
          exact pJ1 _ (so h) ⟨rfl, rfl, rfl, rfl, rfl, trivial⟩ rfl
      · refine rg (cr (oLdA (n := 0) (fs := f_api_Lattice) (u := ⟨y1.Names, y1.Up⟩) rfl ⟨rfl, rfl, trivial⟩ t42 tm) (s1 rfl) <| cp (oCall rfl (lattice_Check.ok hy11) b39 (opds_cons tm opds_nil)) (s1 rfl) <| cp (oMv tm) (s1 rfl) <| cp (oNe rfl tm tm) (s2 rfl rfl) <| cp (oMv tm) (s1 rfl) <| cgB (nf hp12) rfl rfl (oMv tm) (s1 rfl) <| cgB (nf hp12) rfl rfl (oMv tm) (s1 rfl) <| cgB (nf hp12) rfl rfl (oNe rfl tm tm) (s2 rfl rfl) <| cp (oPkF (nf hp12) tm tm) (s2 rfl rfl) <| cp (oMv tm) (s1 rfl) <| csB (nt hp13) rfl rfl <| csB (nt hp13) rfl rfl <| csB (nt hp13) rfl rfl <| cp (oPkT (nt hp13) tm cB) (s1 rfl) <| cp (oMv tm) (s1 rfl) <| csB rfl rfl rfl <| csB rfl rfl rfl <| cp (oPkT rfl tm cB) (s1 rfl) <| .nil) (by kernel_rfl) ?_
        exact pJ1 _ (so h) ⟨rfl, rfl, rfl, rfl, rfl, trivial⟩ rfl
    · refine rg (cr (oLdA (n := 0) (fs := f_api_Lattice) (u := ⟨y1.Names, y1.Up⟩) rfl ⟨rfl, rfl, trivial⟩ t42 tm) (s1 rfl) <| cp (oCall rfl (lattice_Check.ok hy11) b39 (opds_cons tm opds_nil)) (s1 rfl) <| cp (oMv tm) (s1 rfl) <| cp (oNe rfl tm tm) (s2 rfl rfl) <| cp (oMv tm) (s1 rfl) <| csB (nt hp12) rfl rfl <| csB (nt hp12) rfl rfl <| csB (nt hp12) rfl rfl <| cp (oPkT (nt hp12) tm cB) (s1 rfl) <| cp (oMv tm) (s1 rfl) <| csB rfl rfl rfl <| csB rfl rfl rfl <| csB rfl rfl rfl <| cp (oPkT rfl tm cB) (s1 rfl) <| cp (oMv tm) (s1 rfl) <| csB rfl rfl rfl <| csB rfl rfl rfl <| cp (oPkT rfl tm cB) (s1 rfl) <| .nil) (by kernel_rfl) ?_
      exact pJ1 _ (so h) ⟨rfl, rfl, rfl, rfl, rfl, trivial⟩ rfl
  · rintro x10 rfl
    replace h := hk1
    rcases ic h with ⟨hp16, h⟩ | ⟨hp16, h⟩
    · refine wBT hp16 tm (s1 rfl) ?_
      refine wSeq ?_
      refine rg (cp (oAs cB) trivial <| .nil) (by kernel_rfl) ?_
      refine pSeq ?_
      refine wRet ?_
      refine pThenR ?_
      obtain rfl := so h
      exact pR1 (.inl rfl) rfl (.tmp rfl <| .nil)
    · refine wBF hp16 tm (s1 rfl) ?_
      refine wSkip ?_
      refine pSeq ?_
      refine wSeq ?_
      refine wSeq ?_
      refine rg (cp (oMv tm) (s1 rfl) <| cp (oNe rfl tm (cI (by decide))) (s1 rfl) <| .nil) (by kernel_rfl) ?_
      refine pSeq ?_
      rcases ic h with ⟨hp17, h⟩ | ⟨hp17, h⟩
      · refine wNT hp17 tm (s1 rfl) ?_
        refine wSkip ?_
        refine pSeq ?_
        obtain ⟨o1, h, hk1⟩ := bd h
        refine wJ1 (fun x21 => x21 = o1) (fun x21 => [(2, .d (kB.sig x21))]) (fun x21 => [.box 1 42 [.d (kL kS) y1.Names, .d (kL (kI .u32)) y1.Up]]) ?_ ?_
        · obtain ⟨y22, hy22, h⟩ := bd h
          rcases ic h with ⟨hp23, h⟩ | ⟨hp23, h⟩
          · obtain ⟨y24, hy24, h⟩ := bd h
            refine rg (cp (oMv tm) (s1 rfl) <| cr (oLdA (n := 0) (fs := f_api_Lattice) (u := ⟨y1.Names, y1.Up⟩) rfl ⟨rfl, rfl, trivial⟩ t42 tm) (s1 rfl) <| cp (oCall rfl (reticentref01_Bottom.ok hy22) b40 (opds_cons tm opds_nil)) (s1 rfl) <| cp (oEq rfl tm tm) (s2 rfl rfl) <| cp (oMv tm) (s1 rfl) <| cgB (decide_eq_true hp23) rfl rfl (oMv tm) (s1 rfl) <| crgB (decide_eq_true hp23) rfl rfl (oLdA (n := 0) (fs := f_api_Lattice) (u := ⟨y1.Names, y1.Up⟩) rfl ⟨rfl, rfl, trivial⟩ t42 tm) (s1 rfl) <| cgB (decide_eq_true hp23) rfl rfl (oCall rfl (reticentref01_Top.ok hy24) b41 (opds_cons tm opds_nil)) (s1 rfl) <| cgB (decide_eq_true hp23) rfl rfl (oEq rfl tm tm) (s2 rfl rfl) <| cp (oPkT (decide_eq_true hp23) tm tm) (s2 rfl rfl) <| cp (oAs tm) (s1 rfl) <| .nil) (by kernel_rfl) ?_
            exact pJ1 _ (so h) ⟨rfl, trivial⟩ rfl
          · refine rg (cp (oMv tm) (s1 rfl) <| cr (oLdA (n := 0) (fs := f_api_Lattice) (u := ⟨y1.Names, y1.Up⟩) rfl ⟨rfl, rfl, trivial⟩ t42 tm) (s1 rfl) <| cp (oCall rfl (reticentref01_Bottom.ok hy22) b40 (opds_cons tm opds_nil)) (s1 rfl) <| cp (oEq rfl tm tm) (s2 rfl rfl) <| cp (oMv tm) (s1 rfl) <| csB (decide_eq_false hp23) rfl rfl <| csB (decide_eq_false hp23) rfl rfl <| csB (decide_eq_false hp23) rfl rfl <| csB (decide_eq_false hp23) rfl rfl <| cp (oPkF (decide_eq_false hp23) tm cB) (s1 rfl) <| cp (oAs tm) (s1 rfl) <| .nil) (by kernel_rfl) ?_
            exact pJ1 _ (so h) ⟨rfl, trivial⟩ rfl
        · rintro x21 rfl
          replace h := hk1
          refine wRet ?_
          obtain rfl := so h
          exact pR1 (.inl rfl) rfl (.tmp rfl <| .nil)
      · refine wNF hp17 tm (s1 rfl) ?_
        obtain ⟨o1, h, hk1⟩ := bd h
        refine wJ1 (fun x26 => x26 = o1) (fun x26 => [(2, .d (kB.sig x26))]) (fun x26 => [.box 1 42 [.d (kL kS) y1.Names, .d (kL (kI .u32)) y1.Up]]) ?_ ?_
        · rcases ic h with ⟨hp27, h⟩ | ⟨hp27, h⟩
          · refine rg (cp (oMv tm) (s1 rfl) <| cp (oEq rfl tm (cI (by decide))) (s1 rfl) <| cp (oMv tm) (s1 rfl) <| cgB (decide_eq_true hp27) rfl rfl (oMv tm) (s1 rfl) <| cgB (decide_eq_true hp27) rfl rfl (oEq rfl tm (cI (by decide))) (s1 rfl) <| cp (oPkT (decide_eq_true hp27) tm tm) (s2 rfl rfl) <| cp (oAs tm) (s1 rfl) <| .nil) (by kernel_rfl) ?_
            exact pJ1 _ (so h) ⟨rfl, trivial⟩ rfl
          · refine rg (cp (oMv tm) (s1 rfl) <| cp (oEq rfl tm (cI (by decide))) (s1 rfl) <| cp (oMv tm) (s1 rfl) <| csB (decide_eq_false hp27) rfl rfl <| csB (decide_eq_false hp27) rfl rfl <| cp (oPkF (decide_eq_false hp27) tm cB) (s1 rfl) <| cp (oAs tm) (s1 rfl) <| .nil) (by kernel_rfl) ?_
            exact pJ1 _ (so h) ⟨rfl, trivial⟩ rfl
        · rintro x26 rfl
          replace h := hk1
          refine wRet ?_
          refine pThenR ?_
          obtain rfl := so h
          exact pR1 (.inl rfl) rfl (.tmp rfl <| .nil)

theorem reticentlaw01_LatticeLaws_1.ok {a0 : Int} {a1 : Int} {a2 : api_Lattice} {a3 : Bool} {r : Bool × Int} (h : reticentlaw01_LatticeLaws_1.f a0 a1 a2 a3 = some r) : FnS Try.prog 42 [.d ((kI .i64).sig a0), .d ((kI .i64).sig a1), .d (sP (kR f_api_Lattice) a2), .p 70300 0] [.box 70300 4 [.d kB a3]] [70300] (.d ((kI .i64).sig r.2)) [.box 70300 4 [.d kB r.1]] := by
  refine fnIntroS Try.func42 rfl (by kernel_rfl) fun X H0 w0 pv => ?_
  unfold reticentlaw01_LatticeLaws_1.f at h
  refine wSeq ?_
  refine rg (cp (oAs (cI (by decide))) trivial <| .nil) (by kernel_rfl) ?_
  refine pSeq ?_
  refine wSeq ?_
  obtain ⟨y1, hy1, h⟩ := bd h
  refine rg (cp (oLd t42 tm) (s1 rfl) <| cp (oMv tm) (s1 rfl) <| cp (oMv tm) (s1 rfl) <| cp (oCall rfl (lattice_Join.ok hy1) b27 (opds_cons tm (opds_cons tm (opds_cons tm opds_nil)))) (s3 rfl rfl rfl) <| cp (oMv tm) (s1 rfl) <| cp (oExt (k := 0) rfl tm) (s1 rfl) <| cp (oExt (k := 1) rfl tm) (s1 rfl) <| cp (oAs tm) (s1 rfl) <| cp (oAs tm) (s1 rfl) <| .nil) (by kernel_rfl) ?_
  refine pSeq ?_
  obtain ⟨o1, h, hk1⟩ := bd h
  refine wJ1 (fun x3 => x3 = o1) (fun x3 => [(7, .d ((kI .i64).sig y1.1))]) (fun x3 => [.box 70300 4 [.d kB x3]]) ?_ ?_
  · rcases ic h with ⟨hp4, h⟩ | ⟨hp4, h⟩
    · refine rg (cr (oLdB (n := 0) (k := 0) rfl rfl rfl t4 tm) (s1 rfl) <| cp (oMv tm) (s1 rfl) <| cgB hp4 rfl rfl (oMv tm) (s1 rfl) <| cgB hp4 rfl rfl (oEq rfl tm (cI (by decide))) (s1 rfl) <| cp (oPkT hp4 tm tm) (s2 rfl rfl) <| cwn (oSt (n := 0) (k := 0) rfl rfl rfl rfl z4 tm tm) (s2 rfl rfl) <| .nil) (by kernel_rfl) ?_
      exact pJ1 _ (so h) ⟨rfl, trivial⟩ rfl
    · refine rg (cr (oLdB (n := 0) (k := 0) rfl rfl rfl t4 tm) (s1 rfl) <| cp (oMv tm) (s1 rfl) <| csB (nb hp4) rfl rfl <| csB (nb hp4) rfl rfl <| cp (oPkF (nb hp4) tm cB) (s1 rfl) <| cwn (oSt (n := 0) (k := 0) rfl rfl rfl rfl z4 tm tm) (s2 rfl rfl) <| .nil) (by kernel_rfl) ?_
      exact pJ1 _ (so h) ⟨rfl, trivial⟩ rfl
  · rintro x3 rfl
    replace h := hk1
    refine wSeq ?_
    refine rg (cp (oMv tm) (s1 rfl) <| cp (oAs tm) (s1 rfl) <| .nil) (by kernel_rfl) ?_
    refine pSeq ?_
    refine wRet ?_
    obtain rfl := so h
    exact pS1 [0] rfl rfl (.inl rfl) rfl (.tmp rfl <| .nil)

theorem reticentlaw01_LatticeLaws_2.ok {a0 : Int} {a1 : Int} {a2 : api_Lattice} {a3 : Bool} {r : Bool × Int} (h : reticentlaw01_LatticeLaws_2.f a0 a1 a2 a3 = some r) : FnS Try.prog 43 [.d ((kI .i64).sig a0), .d ((kI .i64).sig a1), .d (sP (kR f_api_Lattice) a2), .p 70300 0] [.box 70300 4 [.d kB a3]] [70300] (.d ((kI .i64).sig r.2)) [.box 70300 4 [.d kB r.1]] := by
  refine fnIntroS Try.func43 rfl (by kernel_rfl) fun X H0 w0 pv => ?_
  unfold reticentlaw01_LatticeLaws_2.f at h
  refine wSeq ?_
  refine rg (cp (oAs (cI (by decide))) trivial <| .nil) (by kernel_rfl) ?_
  refine pSeq ?_
  refine wSeq ?_
  obtain ⟨y1, hy1, h⟩ := bd h
  refine rg (cp (oLd t42 tm) (s1 rfl) <| cp (oMv tm) (s1 rfl) <| cp (oMv tm) (s1 rfl) <| cp (oCall rfl (lattice_Meet.ok hy1) b28 (opds_cons tm (opds_cons tm (opds_cons tm opds_nil)))) (s3 rfl rfl rfl) <| cp (oMv tm) (s1 rfl) <| cp (oExt (k := 0) rfl tm) (s1 rfl) <| cp (oExt (k := 1) rfl tm) (s1 rfl) <| cp (oAs tm) (s1 rfl) <| cp (oAs tm) (s1 rfl) <| .nil) (by kernel_rfl) ?_
  refine pSeq ?_
  obtain ⟨o1, h, hk1⟩ := bd h
  refine wJ1 (fun x3 => x3 = o1) (fun x3 => [(7, .d ((kI .i64).sig y1.1))]) (fun x3 => [.box 70300 4 [.d kB x3]]) ?_ ?_
  · rcases ic h with ⟨hp4, h⟩ | ⟨hp4, h⟩
    · refine rg (cr (oLdB (n := 0) (k := 0) rfl rfl rfl t4 tm) (s1 rfl) <| cp (oMv tm) (s1 rfl) <| cgB hp4 rfl rfl (oMv tm) (s1 rfl) <| cgB hp4 rfl rfl (oEq rfl tm (cI (by decide))) (s1 rfl) <| cp (oPkT hp4 tm tm) (s2 rfl rfl) <| cwn (oSt (n := 0) (k := 0) rfl rfl rfl rfl z4 tm tm) (s2 rfl rfl) <| .nil) (by kernel_rfl) ?_
      exact pJ1 _ (so h) ⟨rfl, trivial⟩ rfl
    · refine rg (cr (oLdB (n := 0) (k := 0) rfl rfl rfl t4 tm) (s1 rfl) <| cp (oMv tm) (s1 rfl) <| csB (nb hp4) rfl rfl <| csB (nb hp4) rfl rfl <| cp (oPkF (nb hp4) tm cB) (s1 rfl) <| cwn (oSt (n := 0) (k := 0) rfl rfl rfl rfl z4 tm tm) (s2 rfl rfl) <| .nil) (by kernel_rfl) ?_
      exact pJ1 _ (so h) ⟨rfl, trivial⟩ rfl
  · rintro x3 rfl
    replace h := hk1
    refine wSeq ?_
    refine rg (cp (oMv tm) (s1 rfl) <| cp (oAs tm) (s1 rfl) <| .nil) (by kernel_rfl) ?_
    refine pSeq ?_
    refine wRet ?_
    obtain rfl := so h
    exact pS1 [0] rfl rfl (.inl rfl) rfl (.tmp rfl <| .nil)

theorem reticentlaw01_LatticeLaws.ok {a0 : api_Lattice} {a1 : Int} {a2 : Int} {a3 : Int} {r : Bool} (h : reticentlaw01_LatticeLaws.f a0 a1 a2 a3 = some r) : FnA Try.prog 8 [(kR f_api_Lattice).sig a0, (kI .i64).sig a1, (kI .i64).sig a2, (kI .i64).sig a3] (kB.sig r) := by
  refine fnIntro Try.func8 rfl (by kernel_rfl) fun H0 w0 => ?_
  unfold reticentlaw01_LatticeLaws.f at h
  refine wSeq ?_
  refine rg (cw (oBoxS (id := 4) (fs := f_api_Lattice) tm) (s1 rfl) <| cp (oAs cB) trivial <| .nil) (by kernel_rfl) ?_
  refine pSeq ?_
  refine wSeq ?_
  obtain ⟨y1, hy1, h⟩ := bd h
  refine rg (cr (oLdA (n := 0) (fs := f_api_Lattice) (u := ⟨a0.Names, a0.Up⟩) rfl ⟨rfl, rfl, trivial⟩ t42 tm) (s1 rfl) <| cp (oCall rfl (reticentlaw01_few.ok hy1) b25 (opds_cons tm opds_nil)) (s1 rfl) <| cwn (oStA (n := 0) (fs := f_api_Lattice) rfl rfl z42 tm tm) (s2 rfl rfl) <| .nil) (by kernel_rfl) ?_
  refine pSeq ?_
  refine wSeq ?_
  obtain ⟨o1, h, hk1⟩ := bd h
  refine wJ1 (fun x4 => x4 = o1) (fun x4 => [(1, .d ((kI .i64).sig a1)), (2, .d ((kI .i64).sig a2)), (3, .d ((kI .i64).sig a3)), (4, .p 4 0), (39, .d (kB.sig x4))]) (fun x4 => [.box 4 42 [.d (kL kS) y1.Names, .d (kL (kI .u32)) y1.Up]]) ?_ ?_
  · obtain ⟨y5, hy5, h⟩ := bd h
    rcases ic h with ⟨hp6, h⟩ | ⟨hp6, h⟩
    · refine rg (cr (oLdA (n := 0) (fs := f_api_Lattice) (u := ⟨y1.Names, y1.Up⟩) rfl ⟨rfl, rfl, trivial⟩ t42 tm) (s1 rfl) <| cp (oCall rfl (lattice_Check.ok hy5) b39 (opds_cons tm opds_nil)) (s1 rfl) <| cp (oNe rfl tm (cI (by decide))) (s1 rfl) <| cp (oMv tm) (s1 rfl) <| cgB (nf hp6) rfl rfl (oFldP o42_1 tm) (s1 rfl) <| crgB (nf hp6) rfl rfl (oLdB (n := 0) (k := 1) rfl rfl rfl t40 tm) (s1 rfl) <| cgB (nf hp6) rfl rfl (oLenL u40 tm) (s1 rfl) <| cgB (nf hp6) rfl rfl (oEq rfl tm (cI (by decide))) (s1 rfl) <| cp (oPkF (nf hp6) tm tm) (s2 rfl rfl) <| .nil) (by kernel_rfl) ?_
      exact pJ1 _ (so h) ⟨rfl, rfl, rfl, rfl, rfl, trivial⟩ rfl
    · refine rg (cr (oLdA (n := 0) (fs := f_api_Lattice) (u := ⟨y1.Names, y1.Up⟩) rfl ⟨rfl, rfl, trivial⟩ t42 tm) (s1 rfl) <| cp (oCall rfl (lattice_Check.ok hy5) b39 (opds_cons tm opds_nil)) (s1 rfl) <| cp (oNe rfl tm (cI (by decide))) (s1 rfl) <| cp (oMv tm) (s1 rfl) <| csB (nt hp6) rfl rfl <| csB (nt hp6) rfl rfl <| csB (nt hp6) rfl rfl <| csB (nt hp6) rfl rfl <| cp (oPkT (nt hp6) tm cB) (s1 rfl) <| .nil) (by kernel_rfl) ?_
      exact pJ1 _ (so h) ⟨rfl, rfl, rfl, rfl, rfl, trivial⟩ rfl
  · rintro x4 rfl
    replace h := hk1
    rcases ic h with ⟨hp7, h⟩ | ⟨hp7, h⟩
    · refine wBT hp7 tm (s1 rfl) ?_
      refine wSeq ?_
      obtain ⟨y8, hy8, h⟩ := bd h
      refine rg (cp (oCall rfl (reticentlaw01_alive.ok hy8) b32 opds_nil) trivial <| cp (oAs tm) (s1 rfl) <| .nil) (by kernel_rfl) ?_
      refine pSeq ?_
      refine wRet ?_
      refine pThenR ?_
      obtain rfl := so h
      exact pR1 (.inl rfl) rfl (.tmp rfl <| .nil)
    · refine wBF hp7 tm (s1 rfl) ?_
      refine wSkip ?_
      refine pSeq ?_
      refine wSeq ?_
      refine rg (cp (oFldP o42_1 tm) (s1 rfl) <| cr (oLdB (n := 0) (k := 1) rfl rfl rfl t40 tm) (s1 rfl) <| cp (oLenL u40 tm) (s1 rfl) <| cp (oAs tm) (s1 rfl) <| .nil) (by kernel_rfl) ?_
      refine pSeq ?_
      refine wSeq ?_
      obtain ⟨hc9, h⟩ := ib h
      obtain ⟨hc10, h⟩ := ib h
      obtain ⟨hc11, h⟩ := ib h
      obtain ⟨hc12, h⟩ := ib h
      obtain ⟨hc13, h⟩ := ib h
      obtain ⟨hc14, h⟩ := ib h
      refine rgD hm (cp (oMv tm) (s1 rfl) <| cp (oMv tm) (s1 rfl) <| cp (oRem hc9 tm tm) (s2 rfl rfl) <| cp (oMv tm) (s1 rfl) <| cp (oAdd tm tm) (s2 rfl rfl) <| cp (oMv tm) (s1 rfl) <| cp (oRem hc10 tm tm) (s2 rfl rfl) <| cp (oMv tm) (s1 rfl) <| cp (oMv tm) (s1 rfl) <| cp (oRem hc11 tm tm) (s2 rfl rfl) <| cp (oMv tm) (s1 rfl) <| cp (oAdd tm tm) (s2 rfl rfl) <| cp (oMv tm) (s1 rfl) <| cp (oRem hc12 tm tm) (s2 rfl rfl) <| cp (oMv tm) (s1 rfl) <| cp (oMv tm) (s1 rfl) <| cp (oRem hc13 tm tm) (s2 rfl rfl) <| cp (oMv tm) (s1 rfl) <| cp (oAdd tm tm) (s2 rfl rfl) <| cp (oMv tm) (s1 rfl) <| cp (oRem hc14 tm tm) (s2 rfl rfl) <| cp (oAs tm) (s1 rfl) <| cp (oAs tm) (s1 rfl) <| cp (oAs tm) (s1 rfl) <| .nil) (by kernel_rfl) (by kernel_rfl) ?_
      refine pSeq ?_
      refine wSeq ?_
      obtain ⟨y15, hy15, h⟩ := bd h
      refine rg (cp (oCall rfl (reticentlaw01_alive.ok hy15) b32 opds_nil) trivial <| cw (oAlloc (id := 10) (ls := [.d kB false]) ze4 (fun g => ⟨[(.bool false)], _, rfl, zB g.H, rfl⟩)) trivial <| cwn (oSt (n := 0) (k := 0) rfl rfl rfl rfl z4 tm tm) (s2 rfl rfl) <| .nil) (by kernel_rfl) ?_
      refine pSeq ?_
      refine wSeq ?_
      refine wFrzB 4 (n := 1) (id := 4) (fs := f_api_Lattice) (u := ⟨y1.Names, y1.Up⟩) rfl rfl ⟨rfl, rfl, trivial⟩ rfl ?_
      refine rg (cp (oMkN (ids := [10]) (caps := [some (sP (kR f_api_Lattice) (⟨y1.Names, y1.Up⟩ : api_Lattice)), none]) rfl (oNs tm (oNp tm oN0))) (s2 rfl rfl) <| cp (oAs tm) (s1 rfl) <| .nil) (by kernel_rfl) ?_
      refine pSeq ?_
      refine wSeq ?_
      refine rg (cp (oMkN (ids := [10]) (caps := [some (sP (kR f_api_Lattice) (⟨y1.Names, y1.Up⟩ : api_Lattice)), none]) rfl (oNs tm (oNp tm oN0))) (s2 rfl rfl) <| cp (oAs tm) (s1 rfl) <| .nil) (by kernel_rfl) ?_
      refine pSeq ?_
      refine wSeq ?_
      obtain ⟨y16, hy16, h⟩ := bd h
      obtain ⟨y17, hy17, h⟩ := bd h
      refine rg (cp (oMv tm) (s1 rfl) <| cp (oMv tm) (s1 rfl) <| cp (oMv tm) (s1 rfl) <| cm (oCallN (ins := [.d ((kI .i64).sig ((IntKind.i64.wrap ((a1.tmod (y1.Up.length : Int)) + (y1.Up.length : Int))).tmod (y1.Up.length : Int))), .d ((kI .i64).sig ((IntKind.i64.wrap ((a2.tmod (y1.Up.length : Int)) + (y1.Up.length : Int))).tmod (y1.Up.length : Int)))]) (caps := [some (sP (kR f_api_Lattice) (⟨y1.Names, y1.Up⟩ : api_Lattice)), none]) (kn := [70300]) (rest := []) (R' := [.box 10 4 [.d kB y16.1]]) (out' := .d ((kI .i64).sig y16.2)) [(70300, 10)] [] [0] [] [0] rfl tm (reticentlaw01_LatticeLaws_1.ok hy16) rfl b42 (oE1 tm (oE1 tm oE0)) rfl rfl rfl rfl rfl rfl rfl rfl) (s3 rfl rfl rfl) <| cp (oMv tm) (s1 rfl) <| cp (oMv tm) (s1 rfl) <| cp (oMv tm) (s1 rfl) <| cm (oCallN (ins := [.d ((kI .i64).sig ((IntKind.i64.wrap ((a2.tmod (y1.Up.length : Int)) + (y1.Up.length : Int))).tmod (y1.Up.length : Int))), .d ((kI .i64).sig ((IntKind.i64.wrap ((a3.tmod (y1.Up.length : Int)) + (y1.Up.length : Int))).tmod (y1.Up.length : Int)))]) (caps := [some (sP (kR f_api_Lattice) (⟨y1.Names, y1.Up⟩ : api_Lattice)), none]) (kn := [70300]) (rest := []) (R' := [.box 10 4 [.d kB y17.1]]) (out' := .d ((kI .i64).sig y17.2)) [(70300, 10)] [] [0] [] [0] rfl tm (reticentlaw01_LatticeLaws_1.ok hy17) rfl b42 (oE1 tm (oE1 tm oE0)) rfl rfl rfl rfl rfl rfl rfl rfl) (s3 rfl rfl rfl) <| cp (oAs tm) (s1 rfl) <| cp (oAs tm) (s1 rfl) <| .nil) (by kernel_rfl) ?_
      refine pSeq ?_
      refine wSeq ?_
      obtain ⟨y18, hy18, h⟩ := bd h
      obtain ⟨y19, hy19, h⟩ := bd h
      refine rg (cp (oMv tm) (s1 rfl) <| cp (oMv tm) (s1 rfl) <| cp (oMv tm) (s1 rfl) <| cm (oCallN (ins := [.d ((kI .i64).sig ((IntKind.i64.wrap ((a1.tmod (y1.Up.length : Int)) + (y1.Up.length : Int))).tmod (y1.Up.length : Int))), .d ((kI .i64).sig ((IntKind.i64.wrap ((a2.tmod (y1.Up.length : Int)) + (y1.Up.length : Int))).tmod (y1.Up.length : Int)))]) (caps := [some (sP (kR f_api_Lattice) (⟨y1.Names, y1.Up⟩ : api_Lattice)), none]) (kn := [70300]) (rest := []) (R' := [.box 10 4 [.d kB y18.1]]) (out' := .d ((kI .i64).sig y18.2)) [(70300, 10)] [] [0] [] [0] rfl tm (reticentlaw01_LatticeLaws_2.ok hy18) rfl b43 (oE1 tm (oE1 tm oE0)) rfl rfl rfl rfl rfl rfl rfl rfl) (s3 rfl rfl rfl) <| cp (oMv tm) (s1 rfl) <| cp (oMv tm) (s1 rfl) <| cp (oMv tm) (s1 rfl) <| cm (oCallN (ins := [.d ((kI .i64).sig ((IntKind.i64.wrap ((a2.tmod (y1.Up.length : Int)) + (y1.Up.length : Int))).tmod (y1.Up.length : Int))), .d ((kI .i64).sig ((IntKind.i64.wrap ((a3.tmod (y1.Up.length : Int)) + (y1.Up.length : Int))).tmod (y1.Up.length : Int)))]) (caps := [some (sP (kR f_api_Lattice) (⟨y1.Names, y1.Up⟩ : api_Lattice)), none]) (kn := [70300]) (rest := []) (R' := [.box 10 4 [.d kB y19.1]]) (out' := .d ((kI .i64).sig y19.2)) [(70300, 10)] [] [0] [] [0] rfl tm (reticentlaw01_LatticeLaws_2.ok hy19) rfl b43 (oE1 tm (oE1 tm oE0)) rfl rfl rfl rfl rfl rfl rfl rfl) (s3 rfl rfl rfl) <| cp (oAs tm) (s1 rfl) <| cp (oAs tm) (s1 rfl) <| .nil) (by kernel_rfl) ?_
      refine pSeq ?_
      refine wSeq ?_
      obtain ⟨o1, h, hk1⟩ := bd h
      refine wJ2 (fun x37 x38 => (x37, x38) = o1) (fun x37 x38 => [(1, .d ((kI .i64).sig ((IntKind.i64.wrap ((a1.tmod (y1.Up.length : Int)) + (y1.Up.length : Int))).tmod (y1.Up.length : Int)))), (2, .d ((kI .i64).sig ((IntKind.i64.wrap ((a2.tmod (y1.Up.length : Int)) + (y1.Up.length : Int))).tmod (y1.Up.length : Int)))), (4, .d (sP (kR f_api_Lattice) (⟨y1.Names, y1.Up⟩ : api_Lattice))), (10, .p 10 0), (11, .f [10] (sCloN 42 [some (sP (kR f_api_Lattice) (⟨y1.Names, y1.Up⟩ : api_Lattice)), none])), (12, .f [10] (sCloN 43 [some (sP (kR f_api_Lattice) (⟨y1.Names, y1.Up⟩ : api_Lattice)), none])), (13, .d ((kI .i64).sig y16.2)), (15, .d ((kI .i64).sig y18.2)), (151, .d (kB.sig x38))]) (fun x37 x38 => [.box 10 4 [.d kB x37]]) ?_ ?_
      · obtain ⟨y39, hy39, h⟩ := bd h
        rcases ic h with ⟨hp40, h⟩ | ⟨hp40, h⟩
        · obtain ⟨y41, hy41, h⟩ := bd h
          rcases ic h with ⟨hp42, h⟩ | ⟨hp42, h⟩
          · obtain ⟨y43, hy43, h⟩ := bd h
            obtain ⟨y44, hy44, h⟩ := bd h
            rcases ic h with ⟨hp45, h⟩ | ⟨hp45, h⟩
            · obtain ⟨y46, hy46, h⟩ := bd h
              obtain ⟨y47, hy47, h⟩ := bd h
              rcases ic h with ⟨hp48, h⟩ | ⟨hp48, h⟩
              · obtain ⟨y49, hy49, h⟩ := bd h
                rcases ic h with ⟨hp50, h⟩ | ⟨hp50, h⟩
                · obtain ⟨y51, hy51, h⟩ := bd h
                  rcases ic h with ⟨hp52, h⟩ | ⟨hp52, h⟩
                  · obtain ⟨y53, hy53, h⟩ := bd h
                    rcases ic h with ⟨hp54, h⟩ | ⟨hp54, h⟩
                    · obtain ⟨y55, hy55, h⟩ := bd h
                      refine rg (cp (oMv tm) (s1 rfl) <| cp (oMv tm) (s1 rfl) <| cp (oMv tm) (s1 rfl) <| cp (oMv tm) (s1 rfl) <| cm (oCallN (ins := [.d ((kI .i64).sig ((IntKind.i64.wrap ((a2.tmod (y1.Up.length : Int)) + (y1.Up.length : Int))).tmod (y1.Up.length : Int))), .d ((kI .i64).sig ((IntKind.i64.wrap ((a1.tmod (y1.Up.length : Int)) + (y1.Up.length : Int))).tmod (y1.Up.length : Int)))]) (caps := [some (sP (kR f_api_Lattice) (⟨y1.Names, y1.Up⟩ : api_Lattice)), none]) (kn := [70300]) (rest := []) (R' := [.box 10 4 [.d kB y39.1]]) (out' := .d ((kI .i64).sig y39.2)) [(70300, 10)] [] [0] [] [0] rfl tm (reticentlaw01_LatticeLaws_1.ok hy39) rfl b42 (oE1 tm (oE1 tm oE0)) rfl rfl rfl rfl rfl rfl rfl rfl) (s3 rfl rfl rfl) <| cp (oNe rfl tm tm) (s2 rfl rfl) <| cp (oMv tm) (s1 rfl) <| cgB (nf hp40) rfl rfl (oMv tm) (s1 rfl) <| cgB (nf hp40) rfl rfl (oMv tm) (s1 rfl) <| cgB (nf hp40) rfl rfl (oMv tm) (s1 rfl) <| cgB (nf hp40) rfl rfl (oMv tm) (s1 rfl) <| cmgB (nf hp40) rfl rfl (oCallN (ins := [.d ((kI .i64).sig ((IntKind.i64.wrap ((a2.tmod (y1.Up.length : Int)) + (y1.Up.length : Int))).tmod (y1.Up.length : Int))), .d ((kI .i64).sig ((IntKind.i64.wrap ((a1.tmod (y1.Up.length : Int)) + (y1.Up.length : Int))).tmod (y1.Up.length : Int)))]) (caps := [some (sP (kR f_api_Lattice) (⟨y1.Names, y1.Up⟩ : api_Lattice)), none]) (kn := [70300]) (rest := []) (R' := [.box 10 4 [.d kB y41.1]]) (out' := .d ((kI .i64).sig y41.2)) [(70300, 10)] [] [0] [] [0] rfl tm (reticentlaw01_LatticeLaws_2.ok hy41) rfl b43 (oE1 tm (oE1 tm oE0)) rfl rfl rfl rfl rfl rfl rfl rfl) (s3 rfl rfl rfl) <| cgB (nf hp40) rfl rfl (oNe rfl tm tm) (s2 rfl rfl) <| cp (oPkF (nf hp40) tm tm) (s2 rfl rfl) <| cp (oMv tm) (s1 rfl) <| cgB (nf hp42) rfl rfl (oMv tm) (s1 rfl) <| cgB (nf hp42) rfl rfl (oMv tm) (s1 rfl) <| cgB (nf hp42) rfl rfl (oMv tm) (s1 rfl) <| cmgB (nf hp42) rfl rfl (oCallN (ins := [.d ((kI .i64).sig y16.2), .d ((kI .i64).sig ((IntKind.i64.wrap ((a3.tmod (y1.Up.length : Int)) + (y1.Up.length : Int))).tmod (y1.Up.length : Int)))]) (caps := [some (sP (kR f_api_Lattice) (⟨y1.Names, y1.Up⟩ : api_Lattice)), none]) (kn := [70300]) (rest := []) (R' := [.box 10 4 [.d kB y43.1]]) (out' := .d ((kI .i64).sig y43.2)) [(70300, 10)] [] [0] [] [0] rfl tm (reticentlaw01_LatticeLaws_1.ok hy43) rfl b42 (oE1 tm (oE1 tm oE0)) rfl rfl rfl rfl rfl rfl rfl rfl) (s3 rfl rfl rfl) <| cgB (nf hp42) rfl rfl (oMv tm) (s1 rfl) <| cgB (nf hp42) rfl rfl (oMv tm) (s1 rfl) <| cgB (nf hp42) rfl rfl (oMv tm) (s1 rfl) <| cmgB (nf hp42) rfl rfl (oCallN (ins := [.d ((kI .i64).sig ((IntKind.i64.wrap ((a1.tmod (y1.Up.length : Int)) + (y1.Up.length : Int))).tmod (y1.Up.length : Int))), .d ((kI .i64).sig y17.2)]) (caps := [some (sP (kR f_api_Lattice) (⟨y1.Names, y1.Up⟩ : api_Lattice)), none]) (kn := [70300]) (rest := []) (R' := [.box 10 4 [.d kB y44.1]]) (out' := .d ((kI .i64).sig y44.2)) [(70300, 10)] [] [0] [] [0] rfl tm (reticentlaw01_LatticeLaws_1.ok hy44) rfl b42 (oE1 tm (oE1 tm oE0)) rfl rfl rfl rfl rfl rfl rfl rfl) (s3 rfl rfl rfl) <| cgB (nf hp42) rfl rfl (oNe rfl tm tm) (s2 rfl rfl) <| cp (oPkF (nf hp42) tm tm) (s2 rfl rfl) <| cp (oMv tm) (s1 rfl) <| cgB (nf hp45) rfl rfl (oMv tm) (s1 rfl) <| cgB (nf hp45) rfl rfl (oMv tm) (s1 rfl) <| cgB (nf hp45) rfl rfl (oMv tm) (s1 rfl) <| cmgB (nf hp45) rfl rfl (oCallN (ins := [.d ((kI .i64).sig y18.2), .d ((kI .i64).sig ((IntKind.i64.wrap ((a3.tmod (y1.Up.length : Int)) + (y1.Up.length : Int))).tmod (y1.Up.length : Int)))]) (caps := [some (sP (kR f_api_Lattice) (⟨y1.Names, y1.Up⟩ : api_Lattice)), none]) (kn := [70300]) (rest := []) (R' := [.box 10 4 [.d kB y46.1]]) (out' := .d ((kI .i64).sig y46.2)) [(70300, 10)] [] [0] [] [0] rfl tm (reticentlaw01_LatticeLaws_2.ok hy46) rfl b43 (oE1 tm (oE1 tm oE0)) rfl rfl rfl rfl rfl rfl rfl rfl) (s3 rfl rfl rfl) <| cgB (nf hp45) rfl rfl (oMv tm) (s1 rfl) <| cgB (nf hp45) rfl rfl (oMv tm) (s1 rfl) <| cgB (nf hp45) rfl rfl (oMv tm) (s1 rfl) <| cmgB (nf hp45) rfl rfl (oCallN (ins := [.d ((kI .i64).sig ((IntKind.i64.wrap ((a1.tmod (y1.Up.length : Int)) + (y1.Up.length : Int))).tmod (y1.Up.length : Int))), .d ((kI .i64).sig y19.2)]) (caps := [some (sP (kR f_api_Lattice) (⟨y1.Names, y1.Up⟩ : api_Lattice)), none]) (kn := [70300]) (rest := []) (R' := [.box 10 4 [.d kB y47.1]]) (out' := .d ((kI .i64).sig y47.2)) [(70300, 10)] [] [0] [] [0] rfl tm (reticentlaw01_LatticeLaws_2.ok hy47) rfl b43 (oE1 tm (oE1 tm oE0)) rfl rfl rfl rfl rfl rfl rfl rfl) (s3 rfl rfl rfl) <| cgB (nf hp45) rfl rfl (oNe rfl tm tm) (s2 rfl rfl) <| cp (oPkF (nf hp45) tm tm) (s2 rfl rfl) <| cp (oMv tm) (s1 rfl) <| cgB (nf hp48) rfl rfl (oMv tm) (s1 rfl) <| cgB (nf hp48) rfl rfl (oMv tm) (s1 rfl) <| cgB (nf hp48) rfl rfl (oMv tm) (s1 rfl) <| cmgB (nf hp48) rfl rfl (oCallN (ins := [.d ((kI .i64).sig ((IntKind.i64.wrap ((a1.tmod (y1.Up.length : Int)) + (y1.Up.length : Int))).tmod (y1.Up.length : Int))), .d ((kI .i64).sig y18.2)]) (caps := [some (sP (kR f_api_Lattice) (⟨y1.Names, y1.Up⟩ : api_Lattice)), none]) (kn := [70300]) (rest := []) (R' := [.box 10 4 [.d kB y49.1]]) (out' := .d ((kI .i64).sig y49.2)) [(70300, 10)] [] [0] [] [0] rfl tm (reticentlaw01_LatticeLaws_1.ok hy49) rfl b42 (oE1 tm (oE1 tm oE0)) rfl rfl rfl rfl rfl rfl rfl rfl) (s3 rfl rfl rfl) <| cgB (nf hp48) rfl rfl (oMv tm) (s1 rfl) <| cgB (nf hp48) rfl rfl (oNe rfl tm tm) (s2 rfl rfl) <| cp (oPkF (nf hp48) tm tm) (s2 rfl rfl) <| cp (oMv tm) (s1 rfl) <| cgB (nf hp50) rfl rfl (oMv tm) (s1 rfl) <| cgB (nf hp50) rfl rfl (oMv tm) (s1 rfl) <| cgB (nf hp50) rfl rfl (oMv tm) (s1 rfl) <| cmgB (nf hp50) rfl rfl (oCallN (ins := [.d ((kI .i64).sig ((IntKind.i64.wrap ((a1.tmod (y1.Up.length : Int)) + (y1.Up.length : Int))).tmod (y1.Up.length : Int))), .d ((kI .i64).sig y16.2)]) (caps := [some (sP (kR f_api_Lattice) (⟨y1.Names, y1.Up⟩ : api_Lattice)), none]) (kn := [70300]) (rest := []) (R' := [.box 10 4 [.d kB y51.1]]) (out' := .d ((kI .i64).sig y51.2)) [(70300, 10)] [] [0] [] [0] rfl tm (reticentlaw01_LatticeLaws_2.ok hy51) rfl b43 (oE1 tm (oE1 tm oE0)) rfl rfl rfl rfl rfl rfl rfl rfl) (s3 rfl rfl rfl) <| cgB (nf hp50) rfl rfl (oMv tm) (s1 rfl) <| cgB (nf hp50) rfl rfl (oNe rfl tm tm) (s2 rfl rfl) <| cp (oPkF (nf hp50) tm tm) (s2 rfl rfl) <| cp (oMv tm) (s1 rfl) <| cgB (nf hp52) rfl rfl (oMv tm) (s1 rfl) <| cgB (nf hp52) rfl rfl (oMv tm) (s1 rfl) <| cgB (nf hp52) rfl rfl (oMv tm) (s1 rfl) <| cmgB (nf hp52) rfl rfl (oCallN (ins := [.d ((kI .i64).sig ((IntKind.i64.wrap ((a1.tmod (y1.Up.length : Int)) + (y1.Up.length : Int))).tmod (y1.Up.length : Int))), .d ((kI .i64).sig ((IntKind.i64.wrap ((a1.tmod (y1.Up.length : Int)) + (y1.Up.length : Int))).tmod (y1.Up.length : Int)))]) (caps := [some (sP (kR f_api_Lattice) (⟨y1.Names, y1.Up⟩ : api_Lattice)), none]) (kn := [70300]) (rest := []) (R' := [.box 10 4 [.d kB y53.1]]) (out' := .d ((kI .i64).sig y53.2)) [(70300, 10)] [] [0] [] [0] rfl tm (reticentlaw01_LatticeLaws_1.ok hy53) rfl b42 (oE1 tm (oE1 tm oE0)) rfl rfl rfl rfl rfl rfl rfl rfl) (s3 rfl rfl rfl) <| cgB (nf hp52) rfl rfl (oMv tm) (s1 rfl) <| cgB (nf hp52) rfl rfl (oNe rfl tm tm) (s2 rfl rfl) <| cp (oPkF (nf hp52) tm tm) (s2 rfl rfl) <| cp (oMv tm) (s1 rfl) <| cgB (nf hp54) rfl rfl (oMv tm) (s1 rfl) <| cgB (nf hp54) rfl rfl (oMv tm) (s1 rfl) <| cgB (nf hp54) rfl rfl (oMv tm) (s1 rfl) <| cmgB (nf hp54) rfl rfl (oCallN (ins := [.d ((kI .i64).sig ((IntKind.i64.wrap ((a1.tmod (y1.Up.length : Int)) + (y1.Up.length : Int))).tmod (y1.Up.length : Int))), .d ((kI .i64).sig ((IntKind.i64.wrap ((a1.tmod (y1.Up.length : Int)) + (y1.Up.length : Int))).tmod (y1.Up.length : Int)))]) (caps := [some (sP (kR f_api_Lattice) (⟨y1.Names, y1.Up⟩ : api_Lattice)), none]) (kn := [70300]) (rest := []) (R' := [.box 10 4 [.d kB y55.1]]) (out' := .d ((kI .i64).sig y55.2)) [(70300, 10)] [] [0] [] [0] rfl tm (reticentlaw01_LatticeLaws_2.ok hy55) rfl b43 (oE1 tm (oE1 tm oE0)) rfl rfl rfl rfl rfl rfl rfl rfl) (s3 rfl rfl rfl) <| cgB (nf hp54) rfl rfl (oMv tm) (s1 rfl) <| cgB (nf hp54) rfl rfl (oNe rfl tm tm) (s2 rfl rfl) <| cp (oPkF (nf hp54) tm tm) (s2 rfl rfl) <| .nil) (by kernel_rfl) ?_
                      exact pJ2 _ _ (so h) ⟨rfl, rfl, rfl, rfl, rfl, rfl, rfl, rfl, rfl, trivial⟩ rfl
                    · refine rg (cp (oMv tm) (s1 rfl) <| cp (oMv tm) (s1 rfl) <| cp (oMv tm) (s1 rfl) <| cp (oMv tm) (s1 rfl) <| cm (oCallN (ins := [.d ((kI .i64).sig ((IntKind.i64.wrap ((a2.tmod (y1.Up.length : Int)) + (y1.Up.length : Int))).tmod (y1.Up.length : Int))), .d ((kI .i64).sig ((IntKind.i64.wrap ((a1.tmod (y1.Up.length : Int)) + (y1.Up.length : Int))).tmod (y1.Up.length : Int)))]) (caps := [some (sP (kR f_api_Lattice) (⟨y1.Names, y1.Up⟩ : api_Lattice)), none]) (kn := [70300]) (rest := []) (R' := [.box 10 4 [.d kB y39.1]]) (out' := .d ((kI .i64).sig y39.2)) [(70300, 10)] [] [0] [] [0] rfl tm (reticentlaw01_LatticeLaws_1.ok hy39) rfl b42 (oE1 tm (oE1 tm oE0)) rfl rfl rfl rfl rfl rfl rfl rfl) (s3 rfl rfl rfl) <| cp (oNe rfl tm tm) (s2 rfl rfl) <| cp (oMv tm) (s1 rfl) <| cgB (nf hp40) rfl rfl (oMv tm) (s1 rfl) <| cgB (nf hp40) rfl rfl (oMv tm) (s1 rfl) <| cgB (nf hp40) rfl rfl (oMv tm) (s1 rfl) <| cgB (nf hp40) rfl rfl (oMv tm) (s1 rfl) <| cmgB (nf hp40) rfl rfl (oCallN (ins := [.d ((kI .i64).sig ((IntKind.i64.wrap ((a2.tmod (y1.Up.length : Int)) + (y1.Up.length : Int))).tmod (y1.Up.length : Int))), .d ((kI .i64).sig ((IntKind.i64.wrap ((a1.tmod (y1.Up.length : Int)) + (y1.Up.length : Int))).tmod (y1.Up.length : Int)))]) (caps := [some (sP (kR f_api_Lattice) (⟨y1.Names, y1.Up⟩ : api_Lattice)), none]) (kn := [70300]) (rest := []) (R' := [.box 10 4 [.d kB y41.1]]) (out' := .d ((kI .i64).sig y41.2)) [(70300, 10)] [] [0] [] [0] rfl tm (reticentlaw01_LatticeLaws_2.ok hy41) rfl b43 (oE1 tm (oE1 tm oE0)) rfl rfl rfl rfl rfl rfl rfl rfl) (s3 rfl rfl rfl) <| cgB (nf hp40) rfl rfl (oNe rfl tm tm) (s2 rfl rfl) <| cp (oPkF (nf hp40) tm tm) (s2 rfl rfl) <| cp (oMv tm) (s1 rfl) <| cgB (nf hp42) rfl rfl (oMv tm) (s1 rfl) <| cgB (nf hp42) rfl rfl (oMv tm) (s1 rfl) <| cgB (nf hp42) rfl rfl (oMv tm) (s1 rfl) <| cmgB (nf hp42) rfl rfl (oCallN (ins := [.d ((kI .i64).sig y16.2), .d ((kI .i64).sig ((IntKind.i64.wrap ((a3.tmod (y1.Up.length : Int)) + (y1.Up.length : Int))).tmod (y1.Up.length : Int)))]) (caps := [some (sP (kR f_api_Lattice) (⟨y1.Names, y1.Up⟩ : api_Lattice)), none]) (kn := [70300]) (rest := []) (R' := [.box 10 4 [.d kB y43.1]]) (out' := .d ((kI .i64).sig y43.2)) [(70300, 10)] [] [0] [] [0] rfl tm (reticentlaw01_LatticeLaws_1.ok hy43) rfl b42 (oE1 tm (oE1 tm oE0)) rfl rfl rfl rfl rfl rfl rfl rfl) (s3 rfl rfl rfl) <| cgB (nf hp42) rfl rfl (oMv tm) (s1 rfl) <| cgB (nf hp42) rfl rfl (oMv tm) (s1 rfl) <| cgB (nf hp42) rfl rfl (oMv tm) (s1 rfl) <| cmgB (nf hp42) rfl rfl (oCallN (ins := [.d ((kI .i64).sig ((IntKind.i64.wrap ((a1.tmod (y1.Up.length : Int)) + (y1.Up.length : Int))).tmod (y1.Up.length : Int))), .d ((kI .i64).sig y17.2)]) (caps := [some (sP (kR f_api_Lattice) (⟨y1.Names, y1.Up⟩ : api_Lattice)), none]) (kn := [70300]) (rest := []) (R' := [.box 10 4 [.d kB y44.1]]) (out' := .d ((kI .i64).sig y44.2)) [(70300, 10)] [] [0] [] [0] rfl tm (reticentlaw01_LatticeLaws_1.ok hy44) rfl b42 (oE1 tm (oE1 tm oE0)) rfl rfl rfl rfl rfl rfl rfl rfl) (s3 rfl rfl rfl) <| cgB (nf hp42) rfl rfl (oNe rfl tm tm) (s2 rfl rfl) <| cp (oPkF (nf hp42) tm tm) (s2 rfl rfl) <| cp (oMv tm) (s1 rfl) <| cgB (nf hp45) rfl rfl (oMv tm) (s1 rfl) <| cgB (nf hp45) rfl rfl (oMv tm) (s1 rfl) <| cgB (nf hp45) rfl rfl (oMv tm) (s1 rfl) <| cmgB (nf hp45) rfl rfl (oCallN (ins := [.d ((kI .i64).sig y18.2), .d ((kI .i64).sig ((IntKind.i64.wrap ((a3.tmod (y1.Up.length : Int)) + (y1.Up.length : Int))).tmod (y1.Up.length : Int)))]) (caps := [some (sP (kR f_api_Lattice) (⟨y1.Names, y1.Up⟩ : api_Lattice)), none]) (kn := [70300]) (rest := []) (R' := [.box 10 4 [.d kB y46.1]]) (out' := .d ((kI .i64).sig y46.2)) [(70300, 10)] [] [0] [] [0] rfl tm (reticentlaw01_LatticeLaws_2.ok hy46) rfl b43 (oE1 tm (oE1 tm oE0)) rfl rfl rfl rfl rfl rfl rfl rfl) (s3 rfl rfl rfl) <| cgB (nf hp45) rfl rfl (oMv tm) (s1 rfl) <| cgB (nf hp45) rfl rfl (oMv tm) (s1 rfl) <| cgB (nf hp45) rfl rfl (oMv tm) (s1 rfl) <| cmgB (nf hp45) rfl rfl (oCallN (ins := [.d ((kI .i64).sig ((IntKind.i64.wrap ((a1.tmod (y1.Up.length : Int)) + (y1.Up.length : Int))).tmod (y1.Up.length : Int))), .d ((kI .i64).sig y19.2)]) (caps := [some (sP (kR f_api_Lattice) (⟨y1.Names, y1.Up⟩ : api_Lattice)), none]) (kn := [70300]) (rest := []) (R' := [.box 10 4 [.d kB y47.1]]) (out' := .d ((kI .i64).sig y47.2)) [(70300, 10)] [] [0] [] [0] rfl tm (reticentlaw01_LatticeLaws_2.ok hy47) rfl b43 (oE1 tm (oE1 tm oE0)) rfl rfl rfl rfl rfl rfl rfl rfl) (s3 rfl rfl rfl) <| cgB (nf hp45) rfl rfl (oNe rfl tm tm) (s2 rfl rfl) <| cp (oPkF (nf hp45) tm tm) (s2 rfl rfl) <| cp (oMv tm) (s1 rfl) <| cgB (nf hp48) rfl rfl (oMv tm) (s1 rfl) <| cgB (nf hp48) rfl rfl (oMv tm) (s1 rfl) <| cgB (nf hp48) rfl rfl (oMv tm) (s1 rfl) <| cmgB (nf hp48) rfl rfl (oCallN (ins := [.d ((kI .i64).sig ((IntKind.i64.wrap ((a1.tmod (y1.Up.length : Int)) + (y1.Up.length : Int))).tmod (y1.Up.length : Int))), .d ((kI .i64).sig y18.2)]) (caps := [some (sP (kR f_api_Lattice) (⟨y1.Names, y1.Up⟩ : api_Lattice)), none]) (kn := [70300]) (rest := []) (R' := [.box 10 4 [.d kB y49.1]]) (out' := .d ((kI .i64).sig y49.2)) [(70300, 10)] [] [0] [] [0] rfl tm (reticentlaw01_LatticeLaws_1.ok hy49) rfl b42 (oE1 tm (oE1 tm oE0)) rfl rfl rfl rfl rfl rfl rfl rfl) (s3 rfl rfl rfl) <| cgB (nf hp48) rfl rfl (oMv tm) (s1 rfl) <| cgB (nf hp48) rfl rfl (oNe rfl tm tm) (s2 rfl rfl) <| cp (oPkF (nf hp48) tm tm) (s2 rfl rfl) <| cp (oMv tm) (s1 rfl) <| cgB (nf hp50) rfl rfl (oMv tm) (s1 rfl) <| cgB (nf hp50) rfl rfl (oMv tm) (s1 rfl) <| cgB (nf hp50) rfl rfl (oMv tm) (s1 rfl) <| cmgB (nf hp50) rfl rfl (oCallN (ins := [.d ((kI .i64).sig ((IntKind.i64.wrap ((a1.tmod (y1.Up.length : Int)) + (y1.Up.length : Int))).tmod (y1.Up.length : Int))), .d ((kI .i64).sig y16.2)]) (caps := [some (sP (kR f_api_Lattice) (⟨y1.Names, y1.Up⟩ : api_Lattice)), none]) (kn := [70300]) (rest := []) (R' := [.box 10 4 [.d kB y51.1]]) (out' := .d ((kI .i64).sig y51.2)) [(70300, 10)] [] [0] [] [0] rfl tm (reticentlaw01_LatticeLaws_2.ok hy51) rfl b43 (oE1 tm (oE1 tm oE0)) rfl rfl rfl rfl rfl rfl rfl rfl) (s3 rfl rfl rfl) <| cgB (nf hp50) rfl rfl (oMv tm) (s1 rfl) <| cgB (nf hp50) rfl rfl (oNe rfl tm tm) (s2 rfl rfl) <| cp (oPkF (nf hp50) tm tm) (s2 rfl rfl) <| cp (oMv tm) (s1 rfl) <| cgB (nf hp52) rfl rfl (oMv tm) (s1 rfl) <| cgB (nf hp52) rfl rfl (oMv tm) (s1 rfl) <| cgB (nf hp52) rfl rfl (oMv tm) (s1 rfl) <| cmgB (nf hp52) rfl rfl (oCallN (ins := [.d ((kI .i64).sig ((IntKind.i64.wrap ((a1.tmod (y1.Up.length : Int)) + (y1.Up.length : Int))).tmod (y1.Up.length : Int))), .d ((kI .i64).sig ((IntKind.i64.wrap ((a1.tmod (y1.Up.length : Int)) + (y1.Up.length : Int))).tmod (y1.Up.length : Int)))]) (caps := [some (sP (kR f_api_Lattice) (⟨y1.Names, y1.Up⟩ : api_Lattice)), none]) (kn := [70300]) (rest := []) (R' := [.box 10 4 [.d kB y53.1]]) (out' := .d ((kI .i64).sig y53.2)) [(70300, 10)] [] [0] [] [0] rfl tm (reticentlaw01_LatticeLaws_1.ok hy53) rfl b42 (oE1 tm (oE1 tm oE0)) rfl rfl rfl rfl rfl rfl rfl rfl) (s3 rfl rfl rfl) <| cgB (nf hp52) rfl rfl (oMv tm) (s1 rfl) <| cgB (nf hp52) rfl rfl (oNe rfl tm tm) (s2 rfl rfl) <| cp (oPkF (nf hp52) tm tm) (s2 rfl rfl) <| cp (oMv tm) (s1 rfl) <| csB (nt hp54) rfl rfl <| csB (nt hp54) rfl rfl <| csB (nt hp54) rfl rfl <| csB (nt hp54) rfl rfl <| csB (nt hp54) rfl rfl <| csB (nt hp54) rfl rfl <| cp (oPkT (nt hp54) tm cB) (s1 rfl) <| .nil) (by kernel_rfl) ?_
                      exact pJ2 _ _ (so h) ⟨rfl, rfl, rfl, rfl, rfl, rfl, rfl, rfl, rfl, trivial⟩ rfl
                  · refine rg (cp (oMv tm) (s1 rfl) <| cp (oMv tm) (s1 rfl) <| cp (oMv tm) (s1 rfl) <| cp (oMv tm) (s1 rfl) <| cm (oCallN (ins := [.d ((kI .i64).sig ((IntKind.i64.wrap ((a2.tmod (y1.Up.length : Int)) + (y1.Up.length : Int))).tmod (y1.Up.length : Int))), .d ((kI .i64).sig ((IntKind.i64.wrap ((a1.tmod (y1.Up.length : Int)) + (y1.Up.length : Int))).tmod (y1.Up.length : Int)))]) (caps := [some (sP (kR f_api_Lattice) (⟨y1.Names, y1.Up⟩ : api_Lattice)), none]) (kn := [70300]) (rest := []) (R' := [.box 10 4 [.d kB y39.1]]) (out' := .d ((kI .i64).sig y39.2)) [(70300, 10)] [] [0] [] [0] rfl tm (reticentlaw01_LatticeLaws_1.ok hy39) rfl b42 (oE1 tm (oE1 tm oE0)) rfl rfl rfl rfl rfl rfl rfl rfl) (s3 rfl rfl rfl) <| cp (oNe rfl tm tm) (s2 rfl rfl) <| cp (oMv tm) (s1 rfl) <| cgB (nf hp40) rfl rfl (oMv tm) (s1 rfl) <| cgB (nf hp40) rfl rfl (oMv tm) (s1 rfl) <| cgB (nf hp40) rfl rfl (oMv tm) (s1 rfl) <| cgB (nf hp40) rfl rfl (oMv tm) (s1 rfl) <| cmgB (nf hp40) rfl rfl (oCallN (ins := [.d ((kI .i64).sig ((IntKind.i64.wrap ((a2.tmod (y1.Up.length : Int)) + (y1.Up.length : Int))).tmod (y1.Up.length : Int))), .d ((kI .i64).sig ((IntKind.i64.wrap ((a1.tmod (y1.Up.length : Int)) + (y1.Up.length : Int))).tmod (y1.Up.length : Int)))]) (caps := [some (sP (kR f_api_Lattice) (⟨y1.Names, y1.Up⟩ : api_Lattice)), none]) (kn := [70300]) (rest := []) (R' := [.box 10 4 [.d kB y41.1]]) (out' := .d ((kI .i64).sig y41.2)) [(70300, 10)] [] [0] [] [0] rfl tm (reticentlaw01_LatticeLaws_2.ok hy41) rfl b43 (oE1 tm (oE1 tm oE0)) rfl rfl rfl rfl rfl rfl rfl rfl) (s3 rfl rfl rfl) <| cgB (nf hp40) rfl rfl (oNe rfl tm tm) (s2 rfl rfl) <| cp (oPkF (nf hp40) tm tm) (s2 rfl rfl) <| cp (oMv tm) (s1 rfl) <| cgB (nf hp42) rfl rfl (oMv tm) (s1 rfl) <| cgB (nf hp42) rfl rfl (oMv tm) (s1 rfl) <| cgB (nf hp42) rfl rfl (oMv tm) (s1 rfl) <| cmgB (nf hp42) rfl rfl (oCallN (ins := [.d ((kI .i64).sig y16.2), .d ((kI .i64).sig ((IntKind.i64.wrap ((a3.tmod (y1.Up.length : Int)) + (y1.Up.length : Int))).tmod (y1.Up.length : Int)))]) (caps := [some (sP (kR f_api_Lattice) (⟨y1.Names, y1.Up⟩ : api_Lattice)), none]) (kn := [70300]) (rest := []) (R' := [.box 10 4 [.d kB y43.1]]) (out' := .d ((kI .i64).sig y43.2)) [(70300, 10)] [] [0] [] [0] rfl tm (reticentlaw01_LatticeLaws_1.ok hy43) rfl b42 (oE1 tm (oE1 tm oE0)) rfl rfl rfl rfl rfl rfl rfl rfl) (s3 rfl rfl rfl) <| cgB (nf hp42) rfl rfl (oMv tm) (s1 rfl) <| cgB (nf hp42) rfl rfl (oMv tm) (s1 rfl) <| cgB (nf hp42) rfl rfl (oMv tm) (s1 rfl) <| cmgB (nf hp42) rfl rfl (oCallN (ins := [.d ((kI .i64).sig ((IntKind.i64.wrap ((a1.tmod (y1.Up.length : Int)) + (y1.Up.length : Int))).tmod (y1.Up.length : Int))), .d ((kI .i64).sig y17.2)]) (caps := [some (sP (kR f_api_Lattice) (⟨y1.Names, y1.Up⟩ : api_Lattice)), none]) (kn := [70300]) (rest := []) (R' := [.box 10 4 [.d kB y44.1]]) (out' := .d ((kI .i64).sig y44.2)) [(70300, 10)] [] [0] [] [0] rfl tm (reticentlaw01_LatticeLaws_1.ok hy44) rfl b42 (oE1 tm (oE1 tm oE0)) rfl rfl rfl rfl rfl rfl rfl rfl) (s3 rfl rfl rfl) <| cgB (nf hp42) rfl rfl (oNe rfl tm tm) (s2 rfl rfl) <| cp (oPkF (nf hp42) tm tm) (s2 rfl rfl) <| cp (oMv tm) (s1 rfl) <| cgB (nf hp45) rfl rfl (oMv tm) (s1 rfl) <| cgB (nf hp45) rfl rfl (oMv tm) (s1 rfl) <| cgB (nf hp45) rfl rfl (oMv tm) (s1 rfl) <| cmgB (nf hp45) rfl rfl (oCallN (ins := [.d ((kI .i64).sig y18.2), .d ((kI .i64).sig ((IntKind.i64.wrap ((a3.tmod (y1.Up.length : Int)) + (y1.Up.length : Int))).tmod (y1.Up.length : Int)))]) (caps := [some (sP (kR f_api_Lattice) (⟨y1.Names, y1.Up⟩ : api_Lattice)), none]) (kn := [70300]) (rest := []) (R' := [.box 10 4 [.d kB y46.1]]) (out' := .d ((kI .i64).sig y46.2)) [(70300, 10)] [] [0] [] [0] rfl tm (reticentlaw01_LatticeLaws_2.ok hy46) rfl b43 (oE1 tm (oE1 tm oE0)) rfl rfl rfl rfl rfl rfl rfl rfl) (s3 rfl rfl rfl) <| cgB (nf hp45) rfl rfl (oMv tm) (s1 rfl) <| cgB (nf hp45) rfl rfl (oMv tm) (s1 rfl) <| cgB (nf hp45) rfl rfl (oMv tm) (s1 rfl) <| cmgB (nf hp45) rfl rfl (oCallN (ins := [.d ((kI .i64).sig ((IntKind.i64.wrap ((a1.tmod (y1.Up.length : Int)) + (y1.Up.length : Int))).tmod (y1.Up.length : Int))), .d ((kI .i64).sig y19.2)]) (caps := [some (sP (kR f_api_Lattice) (⟨y1.Names, y1.Up⟩ : api_Lattice)), none]) (kn := [70300]) (rest := []) (R' := [.box 10 4 [.d kB y47.1]]) (out' := .d ((kI .i64).sig y47.2)) [(70300, 10)] [] [0] [] [0] rfl tm (reticentlaw01_LatticeLaws_2.ok hy47) rfl b43 (oE1 tm (oE1 tm oE0)) rfl rfl rfl rfl rfl rfl rfl rfl) (s3 rfl rfl rfl) <| cgB (nf hp45) rfl rfl (oNe rfl tm tm) (s2 rfl rfl) <| cp (oPkF (nf hp45) tm tm) (s2 rfl rfl) <| cp (oMv tm) (s1 rfl) <| cgB (nf hp48) rfl rfl (oMv tm) (s1 rfl) <| cgB (nf hp48) rfl rfl (oMv tm) (s1 rfl) <| cgB (nf hp48) rfl rfl (oMv tm) (s1 rfl) <| cmgB (nf hp48) rfl rfl (oCallN (ins := [.d ((kI .i64).sig ((IntKind.i64.wrap ((a1.tmod (y1.Up.length : Int)) + (y1.Up.length : Int))).tmod (y1.Up.length : Int))), .d ((kI .i64).sig y18.2)]) (caps := [some (sP (kR f_api_Lattice) (⟨y1.Names, y1.Up⟩ : api_Lattice)), none]) (kn := [70300]) (rest := []) (R' := [.box 10 4 [.d kB y49.1]]) (out' := .d ((kI .i64).sig y49.2)) [(70300, 10)] [] [0] [] [0] rfl tm (reticentlaw01_LatticeLaws_1.ok hy49) rfl b42 (oE1 tm (oE1 tm oE0)) rfl rfl rfl rfl rfl rfl rfl rfl) (s3 rfl rfl rfl) <| cgB (nf hp48) rfl rfl (oMv tm) (s1 rfl) <| cgB (nf hp48) rfl rfl (oNe rfl tm tm) (s2 rfl rfl) <| cp (oPkF (nf hp48) tm tm) (s2 rfl rfl) <| cp (oMv tm) (s1 rfl) <| cgB (nf hp50) rfl rfl (oMv tm) (s1 rfl) <| cgB (nf hp50) rfl rfl (oMv tm) (s1 rfl) <| cgB (nf hp50) rfl rfl (oMv tm) (s1 rfl) <| cmgB (nf hp50) rfl rfl (oCallN (ins := [.d ((kI .i64).sig ((IntKind.i64.wrap ((a1.tmod (y1.Up.length : Int)) + (y1.Up.length : Int))).tmod (y1.Up.length : Int))), .d ((kI .i64).sig y16.2)]) (caps := [some (sP (kR f_api_Lattice) (⟨y1.Names, y1.Up⟩ : api_Lattice)), none]) (kn := [70300]) (rest := []) (R' := [.box 10 4 [.d kB y51.1]]) (out' := .d ((kI .i64).sig y51.2)) [(70300, 10)] [] [0] [] [0] rfl tm (reticentlaw01_LatticeLaws_2.ok hy51) rfl b43 (oE1 tm (oE1 tm oE0)) rfl rfl rfl rfl rfl rfl rfl rfl) (s3 rfl rfl rfl) <| cgB (nf hp50) rfl rfl (oMv tm) (s1 rfl) <| cgB (nf hp50) rfl rfl (oNe rfl tm tm) (s2 rfl rfl) <| cp (oPkF (nf hp50) tm tm) (s2 rfl rfl) <| cp (oMv tm) (s1 rfl) <| csB (nt hp52) rfl rfl <| csB (nt hp52) rfl rfl <| csB (nt hp52) rfl rfl <| csB (nt hp52) rfl rfl <| csB (nt hp52) rfl rfl <| csB (nt hp52) rfl rfl <| cp (oPkT (nt hp52) tm cB) (s1 rfl) <| cp (oMv tm) (s1 rfl) <| csB rfl rfl rfl <| csB rfl rfl rfl <| csB rfl rfl rfl <| csB rfl rfl rfl <| csB rfl rfl rfl <| csB rfl rfl rfl <| cp (oPkT rfl tm cB) (s1 rfl) <| .nil) (by kernel_rfl) ?_
                    exact pJ2 _ _ (so h) ⟨rfl, rfl, rfl, rfl, rfl, rfl, rfl, rfl, rfl, trivial⟩ rfl
                · refine rg (cp (oMv tm) (s1 rfl) <| cp (oMv tm) (s1 rfl) <| cp (oMv tm) (s1 rfl) <| cp (oMv tm) (s1 rfl) <| cm (oCallN (ins := [.d ((kI .i64).sig ((IntKind.i64.wrap ((a2.tmod (y1.Up.length : Int)) + (y1.Up.length : Int))).tmod (y1.Up.length : Int))), .d ((kI .i64).sig ((IntKind.i64.wrap ((a1.tmod (y1.Up.length : Int)) + (y1.Up.length : Int))).tmod (y1.Up.length : Int)))]) (caps := [some (sP (kR f_api_Lattice) (⟨y1.Names, y1.Up⟩ : api_Lattice)), none]) (kn := [70300]) (rest := []) (R' := [.box 10 4 [.d kB y39.1]]) (out' := .d ((kI .i64).sig y39.2)) [(70300, 10)] [] [0] [] [0] rfl tm (reticentlaw01_LatticeLaws_1.ok hy39) rfl b42 (oE1 tm (oE1 tm oE0)) rfl rfl rfl rfl rfl rfl rfl rfl) (s3 rfl rfl rfl) <| cp (oNe rfl tm tm) (s2 rfl rfl) <| cp (oMv tm) (s1 rfl) <| cgB (nf hp40) rfl rfl (oMv tm) (s1 rfl) <| cgB (nf hp40) rfl rfl (oMv tm) (s1 rfl) <| cgB (nf hp40) rfl rfl (oMv tm) (s1 rfl) <| cgB (nf hp40) rfl rfl (oMv tm) (s1 rfl) <| cmgB (nf hp40) rfl rfl (oCallN (ins := [.d ((kI .i64).sig ((IntKind.i64.wrap ((a2.tmod (y1.Up.length : Int)) + (y1.Up.length : Int))).tmod (y1.Up.length : Int))), .d ((kI .i64).sig ((IntKind.i64.wrap ((a1.tmod (y1.Up.length : Int)) + (y1.Up.length : Int))).tmod (y1.Up.length : Int)))]) (caps := [some (sP (kR f_api_Lattice) (⟨y1.Names, y1.Up⟩ : api_Lattice)), none]) (kn := [70300]) (rest := []) (R' := [.box 10 4 [.d kB y41.1]]) (out' := .d ((kI .i64).sig y41.2)) [(70300, 10)] [] [0] [] [0] rfl tm (reticentlaw01_LatticeLaws_2.ok hy41) rfl b43 (oE1 tm (oE1 tm oE0)) rfl rfl rfl rfl rfl rfl rfl rfl) (s3 rfl rfl rfl) <| cgB (nf hp40) rfl rfl (oNe rfl tm tm) (s2 rfl rfl) <| cp (oPkF (nf hp40) tm tm) (s2 rfl rfl) <| cp (oMv tm) (s1 rfl) <| cgB (nf hp42) rfl rfl (oMv tm) (s1 rfl) <| cgB (nf hp42) rfl rfl (oMv tm) (s1 rfl) <| cgB (nf hp42) rfl rfl (oMv tm) (s1 rfl) <| cmgB (nf hp42) rfl rfl (oCallN (ins := [.d ((kI .i64).sig y16.2), .d ((kI .i64).sig ((IntKind.i64.wrap ((a3.tmod (y1.Up.length : Int)) + (y1.Up.length : Int))).tmod (y1.Up.length : Int)))]) (caps := [some (sP (kR f_api_Lattice) (⟨y1.Names, y1.Up⟩ : api_Lattice)), none]) (kn := [70300]) (rest := []) (R' := [.box 10 4 [.d kB y43.1]]) (out' := .d ((kI .i64).sig y43.2)) [(70300, 10)] [] [0] [] [0] rfl tm (reticentlaw01_LatticeLaws_1.ok hy43) rfl b42 (oE1 tm (oE1 tm oE0)) rfl rfl rfl rfl rfl rfl rfl rfl) (s3 rfl rfl rfl) <| cgB (nf hp42) rfl rfl (oMv tm) (s1 rfl) <| cgB (nf hp42) rfl rfl (oMv tm) (s1 rfl) <| cgB (nf hp42) rfl rfl (oMv tm) (s1 rfl) <| cmgB (nf hp42) rfl rfl (oCallN (ins := [.d ((kI .i64).sig ((IntKind.i64.wrap ((a1.tmod (y1.Up.length : Int)) + (y1.Up.length : Int))).tmod (y1.Up.length : Int))), .d ((kI .i64).sig y17.2)]) (caps := [some (sP (kR f_api_Lattice) (⟨y1.Names, y1.Up⟩ : api_Lattice)), none]) (kn := [70300]) (rest := []) (R' := [.box 10 4 [.d kB y44.1]]) (out' := .d ((kI .i64).sig y44.2)) [(70300, 10)] [] [0] [] [0] rfl tm (reticentlaw01_LatticeLaws_1.ok hy44) rfl b42 (oE1 tm (oE1 tm oE0)) rfl rfl rfl rfl rfl rfl rfl rfl) (s3 rfl rfl rfl) <| cgB (nf hp42) rfl rfl (oNe rfl tm tm) (s2 rfl rfl) <| cp (oPkF (nf hp42) tm tm) (s2 rfl rfl) <| cp (oMv tm) (s1 rfl) <| cgB (nf hp45) rfl rfl (oMv tm) (s1 rfl) <| cgB (nf hp45) rfl rfl (oMv tm) (s1 rfl) <| cgB (nf hp45) rfl rfl (oMv tm) (s1 rfl) <| cmgB (nf hp45) rfl rfl (oCallN (ins := [.d ((kI .i64).sig y18.2), .d ((kI .i64).sig ((IntKind.i64.wrap ((a3.tmod (y1.Up.length : Int)) + (y1.Up.length : Int))).tmod (y1.Up.length : Int)))]) (caps := [some (sP (kR f_api_Lattice) (⟨y1.Names, y1.Up⟩ : api_Lattice)), none]) (kn := [70300]) (rest := []) (R' := [.box 10 4 [.d kB y46.1]]) (out' := .d ((kI .i64).sig y46.2)) [(70300, 10)] [] [0] [] [0] rfl tm (reticentlaw01_LatticeLaws_2.ok hy46) rfl b43 (oE1 tm (oE1 tm oE0)) rfl rfl rfl rfl rfl rfl rfl rfl) (s3 rfl rfl rfl) <| cgB (nf hp45) rfl rfl (oMv tm) (s1 rfl) <| cgB (nf hp45) rfl rfl (oMv tm) (s1 rfl) <| cgB (nf hp45) rfl rfl (oMv tm) (s1 rfl) <| cmgB (nf hp45) rfl rfl (oCallN (ins := [.d ((kI .i64).sig ((IntKind.i64.wrap ((a1.tmod (y1.Up.length : Int)) + (y1.Up.length : Int))).tmod (y1.Up.length : Int))), .d ((kI .i64).sig y19.2)]) (caps := [some (sP (kR f_api_Lattice) (⟨y1.Names, y1.Up⟩ : api_Lattice)), none]) (kn := [70300]) (rest := []) (R' := [.box 10 4 [.d kB y47.1]]) (out' := .d ((kI .i64).sig y47.2)) [(70300, 10)] [] [0] [] [0] rfl tm (reticentlaw01_LatticeLaws_2.ok hy47) rfl b43 (oE1 tm (oE1 tm oE0)) rfl rfl rfl rfl rfl rfl rfl rfl) (s3 rfl rfl rfl) <| cgB (nf hp45) rfl rfl (oNe rfl tm tm) (s2 rfl rfl) <| cp (oPkF (nf hp45) tm tm) (s2 rfl rfl) <| cp (oMv tm) (s1 rfl) <| cgB (nf hp48) rfl rfl (oMv tm) (s1 rfl) <| cgB (nf hp48) rfl rfl (oMv tm) (s1 rfl) <| cgB (nf hp48) rfl rfl (oMv tm) (s1 rfl) <| cmgB (nf hp48) rfl rfl (oCallN (ins := [.d ((kI .i64).sig ((IntKind.i64.wrap ((a1.tmod (y1.Up.length : Int)) + (y1.Up.length : Int))).tmod (y1.Up.length : Int))), .d ((kI .i64).sig y18.2)]) (caps := [some (sP (kR f_api_Lattice) (⟨y1.Names, y1.Up⟩ : api_Lattice)), none]) (kn := [70300]) (rest := []) (R' := [.box 10 4 [.d kB y49.1]]) (out' := .d ((kI .i64).sig y49.2)) [(70300, 10)] [] [0] [] [0] rfl tm (reticentlaw01_LatticeLaws_1.ok hy49) rfl b42 (oE1 tm (oE1 tm oE0)) rfl rfl rfl rfl rfl rfl rfl rfl) (s3 rfl rfl rfl) <| cgB (nf hp48) rfl rfl (oMv tm) (s1 rfl) <| cgB (nf hp48) rfl rfl (oNe rfl tm tm) (s2 rfl rfl) <| cp (oPkF (nf hp48) tm tm) (s2 rfl rfl) <| cp (oMv tm) (s1 rfl) <| csB (nt hp50) rfl rfl <| csB (nt hp50) rfl rfl <| csB (nt hp50) rfl rfl <| csB (nt hp50) rfl rfl <| csB (nt hp50) rfl rfl <| csB (nt hp50) rfl rfl <| cp (oPkT (nt hp50) tm cB) (s1 rfl) <| cp (oMv tm) (s1 rfl) <| csB rfl rfl rfl <| csB rfl rfl rfl <| csB rfl rfl rfl <| csB rfl rfl rfl <| csB rfl rfl rfl <| csB rfl rfl rfl <| cp (oPkT rfl tm cB) (s1 rfl) <| cp (oMv tm) (s1 rfl) <| csB rfl rfl rfl <| csB rfl rfl rfl <| csB rfl rfl rfl <| csB rfl rfl rfl <| csB rfl rfl rfl <| csB rfl rfl rfl <| cp (oPkT rfl tm cB) (s1 rfl) <| .nil) (by kernel_rfl) ?_
                  exact pJ2 _ _ (so h) ⟨rfl, rfl, rfl, rfl, rfl, rfl, rfl, rfl, rfl, trivial⟩ rfl
              · refine rg (cp (oMv tm) (s1 rfl) <| cp (oMv tm) (s1 rfl) <| cp (oMv tm) (s1 rfl) <| cp (oMv tm) (s1 rfl) <| cm (oCallN (ins := [.d ((kI .i64).sig ((IntKind.i64.wrap ((a2.tmod (y1.Up.length : Int)) + (y1.Up.length : Int))).tmod (y1.Up.length : Int))), .d ((kI .i64).sig ((IntKind.i64.wrap ((a1.tmod (y1.Up.length : Int)) + (y1.Up.length : Int))).tmod (y1.Up.length : Int)))]) (caps := [some (sP (kR f_api_Lattice) (⟨y1.Names, y1.Up⟩ : api_Lattice)), none]) (kn := [70300]) (rest := []) (R' := [.box 10 4 [.d kB y39.1]]) (out' := .d ((kI .i64).sig y39.2)) [(70300, 10)] [] [0] [] [0] rfl tm (reticentlaw01_LatticeLaws_1.ok hy39) rfl b42 (oE1 tm (oE1 tm oE0)) rfl rfl rfl rfl rfl rfl rfl rfl) (s3 rfl rfl rfl) <| cp (oNe rfl tm tm) (s2 rfl rfl) <| cp (oMv tm) (s1 rfl) <| cgB (nf hp40) rfl rfl (oMv tm) (s1 rfl) <| cgB (nf hp40) rfl rfl (oMv tm) (s1 rfl) <| cgB (nf hp40) rfl rfl (oMv tm) (s1 rfl) <| cgB (nf hp40) rfl rfl (oMv tm) (s1 rfl) <| cmgB (nf hp40) rfl rfl (oCallN (ins := [.d ((kI .i64).sig ((IntKind.i64.wrap ((a2.tmod (y1.Up.length : Int)) + (y1.Up.length : Int))).tmod (y1.Up.length : Int))), .d ((kI .i64).sig ((IntKind.i64.wrap ((a1.tmod (y1.Up.length : Int)) + (y1.Up.length : Int))).tmod (y1.Up.length : Int)))]) (caps := [some (sP (kR f_api_Lattice) (⟨y1.Names, y1.Up⟩ : api_Lattice)), none]) (kn := [70300]) (rest := []) (R' := [.box 10 4 [.d kB y41.1]]) (out' := .d ((kI .i64).sig y41.2)) [(70300, 10)] [] [0] [] [0] rfl tm (reticentlaw01_LatticeLaws_2.ok hy41) rfl b43 (oE1 tm (oE1 tm oE0)) rfl rfl rfl rfl rfl rfl rfl rfl) (s3 rfl rfl rfl) <| cgB (nf hp40) rfl rfl (oNe rfl tm tm) (s2 rfl rfl) <| cp (oPkF (nf hp40) tm tm) (s2 rfl rfl) <| cp (oMv tm) (s1 rfl) <| cgB (nf hp42) rfl rfl (oMv tm) (s1 rfl) <| cgB (nf hp42) rfl rfl (oMv tm) (s1 rfl) <| cgB (nf hp42) rfl rfl (oMv tm) (s1 rfl) <| cmgB (nf hp42) rfl rfl (oCallN (ins := [.d ((kI .i64).sig y16.2), .d ((kI .i64).sig ((IntKind.i64.wrap ((a3.tmod (y1.Up.length : Int)) + (y1.Up.length : Int))).tmod (y1.Up.length : Int)))]) (caps := [some (sP (kR f_api_Lattice) (⟨y1.Names, y1.Up⟩ : api_Lattice)), none]) (kn := [70300]) (rest := []) (R' := [.box 10 4 [.d kB y43.1]]) (out' := .d ((kI .i64).sig y43.2)) [(70300, 10)] [] [0] [] [0] rfl tm (reticentlaw01_LatticeLaws_1.ok hy43) rfl b42 (oE1 tm (oE1 tm oE0)) rfl rfl rfl rfl rfl rfl rfl rfl) (s3 rfl rfl rfl) <| cgB (nf hp42) rfl rfl (oMv tm) (s1 rfl) <| cgB (nf hp42) rfl rfl (oMv tm) (s1 rfl) <| cgB (nf hp42) rfl rfl (oMv tm) (s1 rfl) <| cmgB (nf hp42) rfl rfl (oCallN (ins := [.d ((kI .i64).sig ((IntKind.i64.wrap ((a1.tmod (y1.Up.length : Int)) + (y1.Up.length : Int))).tmod (y1.Up.length : Int))), .d ((kI .i64).sig y17.2)]) (caps := [some (sP (kR f_api_Lattice) (⟨y1.Names, y1.Up⟩ : api_Lattice)), none]) (kn := [70300]) (rest := []) (R' := [.box 10 4 [.d kB y44.1]]) (out' := .d ((kI .i64).sig y44.2)) [(70300, 10)] [] [0] [] [0] rfl tm (reticentlaw01_LatticeLaws_1.ok hy44) rfl b42 (oE1 tm (oE1 tm oE0)) rfl rfl rfl rfl rfl rfl rfl rfl) (s3 rfl rfl rfl) <| cgB (nf hp42) rfl rfl (oNe rfl tm tm) (s2 rfl rfl) <| cp (oPkF (nf hp42) tm tm) (s2 rfl rfl) <| cp (oMv tm) (s1 rfl) <| cgB (nf hp45) rfl rfl (oMv tm) (s1 rfl) <| cgB (nf hp45) rfl rfl (oMv tm) (s1 rfl) <| cgB (nf hp45) rfl rfl (oMv tm) (s1 rfl) <| cmgB (nf hp45) rfl rfl (oCallN (ins := [.d ((kI .i64).sig y18.2), .d ((kI .i64).sig ((IntKind.i64.wrap ((a3.tmod (y1.Up.length : Int)) + (y1.Up.length : Int))).tmod (y1.Up.length : Int)))]) (caps := [some (sP (kR f_api_Lattice) (⟨y1.Names, y1.Up⟩ : api_Lattice)), none]) (kn := [70300]) (rest := []) (R' := [.box 10 4 [.d kB y46.1]]) (out' := .d ((kI .i64).sig y46.2)) [(70300, 10)] [] [0] [] [0] rfl tm (reticentlaw01_LatticeLaws_2.ok hy46) rfl b43 (oE1 tm (oE1 tm oE0)) rfl rfl rfl rfl rfl rfl rfl rfl) (s3 rfl rfl rfl) <| cgB (nf hp45) rfl rfl (oMv tm) (s1 rfl) <| cgB (nf hp45) rfl rfl (oMv tm) (s1 rfl) <| cgB (nf hp45) rfl rfl (oMv tm) (s1 rfl) <| cmgB (nf hp45) rfl rfl (oCallN (ins := [.d ((kI .i64).sig ((IntKind.i64.wrap ((a1.tmod (y1.Up.length : Int)) + (y1.Up.length : Int))).tmod (y1.Up.length : Int))), .d ((kI .i64).sig y19.2)]) (caps := [some (sP (kR f_api_Lattice) (⟨y1.Names, y1.Up⟩ : api_Lattice)), none]) (kn := [70300]) (rest := []) (R' := [.box 10 4 [.d kB y47.1]]) (out' := .d ((kI .i64).sig y47.2)) [(70300, 10)] [] [0] [] [0] rfl tm (reticentlaw01_LatticeLaws_2.ok hy47) rfl b43 (oE1 tm (oE1 tm oE0)) rfl rfl rfl rfl rfl rfl rfl rfl) (s3 rfl rfl rfl) <| cgB (nf hp45) rfl rfl (oNe rfl tm tm) (s2 rfl rfl) <| cp (oPkF (nf hp45) tm tm) (s2 rfl rfl) <| cp (oMv tm) (s1 rfl) <| csB (nt hp48) rfl rfl <| csB (nt hp48) rfl rfl <| csB (nt hp48) rfl rfl <| csB (nt hp48) rfl rfl <| csB (nt hp48) rfl rfl <| csB (nt hp48) rfl rfl <| cp (oPkT (nt hp48) tm cB) (s1 rfl) <| cp (oMv tm) (s1 rfl) <| csB rfl rfl rfl <| csB rfl rfl rfl <| csB rfl rfl rfl <| csB rfl rfl rfl <| csB rfl rfl rfl <| csB rfl rfl rfl <| cp (oPkT rfl tm cB) (s1 rfl) <| cp (oMv tm) (s1 rfl) <| csB rfl rfl rfl <| csB rfl rfl rfl <| csB rfl rfl rfl <| csB rfl rfl rfl <| csB rfl rfl rfl <| csB rfl rfl rfl <| cp (oPkT rfl tm cB) (s1 rfl) <| cp (oMv tm) (s1 rfl) <| csB rfl rfl rfl <| csB rfl rfl rfl <| csB rfl rfl rfl <| csB rfl rfl rfl <| csB rfl rfl rfl <| csB rfl rfl rfl <| cp (oPkT rfl tm cB) (s1 rfl) <| .nil) (by kernel_rfl) ?_
                exact pJ2 _ _ (so h) ⟨rfl, rfl, rfl, rfl, rfl, rfl, rfl, rfl, rfl, trivial⟩ rfl
            · refine rg (cp (oMv tm) (s1 rfl) <| cp (oMv tm) (s1 rfl) <| cp (oMv tm) (s1 rfl) <| cp (oMv tm) (s1 rfl) <| cm (oCallN (ins := [.d ((kI .i64).sig ((IntKind.i64.wrap ((a2.tmod (y1.Up.length : Int)) + (y1.Up.length : Int))).tmod (y1.Up.length : Int))), .d ((kI .i64).sig ((IntKind.i64.wrap ((a1.tmod (y1.Up.length : Int)) + (y1.Up.length : Int))).tmod (y1.Up.length : Int)))]) (caps := [some (sP (kR f_api_Lattice) (⟨y1.Names, y1.Up⟩ : api_Lattice)), none]) (kn := [70300]) (rest := []) (R' := [.box 10 4 [.d kB y39.1]]) (out' := .d ((kI .i64).sig y39.2)) [(70300, 10)] [] [0] [] [0] rfl tm (reticentlaw01_LatticeLaws_1.ok hy39) rfl b42 (oE1 tm (oE1 tm oE0)) rfl rfl rfl rfl rfl rfl rfl rfl) (s3 rfl rfl rfl) <| cp (oNe rfl tm tm) (s2 rfl rfl) <| cp (oMv tm) (s1 rfl) <| cgB (nf hp40) rfl rfl (oMv tm) (s1 rfl) <| cgB (nf hp40) rfl rfl (oMv tm) (s1 rfl) <| cgB (nf hp40) rfl rfl (oMv tm) (s1 rfl) <| cgB (nf hp40) rfl rfl (oMv tm) (s1 rfl) <| cmgB (nf hp40) rfl rfl (oCallN (ins := [.d ((kI .i64).sig ((IntKind.i64.wrap ((a2.tmod (y1.Up.length : Int)) + (y1.Up.length : Int))).tmod (y1.Up.length : Int))), .d ((kI .i64).sig ((IntKind.i64.wrap ((a1.tmod (y1.Up.length : Int)) + (y1.Up.length : Int))).tmod (y1.Up.length : Int)))]) (caps := [some (sP (kR f_api_Lattice) (⟨y1.Names, y1.Up⟩ : api_Lattice)), none]) (kn := [70300]) (rest := []) (R' := [.box 10 4 [.d kB y41.1]]) (out' := .d ((kI .i64).sig y41.2)) [(70300, 10)] [] [0] [] [0] rfl tm (reticentlaw01_LatticeLaws_2.ok hy41) rfl b43 (oE1 tm (oE1 tm oE0)) rfl rfl rfl rfl rfl rfl rfl rfl) (s3 rfl rfl rfl) <| cgB (nf hp40) rfl rfl (oNe rfl tm tm) (s2 rfl rfl) <| cp (oPkF (nf hp40) tm tm) (s2 rfl rfl) <| cp (oMv tm) (s1 rfl) <| cgB (nf hp42) rfl rfl (oMv tm) (s1 rfl) <| cgB (nf hp42) rfl rfl (oMv tm) (s1 rfl) <| cgB (nf hp42) rfl rfl (oMv tm) (s1 rfl) <| cmgB (nf hp42) rfl rfl (oCallN (ins := [.d ((kI .i64).sig y16.2), .d ((kI .i64).sig ((IntKind.i64.wrap ((a3.tmod (y1.Up.length : Int)) + (y1.Up.length : Int))).tmod (y1.Up.length : Int)))]) (caps := [some (sP (kR f_api_Lattice) (⟨y1.Names, y1.Up⟩ : api_Lattice)), none]) (kn := [70300]) (rest := []) (R' := [.box 10 4 [.d kB y43.1]]) (out' := .d ((kI .i64).sig y43.2)) [(70300, 10)] [] [0] [] [0] rfl tm (reticentlaw01_LatticeLaws_1.ok hy43) rfl b42 (oE1 tm (oE1 tm oE0)) rfl rfl rfl rfl rfl rfl rfl rfl) (s3 rfl rfl rfl) <| cgB (nf hp42) rfl rfl (oMv tm) (s1 rfl) <| cgB (nf hp42) rfl rfl (oMv tm) (s1 rfl) <| cgB (nf hp42) rfl rfl (oMv tm) (s1 rfl) <| cmgB (nf hp42) rfl rfl (oCallN (ins := [.d ((kI .i64).sig ((IntKind.i64.wrap ((a1.tmod (y1.Up.length : Int)) + (y1.Up.length : Int))).tmod (y1.Up.length : Int))), .d ((kI .i64).sig y17.2)]) (caps := [some (sP (kR f_api_Lattice) (⟨y1.Names, y1.Up⟩ : api_Lattice)), none]) (kn := [70300]) (rest := []) (R' := [.box 10 4 [.d kB y44.1]]) (out' := .d ((kI .i64).sig y44.2)) [(70300, 10)] [] [0] [] [0] rfl tm (reticentlaw01_LatticeLaws_1.ok hy44) rfl b42 (oE1 tm (oE1 tm oE0)) rfl rfl rfl rfl rfl rfl rfl rfl) (s3 rfl rfl rfl) <| cgB (nf hp42) rfl rfl (oNe rfl tm tm) (s2 rfl rfl) <| cp (oPkF (nf hp42) tm tm) (s2 rfl rfl) <| cp (oMv tm) (s1 rfl) <| csB (nt hp45) rfl rfl <| csB (nt hp45) rfl rfl <| csB (nt hp45) rfl rfl <| csB (nt hp45) rfl rfl <| csB (nt hp45) rfl rfl <| csB (nt hp45) rfl rfl <| csB (nt hp45) rfl rfl <| csB (nt hp45) rfl rfl <| csB (nt hp45) rfl rfl <| cp (oPkT (nt hp45) tm cB) (s1 rfl) <| cp (oMv tm) (s1 rfl) <| csB rfl rfl rfl <| csB rfl rfl rfl <| csB rfl rfl rfl <| csB rfl rfl rfl <| csB rfl rfl rfl <| csB rfl rfl rfl <| cp (oPkT rfl tm cB) (s1 rfl) <| cp (oMv tm) (s1 rfl) <| csB rfl rfl rfl <| csB rfl rfl rfl <| csB rfl rfl rfl <| csB rfl rfl rfl <| csB rfl rfl rfl <| csB rfl rfl rfl <| cp (oPkT rfl tm cB) (s1 rfl) <| cp (oMv tm) (s1 rfl) <| csB rfl rfl rfl <| csB rfl rfl rfl <| csB rfl rfl rfl <| csB rfl rfl rfl <| csB rfl rfl rfl <| csB rfl rfl rfl <| cp (oPkT rfl tm cB) (s1 rfl) <| cp (oMv tm) (s1 rfl) <| csB rfl rfl rfl <| csB rfl rfl rfl <| csB rfl rfl rfl <| csB rfl rfl rfl <| csB rfl rfl rfl <| csB rfl rfl rfl <| cp (oPkT rfl tm cB) (s1 rfl) <| .nil) (by kernel_rfl) ?_
              exact pJ2 _ _ (so h) ⟨rfl, rfl, rfl, rfl, rfl, rfl, rfl, rfl, rfl, trivial⟩ rfl
          · refine rg (cp (oMv tm) (s1 rfl) <| cp (oMv tm) (s1 rfl) <| cp (oMv tm) (s1 rfl) <| cp (oMv tm) (s1 rfl) <| cm (oCallN (ins := [.d ((kI .i64).sig ((IntKind.i64.wrap ((a2.tmod (y1.Up.length : Int)) + (y1.Up.length : Int))).tmod (y1.Up.length : Int))), .d ((kI .i64).sig ((IntKind.i64.wrap ((a1.tmod (y1.Up.length : Int)) + (y1.Up.length : Int))).tmod (y1.Up.length : Int)))]) (caps := [some (sP (kR f_api_Lattice) (⟨y1.Names, y1.Up⟩ : api_Lattice)), none]) (kn := [70300]) (rest := []) (R' := [.box 10 4 [.d kB y39.1]]) (out' := .d ((kI .i64).sig y39.2)) [(70300, 10)] [] [0] [] [0] rfl tm (reticentlaw01_LatticeLaws_1.ok hy39) rfl b42 (oE1 tm (oE1 tm oE0)) rfl rfl rfl rfl rfl rfl rfl rfl) (s3 rfl rfl rfl) <| cp (oNe rfl tm tm) (s2 rfl rfl) <| cp (oMv tm) (s1 rfl) <| cgB (nf hp40) rfl rfl (oMv tm) (s1 rfl) <| cgB (nf hp40) rfl rfl (oMv tm) (s1 rfl) <| cgB (nf hp40) rfl rfl (oMv tm) (s1 rfl) <| cgB (nf hp40) rfl rfl (oMv tm) (s1 rfl) <| cmgB (nf hp40) rfl rfl (oCallN (ins := [.d ((kI .i64).sig ((IntKind.i64.wrap ((a2.tmod (y1.Up.length : Int)) + (y1.Up.length : Int))).tmod (y1.Up.length : Int))), .d ((kI .i64).sig ((IntKind.i64.wrap ((a1.tmod (y1.Up.length : Int)) + (y1.Up.length : Int))).tmod (y1.Up.length : Int)))]) (caps := [some (sP (kR f_api_Lattice) (⟨y1.Names, y1.Up⟩ : api_Lattice)), none]) (kn := [70300]) (rest := []) (R' := [.box 10 4 [.d kB y41.1]]) (out' := .d ((kI .i64).sig y41.2)) [(70300, 10)] [] [0] [] [0] rfl tm (reticentlaw01_LatticeLaws_2.ok hy41) rfl b43 (oE1 tm (oE1 tm oE0)) rfl rfl rfl rfl rfl rfl rfl rfl) (s3 rfl rfl rfl) <| cgB (nf hp40) rfl rfl (oNe rfl tm tm) (s2 rfl rfl) <| cp (oPkF (nf hp40) tm tm) (s2 rfl rfl) <| cp (oMv tm) (s1 rfl) <| csB (nt hp42) rfl rfl <| csB (nt hp42) rfl rfl <| csB (nt hp42) rfl rfl <| csB (nt hp42) rfl rfl <| csB (nt hp42) rfl rfl <| csB (nt hp42) rfl rfl <| csB (nt hp42) rfl rfl <| csB (nt hp42) rfl rfl <| csB (nt hp42) rfl rfl <| cp (oPkT (nt hp42) tm cB) (s1 rfl) <| cp (oMv tm) (s1 rfl) <| csB rfl rfl rfl <| csB rfl rfl rfl <| csB rfl rfl rfl <| csB rfl rfl rfl <| csB rfl rfl rfl <| csB rfl rfl rfl <| csB rfl rfl rfl <| csB rfl rfl rfl <| csB rfl rfl rfl <| cp (oPkT rfl tm cB) (s1 rfl) <| cp (oMv tm) (s1 rfl) <| csB rfl rfl rfl <| csB rfl rfl rfl <| csB rfl rfl rfl <| csB rfl rfl rfl <| csB rfl rfl rfl <| csB rfl rfl rfl <| cp (oPkT rfl tm cB) (s1 rfl) <| cp (oMv tm) (s1 rfl) <| csB rfl rfl rfl <| csB rfl rfl rfl <| csB rfl rfl rfl <| csB rfl rfl rfl <| csB rfl rfl rfl <| csB rfl rfl rfl <| cp (oPkT rfl tm cB) (s1 rfl) <| cp (oMv tm) (s1 rfl) <| csB rfl rfl rfl <| csB rfl rfl rfl <| csB rfl rfl rfl <| csB rfl rfl rfl <| csB rfl rfl rfl <| csB rfl rfl rfl <| cp (oPkT rfl tm cB) (s1 rfl) <| cp (oMv tm) (s1 rfl) <| csB rfl rfl rfl <| csB rfl rfl rfl <| csB rfl rfl rfl <| csB rfl rfl rfl <| csB rfl rfl rfl <| csB rfl rfl rfl <| cp (oPkT rfl tm cB) (s1 rfl) <| .nil) (by kernel_rfl) ?_
            exact pJ2 _ _ (so h) ⟨rfl, rfl, rfl, rfl, rfl, rfl, rfl, rfl, rfl, trivial⟩ rfl
        · refine rg (cp (oMv tm) (s1 rfl) <| cp (oMv tm) (s1 rfl) <| cp (oMv tm) (s1 rfl) <| cp (oMv tm) (s1 rfl) <| cm (oCallN (ins := [.d ((kI .i64).sig ((IntKind.i64.wrap ((a2.tmod (y1.Up.length : Int)) + (y1.Up.length : Int))).tmod (y1.Up.length : Int))), .d ((kI .i64).sig ((IntKind.i64.wrap ((a1.tmod (y1.Up.length : Int)) + (y1.Up.length : Int))).tmod (y1.Up.length : Int)))]) (caps := [some (sP (kR f_api_Lattice) (⟨y1.Names, y1.Up⟩ : api_Lattice)), none]) (kn := [70300]) (rest := []) (R' := [.box 10 4 [.d kB y39.1]]) (out' := .d ((kI .i64).sig y39.2)) [(70300, 10)] [] [0] [] [0] rfl tm (reticentlaw01_LatticeLaws_1.ok hy39) rfl b42 (oE1 tm (oE1 tm oE0)) rfl rfl rfl rfl rfl rfl rfl rfl) (s3 rfl rfl rfl) <| cp (oNe rfl tm tm) (s2 rfl rfl) <| cp (oMv tm) (s1 rfl) <| csB (nt hp40) rfl rfl <| csB (nt hp40) rfl rfl <| csB (nt hp40) rfl rfl <| csB (nt hp40) rfl rfl <| csB (nt hp40) rfl rfl <| csB (nt hp40) rfl rfl <| cp (oPkT (nt hp40) tm cB) (s1 rfl) <| cp (oMv tm) (s1 rfl) <| csB rfl rfl rfl <| csB rfl rfl rfl <| csB rfl rfl rfl <| csB rfl rfl rfl <| csB rfl rfl rfl <| csB rfl rfl rfl <| csB rfl rfl rfl <| csB rfl rfl rfl <| csB rfl rfl rfl <| cp (oPkT rfl tm cB) (s1 rfl) <| cp (oMv tm) (s1 rfl) <| csB rfl rfl rfl <| csB rfl rfl rfl <| csB rfl rfl rfl <| csB rfl rfl rfl <| csB rfl rfl rfl <| csB rfl rfl rfl <| csB rfl rfl rfl <| csB rfl rfl rfl <| csB rfl rfl rfl <| cp (oPkT rfl tm cB) (s1 rfl) <| cp (oMv tm) (s1 rfl) <| csB rfl rfl rfl <| csB rfl rfl rfl <| csB rfl rfl rfl <| csB rfl rfl rfl <| csB rfl rfl rfl <| csB rfl rfl rfl <| cp (oPkT rfl tm cB) (s1 rfl) <| cp (oMv tm) (s1 rfl) <| csB rfl rfl rfl <| csB rfl rfl rfl <| csB rfl rfl rfl <| csB rfl rfl rfl <| csB rfl rfl rfl <| csB rfl rfl rfl <| cp (oPkT rfl tm cB) (s1 rfl) <| cp (oMv tm) (s1 rfl) <| csB rfl rfl rfl <| csB rfl rfl rfl <| csB rfl rfl rfl <| csB rfl rfl rfl <| csB rfl rfl rfl <| csB rfl rfl rfl <| cp (oPkT rfl tm cB) (s1 rfl) <| cp (oMv tm) (s1 rfl) <| csB rfl rfl rfl <| csB rfl rfl rfl <| csB rfl rfl rfl <| csB rfl rfl rfl <| csB rfl rfl rfl <| csB rfl rfl rfl <| cp (oPkT rfl tm cB) (s1 rfl) <| .nil) (by kernel_rfl) ?_
          exact pJ2 _ _ (so h) ⟨rfl, rfl, rfl, rfl, rfl, rfl, rfl, rfl, rfl, trivial⟩ rfl
      · rintro x37 x38 rfl
        replace h := hk1
        rcases ic h with ⟨hp56, h⟩ | ⟨hp56, h⟩
        · refine wBT hp56 tm (s1 rfl) ?_
          refine wSeq ?_
          refine rg (cp (oAs cB) trivial <| .nil) (by kernel_rfl) ?_
          refine pSeq ?_
          refine wRet ?_
          refine pThenR ?_
          obtain rfl := so h
          exact pR1 (.inl rfl) rfl (.tmp rfl <| .nil)
        · refine wBF hp56 tm (s1 rfl) ?_
          refine wSkip ?_
          refine pSeq ?_
          refine wSeq ?_
          obtain ⟨y57, hy57, h⟩ := bd h
          refine rg (cp (oLd t42 tm) (s1 rfl) <| cp (oMv tm) (s1 rfl) <| cp (oMv tm) (s1 rfl) <| cp (oCall rfl (lattice_Flows.ok hy57) b26 (opds_cons tm (opds_cons tm (opds_cons tm opds_nil)))) (s3 rfl rfl rfl) <| cp (oMv tm) (s1 rfl) <| cp (oExt (k := 0) rfl tm) (s1 rfl) <| cp (oExt (k := 1) rfl tm) (s1 rfl) <| cp (oAs tm) (s1 rfl) <| cp (oAs tm) (s1 rfl) <| .nil) (by kernel_rfl) ?_
          refine pSeq ?_
          refine wSeq ?_
          obtain ⟨y58, hy58, h⟩ := bd h
          refine rg (cp (oLd t42 tm) (s1 rfl) <| cp (oMv tm) (s1 rfl) <| cp (oCall rfl (lattice_Height.ok hy58) b29 (opds_cons tm (opds_cons tm opds_nil))) (s2 rfl rfl) <| cp (oMv tm) (s1 rfl) <| cp (oExt (k := 0) rfl tm) (s1 rfl) <| cp (oExt (k := 1) rfl tm) (s1 rfl) <| cp (oAs tm) (s1 rfl) <| cp (oAs tm) (s1 rfl) <| .nil) (by kernel_rfl) ?_
          refine pSeq ?_
          refine wSeq ?_
          obtain ⟨y59, hy59, h⟩ := bd h
          refine rg (cp (oLd t42 tm) (s1 rfl) <| cp (oMv tm) (s1 rfl) <| cp (oCall rfl (lattice_Height.ok hy59) b29 (opds_cons tm (opds_cons tm opds_nil))) (s2 rfl rfl) <| cp (oMv tm) (s1 rfl) <| cp (oExt (k := 0) rfl tm) (s1 rfl) <| cp (oExt (k := 1) rfl tm) (s1 rfl) <| cp (oAs tm) (s1 rfl) <| cp (oAs tm) (s1 rfl) <| .nil) (by kernel_rfl) ?_
          refine pSeq ?_
          refine wSeq ?_
          obtain ⟨o1, h, hk1⟩ := bd h
          refine wJ1 (fun x68 => x68 = o1) (fun x68 => [(1, .d ((kI .i64).sig ((IntKind.i64.wrap ((a1.tmod (y1.Up.length : Int)) + (y1.Up.length : Int))).tmod (y1.Up.length : Int)))), (4, .d (sP (kR f_api_Lattice) (⟨y1.Names, y1.Up⟩ : api_Lattice))), (10, .p 10 0), (11, .f [10] (sCloN 42 [some (sP (kR f_api_Lattice) (⟨y1.Names, y1.Up⟩ : api_Lattice)), none])), (12, .f [10] (sCloN 43 [some (sP (kR f_api_Lattice) (⟨y1.Names, y1.Up⟩ : api_Lattice)), none])), (215, .d (kB.sig x68))]) (fun x68 => [.box 10 4 [.d kB x37]]) ?_ ?_
          · rcases ic h with ⟨hp69, h⟩ | ⟨hp69, h⟩
            · rcases ic h with ⟨hp70, h⟩ | ⟨hp70, h⟩
              · rcases ic h with ⟨hp71, h⟩ | ⟨hp71, h⟩
                · rcases ic h with ⟨hp72, h⟩ | ⟨hp72, h⟩
                  · rcases ic h with ⟨hp73, h⟩ | ⟨hp73, h⟩
                    · rcases ic h with ⟨hp74, h⟩ | ⟨hp74, h⟩
                      · rcases ic h with ⟨hp75, h⟩ | ⟨hp75, h⟩
                        · refine rg (cp (oMv tm) (s1 rfl) <| cp (oNe rfl tm (cI (by decide))) (s1 rfl) <| cp (oMv tm) (s1 rfl) <| cgB (nf hp69) rfl rfl (oMv tm) (s1 rfl) <| cgB (nf hp69) rfl rfl (oNe rfl tm (cI (by decide))) (s1 rfl) <| cp (oPkF (nf hp69) tm tm) (s2 rfl rfl) <| cp (oMv tm) (s1 rfl) <| cgB (nf hp70) rfl rfl (oMv tm) (s1 rfl) <| cgB (nf hp70) rfl rfl (oNe rfl tm (cI (by decide))) (s1 rfl) <| cp (oPkF (nf hp70) tm tm) (s2 rfl rfl) <| cp (oMv tm) (s1 rfl) <| cgB (nf hp71) rfl rfl (oMv tm) (s1 rfl) <| cgB (nf hp71) rfl rfl (oMv tm) (s1 rfl) <| cgB (nf hp71) rfl rfl (oMv tm) (s1 rfl) <| cgB (nf hp71) rfl rfl (oEq rfl tm tm) (s2 rfl rfl) <| cgB (nf hp71) rfl rfl (oBNe u4 rfl tm tm) (s2 rfl rfl) <| cp (oPkF (nf hp71) tm tm) (s2 rfl rfl) <| cp (oMv tm) (s1 rfl) <| cgB (nf hp72) rfl rfl (oMv tm) (s1 rfl) <| cgB (nf hp72) rfl rfl (oMv tm) (s1 rfl) <| cgB (nf hp72) rfl rfl (oMv tm) (s1 rfl) <| cgB (nf hp72) rfl rfl (oEq rfl tm tm) (s2 rfl rfl) <| cgB (nf hp72) rfl rfl (oBNe u4 rfl tm tm) (s2 rfl rfl) <| cp (oPkF (nf hp72) tm tm) (s2 rfl rfl) <| cp (oMv tm) (s1 rfl) <| cgB (nf hp73) rfl rfl (oMv tm) (s1 rfl) <| cgB (nf hp73) rfl rfl (oMv tm) (s1 rfl) <| cgB hp74 rfl rfl (oMv tm) (s1 rfl) <| cgB hp74 rfl rfl (oMv tm) (s1 rfl) <| cgB hp74 rfl rfl (oGt rfl tm tm) (s2 rfl rfl) <| cgB (nf hp73) rfl rfl (oPkT hp74 tm tm) (s2 rfl rfl) <| cp (oPkF (nf hp73) tm tm) (s2 rfl rfl) <| cp (oMv tm) (s1 rfl) <| csB (decide_eq_true hp75) rfl rfl <| csB (decide_eq_true hp75) rfl rfl <| csU rfl rfl <| csU rfl rfl <| csU rfl rfl <| csB (decide_eq_true hp75) rfl rfl <| csB (decide_eq_true hp75) rfl rfl <| csU rfl rfl <| csU rfl rfl <| csU rfl rfl <| csB (decide_eq_true hp75) rfl rfl <| cp (oPkT (decide_eq_true hp75) tm cB) (s1 rfl) <| .nil) (by kernel_rfl) ?_
                          exact pJ1 _ (so h) ⟨rfl, rfl, rfl, rfl, rfl, rfl, trivial⟩ rfl
                        · rcases ic h with ⟨hp76, h⟩ | ⟨hp76, h⟩
                          · refine rg (cp (oMv tm) (s1 rfl) <| cp (oNe rfl tm (cI (by decide))) (s1 rfl) <| cp (oMv tm) (s1 rfl) <| cgB (nf hp69) rfl rfl (oMv tm) (s1 rfl) <| cgB (nf hp69) rfl rfl (oNe rfl tm (cI (by decide))) (s1 rfl) <| cp (oPkF (nf hp69) tm tm) (s2 rfl rfl) <| cp (oMv tm) (s1 rfl) <| cgB (nf hp70) rfl rfl (oMv tm) (s1 rfl) <| cgB (nf hp70) rfl rfl (oNe rfl tm (cI (by decide))) (s1 rfl) <| cp (oPkF (nf hp70) tm tm) (s2 rfl rfl) <| cp (oMv tm) (s1 rfl) <| cgB (nf hp71) rfl rfl (oMv tm) (s1 rfl) <| cgB (nf hp71) rfl rfl (oMv tm) (s1 rfl) <| cgB (nf hp71) rfl rfl (oMv tm) (s1 rfl) <| cgB (nf hp71) rfl rfl (oEq rfl tm tm) (s2 rfl rfl) <| cgB (nf hp71) rfl rfl (oBNe u4 rfl tm tm) (s2 rfl rfl) <| cp (oPkF (nf hp71) tm tm) (s2 rfl rfl) <| cp (oMv tm) (s1 rfl) <| cgB (nf hp72) rfl rfl (oMv tm) (s1 rfl) <| cgB (nf hp72) rfl rfl (oMv tm) (s1 rfl) <| cgB (nf hp72) rfl rfl (oMv tm) (s1 rfl) <| cgB (nf hp72) rfl rfl (oEq rfl tm tm) (s2 rfl rfl) <| cgB (nf hp72) rfl rfl (oBNe u4 rfl tm tm) (s2 rfl rfl) <| cp (oPkF (nf hp72) tm tm) (s2 rfl rfl) <| cp (oMv tm) (s1 rfl) <| cgB (nf hp73) rfl rfl (oMv tm) (s1 rfl) <| cgB (nf hp73) rfl rfl (oMv tm) (s1 rfl) <| cgB hp74 rfl rfl (oMv tm) (s1 rfl) <| cgB hp74 rfl rfl (oMv tm) (s1 rfl) <| cgB hp74 rfl rfl (oGt rfl tm tm) (s2 rfl rfl) <| cgB (nf hp73) rfl rfl (oPkT hp74 tm tm) (s2 rfl rfl) <| cp (oPkF (nf hp73) tm tm) (s2 rfl rfl) <| cp (oMv tm) (s1 rfl) <| cgB (decide_eq_false hp75) rfl rfl (oMv tm) (s1 rfl) <| cgB (decide_eq_false hp75) rfl rfl (oMv tm) (s1 rfl) <| cgB hp74 rfl rfl (oMv tm) (s1 rfl) <| cgB hp74 rfl rfl (oMv tm) (s1 rfl) <| cgB hp74 rfl rfl (oNe rfl tm tm) (s2 rfl rfl) <| cgB (decide_eq_false hp75) rfl rfl (oPkT hp74 tm tm) (s2 rfl rfl) <| cgB (decide_eq_false hp75) rfl rfl (oMv tm) (s1 rfl) <| csB (nf hp76) rfl rfl <| csB (nf hp76) rfl rfl <| csB (nf hp76) rfl rfl <| cgB (decide_eq_false hp75) rfl rfl (oPkF (nf hp76) tm cB) (s1 rfl) <| cp (oPkF (decide_eq_false hp75) tm tm) (s2 rfl rfl) <| .nil) (by kernel_rfl) ?_
                            exact pJ1 _ (so h) ⟨rfl, rfl, rfl, rfl, rfl, rfl, trivial⟩ rfl
                          · refine rg (cp (oMv tm) (s1 rfl) <| cp (oNe rfl tm (cI (by decide))) (s1 rfl) <| cp (oMv tm) (s1 rfl) <| cgB (nf hp69) rfl rfl (oMv tm) (s1 rfl) <| cgB (nf hp69) rfl rfl (oNe rfl tm (cI (by decide))) (s1 rfl) <| cp (oPkF (nf hp69) tm tm) (s2 rfl rfl) <| cp (oMv tm) (s1 rfl) <| cgB (nf hp70) rfl rfl (oMv tm) (s1 rfl) <| cgB (nf hp70) rfl rfl (oNe rfl tm (cI (by decide))) (s1 rfl) <| cp (oPkF (nf hp70) tm tm) (s2 rfl rfl) <| cp (oMv tm) (s1 rfl) <| cgB (nf hp71) rfl rfl (oMv tm) (s1 rfl) <| cgB (nf hp71) rfl rfl (oMv tm) (s1 rfl) <| cgB (nf hp71) rfl rfl (oMv tm) (s1 rfl) <| cgB (nf hp71) rfl rfl (oEq rfl tm tm) (s2 rfl rfl) <| cgB (nf hp71) rfl rfl (oBNe u4 rfl tm tm) (s2 rfl rfl) <| cp (oPkF (nf hp71) tm tm) (s2 rfl rfl) <| cp (oMv tm) (s1 rfl) <| cgB (nf hp72) rfl rfl (oMv tm) (s1 rfl) <| cgB (nf hp72) rfl rfl (oMv tm) (s1 rfl) <| cgB (nf hp72) rfl rfl (oMv tm) (s1 rfl) <| cgB (nf hp72) rfl rfl (oEq rfl tm tm) (s2 rfl rfl) <| cgB (nf hp72) rfl rfl (oBNe u4 rfl tm tm) (s2 rfl rfl) <| cp (oPkF (nf hp72) tm tm) (s2 rfl rfl) <| cp (oMv tm) (s1 rfl) <| cgB (nf hp73) rfl rfl (oMv tm) (s1 rfl) <| cgB (nf hp73) rfl rfl (oMv tm) (s1 rfl) <| cgB hp74 rfl rfl (oMv tm) (s1 rfl) <| cgB hp74 rfl rfl (oMv tm) (s1 rfl) <| cgB hp74 rfl rfl (oGt rfl tm tm) (s2 rfl rfl) <| cgB (nf hp73) rfl rfl (oPkT hp74 tm tm) (s2 rfl rfl) <| cp (oPkF (nf hp73) tm tm) (s2 rfl rfl) <| cp (oMv tm) (s1 rfl) <| cgB (decide_eq_false hp75) rfl rfl (oMv tm) (s1 rfl) <| cgB (decide_eq_false hp75) rfl rfl (oMv tm) (s1 rfl) <| cgB hp74 rfl rfl (oMv tm) (s1 rfl) <| cgB hp74 rfl rfl (oMv tm) (s1 rfl) <| cgB hp74 rfl rfl (oNe rfl tm tm) (s2 rfl rfl) <| cgB (decide_eq_false hp75) rfl rfl (oPkT hp74 tm tm) (s2 rfl rfl) <| cgB (decide_eq_false hp75) rfl rfl (oMv tm) (s1 rfl) <| cgB (nt hp76) rfl rfl (oMv tm) (s1 rfl) <| cgB (nt hp76) rfl rfl (oMv tm) (s1 rfl) <| cgB (nt hp76) rfl rfl (oEq rfl tm tm) (s2 rfl rfl) <| cgB (decide_eq_false hp75) rfl rfl (oPkT (nt hp76) tm tm) (s2 rfl rfl) <| cp (oPkF (decide_eq_false hp75) tm tm) (s2 rfl rfl) <| .nil) (by kernel_rfl) ?_
                            exact pJ1 _ (so h) ⟨rfl, rfl, rfl, rfl, rfl, rfl, trivial⟩ rfl
                      · refine rg (cp (oMv tm) (s1 rfl) <| cp (oNe rfl tm (cI (by decide))) (s1 rfl) <| cp (oMv tm) (s1 rfl) <| cgB (nf hp69) rfl rfl (oMv tm) (s1 rfl) <| cgB (nf hp69) rfl rfl (oNe rfl tm (cI (by decide))) (s1 rfl) <| cp (oPkF (nf hp69) tm tm) (s2 rfl rfl) <| cp (oMv tm) (s1 rfl) <| cgB (nf hp70) rfl rfl (oMv tm) (s1 rfl) <| cgB (nf hp70) rfl rfl (oNe rfl tm (cI (by decide))) (s1 rfl) <| cp (oPkF (nf hp70) tm tm) (s2 rfl rfl) <| cp (oMv tm) (s1 rfl) <| cgB (nf hp71) rfl rfl (oMv tm) (s1 rfl) <| cgB (nf hp71) rfl rfl (oMv tm) (s1 rfl) <| cgB (nf hp71) rfl rfl (oMv tm) (s1 rfl) <| cgB (nf hp71) rfl rfl (oEq rfl tm tm) (s2 rfl rfl) <| cgB (nf hp71) rfl rfl (oBNe u4 rfl tm tm) (s2 rfl rfl) <| cp (oPkF (nf hp71) tm tm) (s2 rfl rfl) <| cp (oMv tm) (s1 rfl) <| cgB (nf hp72) rfl rfl (oMv tm) (s1 rfl) <| cgB (nf hp72) rfl rfl (oMv tm) (s1 rfl) <| cgB (nf hp72) rfl rfl (oMv tm) (s1 rfl) <| cgB (nf hp72) rfl rfl (oEq rfl tm tm) (s2 rfl rfl) <| cgB (nf hp72) rfl rfl (oBNe u4 rfl tm tm) (s2 rfl rfl) <| cp (oPkF (nf hp72) tm tm) (s2 rfl rfl) <| cp (oMv tm) (s1 rfl) <| cgB (nf hp73) rfl rfl (oMv tm) (s1 rfl) <| cgB (nf hp73) rfl rfl (oMv tm) (s1 rfl) <| csB (nb hp74) rfl rfl <| csB (nb hp74) rfl rfl <| csB (nb hp74) rfl rfl <| cgB (nf hp73) rfl rfl (oPkF (nb hp74) tm cB) (s1 rfl) <| cp (oPkF (nf hp73) tm tm) (s2 rfl rfl) <| cp (oMv tm) (s1 rfl) <| cgB rfl rfl rfl (oMv tm) (s1 rfl) <| cgB rfl rfl rfl (oMv tm) (s1 rfl) <| csB (nb hp74) rfl rfl <| csB (nb hp74) rfl rfl <| csB (nb hp74) rfl rfl <| cgB rfl rfl rfl (oPkF (nb hp74) tm cB) (s1 rfl) <| cgB rfl rfl rfl (oMv tm) (s1 rfl) <| csB rfl rfl rfl <| csB rfl rfl rfl <| csB rfl rfl rfl <| cgB rfl rfl rfl (oPkF rfl tm cB) (s1 rfl) <| cp (oPkF rfl tm tm) (s2 rfl rfl) <| .nil) (by kernel_rfl) ?_
                        exact pJ1 _ (so h) ⟨rfl, rfl, rfl, rfl, rfl, rfl, trivial⟩ rfl
                    · refine rg (cp (oMv tm) (s1 rfl) <| cp (oNe rfl tm (cI (by decide))) (s1 rfl) <| cp (oMv tm) (s1 rfl) <| cgB (nf hp69) rfl rfl (oMv tm) (s1 rfl) <| cgB (nf hp69) rfl rfl (oNe rfl tm (cI (by decide))) (s1 rfl) <| cp (oPkF (nf hp69) tm tm) (s2 rfl rfl) <| cp (oMv tm) (s1 rfl) <| cgB (nf hp70) rfl rfl (oMv tm) (s1 rfl) <| cgB (nf hp70) rfl rfl (oNe rfl tm (cI (by decide))) (s1 rfl) <| cp (oPkF (nf hp70) tm tm) (s2 rfl rfl) <| cp (oMv tm) (s1 rfl) <| cgB (nf hp71) rfl rfl (oMv tm) (s1 rfl) <| cgB (nf hp71) rfl rfl (oMv tm) (s1 rfl) <| cgB (nf hp71) rfl rfl (oMv tm) (s1 rfl) <| cgB (nf hp71) rfl rfl (oEq rfl tm tm) (s2 rfl rfl) <| cgB (nf hp71) rfl rfl (oBNe u4 rfl tm tm) (s2 rfl rfl) <| cp (oPkF (nf hp71) tm tm) (s2 rfl rfl) <| cp (oMv tm) (s1 rfl) <| cgB (nf hp72) rfl rfl (oMv tm) (s1 rfl) <| cgB (nf hp72) rfl rfl (oMv tm) (s1 rfl) <| cgB (nf hp72) rfl rfl (oMv tm) (s1 rfl) <| cgB (nf hp72) rfl rfl (oEq rfl tm tm) (s2 rfl rfl) <| cgB (nf hp72) rfl rfl (oBNe u4 rfl tm tm) (s2 rfl rfl) <| cp (oPkF (nf hp72) tm tm) (s2 rfl rfl) <| cp (oMv tm) (s1 rfl) <| csB (nt hp73) rfl rfl <| csB (nt hp73) rfl rfl <| csU rfl rfl <| csU rfl rfl <| csU rfl rfl <| csB (nt hp73) rfl rfl <| cp (oPkT (nt hp73) tm cB) (s1 rfl) <| cp (oMv tm) (s1 rfl) <| csB rfl rfl rfl <| csB rfl rfl rfl <| csU rfl rfl <| csU rfl rfl <| csU rfl rfl <| csB rfl rfl rfl <| csB rfl rfl rfl <| csU rfl rfl <| csU rfl rfl <| csU rfl rfl <| csB rfl rfl rfl <| cp (oPkT rfl tm cB) (s1 rfl) <| .nil) (by kernel_rfl) ?_
                      exact pJ1 _ (so h) ⟨rfl, rfl, rfl, rfl, rfl, rfl, trivial⟩ rfl
                  · refine rg (cp (oMv tm) (s1 rfl) <| cp (oNe rfl tm (cI (by decide))) (s1 rfl) <| cp (oMv tm) (s1 rfl) <| cgB (nf hp69) rfl rfl (oMv tm) (s1 rfl) <| cgB (nf hp69) rfl rfl (oNe rfl tm (cI (by decide))) (s1 rfl) <| cp (oPkF (nf hp69) tm tm) (s2 rfl rfl) <| cp (oMv tm) (s1 rfl) <| cgB (nf hp70) rfl rfl (oMv tm) (s1 rfl) <| cgB (nf hp70) rfl rfl (oNe rfl tm (cI (by decide))) (s1 rfl) <| cp (oPkF (nf hp70) tm tm) (s2 rfl rfl) <| cp (oMv tm) (s1 rfl) <| cgB (nf hp71) rfl rfl (oMv tm) (s1 rfl) <| cgB (nf hp71) rfl rfl (oMv tm) (s1 rfl) <| cgB (nf hp71) rfl rfl (oMv tm) (s1 rfl) <| cgB (nf hp71) rfl rfl (oEq rfl tm tm) (s2 rfl rfl) <| cgB (nf hp71) rfl rfl (oBNe u4 rfl tm tm) (s2 rfl rfl) <| cp (oPkF (nf hp71) tm tm) (s2 rfl rfl) <| cp (oMv tm) (s1 rfl) <| csB (nt hp72) rfl rfl <| csB (nt hp72) rfl rfl <| csB (nt hp72) rfl rfl <| csB (nt hp72) rfl rfl <| csB (nt hp72) rfl rfl <| cp (oPkT (nt hp72) tm cB) (s1 rfl) <| cp (oMv tm) (s1 rfl) <| csB rfl rfl rfl <| csB rfl rfl rfl <| csU rfl rfl <| csU rfl rfl <| csU rfl rfl <| csB rfl rfl rfl <| cp (oPkT rfl tm cB) (s1 rfl) <| cp (oMv tm) (s1 rfl) <| csB rfl rfl rfl <| csB rfl rfl rfl <| csU rfl rfl <| csU rfl rfl <| csU rfl rfl <| csB rfl rfl rfl <| csB rfl rfl rfl <| csU rfl rfl <| csU rfl rfl <| csU rfl rfl <| csB rfl rfl rfl <| cp (oPkT rfl tm cB) (s1 rfl) <| .nil) (by kernel_rfl) ?_
                    exact pJ1 _ (so h) ⟨rfl, rfl, rfl, rfl, rfl, rfl, trivial⟩ rfl
                · refine rg (cp (oMv tm) (s1 rfl) <| cp (oNe rfl tm (cI (by decide))) (s1 rfl) <| cp (oMv tm) (s1 rfl) <| cgB (nf hp69) rfl rfl (oMv tm) (s1 rfl) <| cgB (nf hp69) rfl rfl (oNe rfl tm (cI (by decide))) (s1 rfl) <| cp (oPkF (nf hp69) tm tm) (s2 rfl rfl) <| cp (oMv tm) (s1 rfl) <| cgB (nf hp70) rfl rfl (oMv tm) (s1 rfl) <| cgB (nf hp70) rfl rfl (oNe rfl tm (cI (by decide))) (s1 rfl) <| cp (oPkF (nf hp70) tm tm) (s2 rfl rfl) <| cp (oMv tm) (s1 rfl) <| csB (nt hp71) rfl rfl <| csB (nt hp71) rfl rfl <| csB (nt hp71) rfl rfl <| csB (nt hp71) rfl rfl <| csB (nt hp71) rfl rfl <| cp (oPkT (nt hp71) tm cB) (s1 rfl) <| cp (oMv tm) (s1 rfl) <| csB rfl rfl rfl <| csB rfl rfl rfl <| csB rfl rfl rfl <| csB rfl rfl rfl <| csB rfl rfl rfl <| cp (oPkT rfl tm cB) (s1 rfl) <| cp (oMv tm) (s1 rfl) <| csB rfl rfl rfl <| csB rfl rfl rfl <| csU rfl rfl <| csU rfl rfl <| csU rfl rfl <| csB rfl rfl rfl <| cp (oPkT rfl tm cB) (s1 rfl) <| cp (oMv tm) (s1 rfl) <| csB rfl rfl rfl <| csB rfl rfl rfl <| csU rfl rfl <| csU rfl rfl <| csU rfl rfl <| csB rfl rfl rfl <| csB rfl rfl rfl <| csU rfl rfl <| csU rfl rfl <| csU rfl rfl <| csB rfl rfl rfl <| cp (oPkT rfl tm cB) (s1 rfl) <| .nil) (by kernel_rfl) ?_
                  exact pJ1 _ (so h) ⟨rfl, rfl, rfl, rfl, rfl, rfl, trivial⟩ rfl
              · refine rg (cp (oMv tm) (s1 rfl) <| cp (oNe rfl tm (cI (by decide))) (s1 rfl) <| cp (oMv tm) (s1 rfl) <| cgB (nf hp69) rfl rfl (oMv tm) (s1 rfl) <| cgB (nf hp69) rfl rfl (oNe rfl tm (cI (by decide))) (s1 rfl) <| cp (oPkF (nf hp69) tm tm) (s2 rfl rfl) <| cp (oMv tm) (s1 rfl) <| csB (nt hp70) rfl rfl <| csB (nt hp70) rfl rfl <| cp (oPkT (nt hp70) tm cB) (s1 rfl) <| cp (oMv tm) (s1 rfl) <| csB rfl rfl rfl <| csB rfl rfl rfl <| csB rfl rfl rfl <| csB rfl rfl rfl <| csB rfl rfl rfl <| cp (oPkT rfl tm cB) (s1 rfl) <| cp (oMv tm) (s1 rfl) <| csB rfl rfl rfl <| csB rfl rfl rfl <| csB rfl rfl rfl <| csB rfl rfl rfl <| csB rfl rfl rfl <| cp (oPkT rfl tm cB) (s1 rfl) <| cp (oMv tm) (s1 rfl) <| csB rfl rfl rfl <| csB rfl rfl rfl <| csU rfl rfl <| csU rfl rfl <| csU rfl rfl <| csB rfl rfl rfl <| cp (oPkT rfl tm cB) (s1 rfl) <| cp (oMv tm) (s1 rfl) <| csB rfl rfl rfl <| csB rfl rfl rfl <| csU rfl rfl <| csU rfl rfl <| csU rfl rfl <| csB rfl rfl rfl <| csB rfl rfl rfl <| csU rfl rfl <| csU rfl rfl <| csU rfl rfl <| csB rfl rfl rfl <| cp (oPkT rfl tm cB) (s1 rfl) <| .nil) (by kernel_rfl) ?_
                exact pJ1 _ (so h) ⟨rfl, rfl, rfl, rfl, rfl, rfl, trivial⟩ rfl
            · refine rg (cp (oMv tm) (s1 rfl) <| cp (oNe rfl tm (cI (by decide))) (s1 rfl) <| cp (oMv tm) (s1 rfl) <| csB (nt hp69) rfl rfl <| csB (nt hp69) rfl rfl <| cp (oPkT (nt hp69) tm cB) (s1 rfl) <| cp (oMv tm) (s1 rfl) <| csB rfl rfl rfl <| csB rfl rfl rfl <| cp (oPkT rfl tm cB) (s1 rfl) <| cp (oMv tm) (s1 rfl) <| csB rfl rfl rfl <| csB rfl rfl rfl <| csB rfl rfl rfl <| csB rfl rfl rfl <| csB rfl rfl rfl <| cp (oPkT rfl tm cB) (s1 rfl) <| cp (oMv tm) (s1 rfl) <| csB rfl rfl rfl <| csB rfl rfl rfl <| csB rfl rfl rfl <| csB rfl rfl rfl <| csB rfl rfl rfl <| cp (oPkT rfl tm cB) (s1 rfl) <| cp (oMv tm) (s1 rfl) <| csB rfl rfl rfl <| csB rfl rfl rfl <| csU rfl rfl <| csU rfl rfl <| csU rfl rfl <| csB rfl rfl rfl <| cp (oPkT rfl tm cB) (s1 rfl) <| cp (oMv tm) (s1 rfl) <| csB rfl rfl rfl <| csB rfl rfl rfl <| csU rfl rfl <| csU rfl rfl <| csU rfl rfl <| csB rfl rfl rfl <| csB rfl rfl rfl <| csU rfl rfl <| csU rfl rfl <| csU rfl rfl <| csB rfl rfl rfl <| cp (oPkT rfl tm cB) (s1 rfl) <| .nil) (by kernel_rfl) ?_
              exact pJ1 _ (so h) ⟨rfl, rfl, rfl, rfl, rfl, rfl, trivial⟩ rfl
          · rintro x68 rfl
            replace h := hk1
            rcases ic h with ⟨hp77, h⟩ | ⟨hp77, h⟩
            · refine wBT hp77 tm (s1 rfl) ?_
              refine wSeq ?_
              refine rg (cp (oAs cB) trivial <| .nil) (by kernel_rfl) ?_
              refine pSeq ?_
              refine wRet ?_
              refine pThenR ?_
              obtain rfl := so h
              exact pR1 (.inl rfl) rfl (.tmp rfl <| .nil)
            · refine wBF hp77 tm (s1 rfl) ?_
              refine wSkip ?_
              refine pSeq ?_
              refine wSeq ?_
              obtain ⟨y78, hy78, h⟩ := bd h
              refine rg (cp (oLd t42 tm) (s1 rfl) <| cp (oCall rfl (lattice_Bottom.ok hy78) b37 (opds_cons tm opds_nil)) (s1 rfl) <| cp (oMv tm) (s1 rfl) <| cp (oExt (k := 0) rfl tm) (s1 rfl) <| cp (oExt (k := 1) rfl tm) (s1 rfl) <| cp (oAs tm) (s1 rfl) <| cp (oAs tm) (s1 rfl) <| .nil) (by kernel_rfl) ?_
              refine pSeq ?_
              refine wSeq ?_
              obtain ⟨y79, hy79, h⟩ := bd h
              refine rg (cp (oLd t42 tm) (s1 rfl) <| cp (oCall rfl (lattice_Top.ok hy79) b38 (opds_cons tm opds_nil)) (s1 rfl) <| cp (oMv tm) (s1 rfl) <| cp (oExt (k := 0) rfl tm) (s1 rfl) <| cp (oExt (k := 1) rfl tm) (s1 rfl) <| cp (oAs tm) (s1 rfl) <| cp (oAs tm) (s1 rfl) <| .nil) (by kernel_rfl) ?_
              refine pSeq ?_
              refine wSeq ?_
              obtain ⟨y80, hy80, h⟩ := bd h
              refine rg (cp (oLd t42 tm) (s1 rfl) <| cp (oMv tm) (s1 rfl) <| cp (oCall rfl (lattice_Height.ok hy80) b29 (opds_cons tm (opds_cons tm opds_nil))) (s2 rfl rfl) <| cp (oMv tm) (s1 rfl) <| cp (oExt (k := 0) rfl tm) (s1 rfl) <| cp (oExt (k := 1) rfl tm) (s1 rfl) <| cp (oAs tm) (s1 rfl) <| cp (oAs tm) (s1 rfl) <| .nil) (by kernel_rfl) ?_
              refine pSeq ?_
              obtain ⟨o1, h, hk1⟩ := bd h
              refine wJ2 (fun x89 x90 => (x89, x90) = o1) (fun x89 x90 => [(8, .d (kB.sig x90))]) (fun x89 x90 => [.box 10 4 [.d kB x89]]) ?_ ?_
              · rcases ic h with ⟨hp91, h⟩ | ⟨hp91, h⟩
                · rcases ic h with ⟨hp92, h⟩ | ⟨hp92, h⟩
                  · rcases ic h with ⟨hp93, h⟩ | ⟨hp93, h⟩
                    · rcases ic h with ⟨hp94, h⟩ | ⟨hp94, h⟩
                      · rcases ic h with ⟨hp95, h⟩ | ⟨hp95, h⟩
                        · obtain ⟨y96, hy96, h⟩ := bd h
                          rcases ic h with ⟨hp97, h⟩ | ⟨hp97, h⟩
                          · obtain ⟨y98, hy98, h⟩ := bd h
                            refine rg (cr (oLdB (n := 0) (k := 0) rfl rfl rfl t4 tm) (s1 rfl) <| cp (oMv tm) (s1 rfl) <| cgB hp91 rfl rfl (oMv tm) (s1 rfl) <| cgB hp91 rfl rfl (oEq rfl tm (cI (by decide))) (s1 rfl) <| cp (oPkT hp91 tm tm) (s2 rfl rfl) <| cp (oMv tm) (s1 rfl) <| cgB (decide_eq_true hp92) rfl rfl (oMv tm) (s1 rfl) <| cgB (decide_eq_true hp92) rfl rfl (oEq rfl tm (cI (by decide))) (s1 rfl) <| cp (oPkT (decide_eq_true hp92) tm tm) (s2 rfl rfl) <| cp (oMv tm) (s1 rfl) <| cgB (decide_eq_true hp93) rfl rfl (oMv tm) (s1 rfl) <| cgB (decide_eq_true hp93) rfl rfl (oEq rfl tm (cI (by decide))) (s1 rfl) <| cp (oPkT (decide_eq_true hp93) tm tm) (s2 rfl rfl) <| cp (oMv tm) (s1 rfl) <| cgB (decide_eq_true hp94) rfl rfl (oMv tm) (s1 rfl) <| cgB (decide_eq_true hp94) rfl rfl (oEq rfl tm (cI (by decide))) (s1 rfl) <| cp (oPkT (decide_eq_true hp94) tm tm) (s2 rfl rfl) <| cp (oMv tm) (s1 rfl) <| cgB (decide_eq_true hp95) rfl rfl (oMv tm) (s1 rfl) <| cgB (decide_eq_true hp95) rfl rfl (oMv tm) (s1 rfl) <| cgB (decide_eq_true hp95) rfl rfl (oMv tm) (s1 rfl) <| cmgB (decide_eq_true hp95) rfl rfl (oCallN (ins := [.d ((kI .i64).sig y78.1), .d ((kI .i64).sig ((IntKind.i64.wrap ((a1.tmod (y1.Up.length : Int)) + (y1.Up.length : Int))).tmod (y1.Up.length : Int)))]) (caps := [some (sP (kR f_api_Lattice) (⟨y1.Names, y1.Up⟩ : api_Lattice)), none]) (kn := [70300]) (rest := []) (R' := [.box 10 4 [.d kB y96.1]]) (out' := .d ((kI .i64).sig y96.2)) [(70300, 10)] [] [0] [] [0] rfl tm (reticentlaw01_LatticeLaws_1.ok hy96) rfl b42 (oE1 tm (oE1 tm oE0)) rfl rfl rfl rfl rfl rfl rfl rfl) (s3 rfl rfl rfl) <| cgB (decide_eq_true hp95) rfl rfl (oMv tm) (s1 rfl) <| cgB (decide_eq_true hp95) rfl rfl (oEq rfl tm tm) (s2 rfl rfl) <| cp (oPkT (decide_eq_true hp95) tm tm) (s2 rfl rfl) <| cp (oMv tm) (s1 rfl) <| cgB (decide_eq_true hp97) rfl rfl (oMv tm) (s1 rfl) <| cgB (decide_eq_true hp97) rfl rfl (oMv tm) (s1 rfl) <| cgB (decide_eq_true hp97) rfl rfl (oMv tm) (s1 rfl) <| cmgB (decide_eq_true hp97) rfl rfl (oCallN (ins := [.d ((kI .i64).sig y79.1), .d ((kI .i64).sig ((IntKind.i64.wrap ((a1.tmod (y1.Up.length : Int)) + (y1.Up.length : Int))).tmod (y1.Up.length : Int)))]) (caps := [some (sP (kR f_api_Lattice) (⟨y1.Names, y1.Up⟩ : api_Lattice)), none]) (kn := [70300]) (rest := []) (R' := [.box 10 4 [.d kB y98.1]]) (out' := .d ((kI .i64).sig y98.2)) [(70300, 10)] [] [0] [] [0] rfl tm (reticentlaw01_LatticeLaws_2.ok hy98) rfl b43 (oE1 tm (oE1 tm oE0)) rfl rfl rfl rfl rfl rfl rfl rfl) (s3 rfl rfl rfl) <| cgB (decide_eq_true hp97) rfl rfl (oMv tm) (s1 rfl) <| cgB (decide_eq_true hp97) rfl rfl (oEq rfl tm tm) (s2 rfl rfl) <| cp (oPkT (decide_eq_true hp97) tm tm) (s2 rfl rfl) <| cp (oAs tm) (s1 rfl) <| .nil) (by kernel_rfl) ?_
                            exact pJ2 _ _ (so h) ⟨rfl, trivial⟩ rfl
                          · refine rg (cr (oLdB (n := 0) (k := 0) rfl rfl rfl t4 tm) (s1 rfl) <| cp (oMv tm) (s1 rfl) <| cgB hp91 rfl rfl (oMv tm) (s1 rfl) <| cgB hp91 rfl rfl (oEq rfl tm (cI (by decide))) (s1 rfl) <| cp (oPkT hp91 tm tm) (s2 rfl rfl) <| cp (oMv tm) (s1 rfl) <| cgB (decide_eq_true hp92) rfl rfl (oMv tm) (s1 rfl) <| cgB (decide_eq_true hp92) rfl rfl (oEq rfl tm (cI (by decide))) (s1 rfl) <| cp (oPkT (decide_eq_true hp92) tm tm) (s2 rfl rfl) <| cp (oMv tm) (s1 rfl) <| cgB (decide_eq_true hp93) rfl rfl (oMv tm) (s1 rfl) <| cgB (decide_eq_true hp93) rfl rfl (oEq rfl tm (cI (by decide))) (s1 rfl) <| cp (oPkT (decide_eq_true hp93) tm tm) (s2 rfl rfl) <| cp (oMv tm) (s1 rfl) <| cgB (decide_eq_true hp94) rfl rfl (oMv tm) (s1 rfl) <| cgB (decide_eq_true hp94) rfl rfl (oEq rfl tm (cI (by decide))) (s1 rfl) <| cp (oPkT (decide_eq_true hp94) tm tm) (s2 rfl rfl) <| cp (oMv tm) (s1 rfl) <| cgB (decide_eq_true hp95) rfl rfl (oMv tm) (s1 rfl) <| cgB (decide_eq_true hp95) rfl rfl (oMv tm) (s1 rfl) <| cgB (decide_eq_true hp95) rfl rfl (oMv tm) (s1 rfl) <| cmgB (decide_eq_true hp95) rfl rfl (oCallN (ins := [.d ((kI .i64).sig y78.1), .d ((kI .i64).sig ((IntKind.i64.wrap ((a1.tmod (y1.Up.length : Int)) + (y1.Up.length : Int))).tmod (y1.Up.length : Int)))]) (caps := [some (sP (kR f_api_Lattice) (⟨y1.Names, y1.Up⟩ : api_Lattice)), none]) (kn := [70300]) (rest := []) (R' := [.box 10 4 [.d kB y96.1]]) (out' := .d ((kI .i64).sig y96.2)) [(70300, 10)] [] [0] [] [0] rfl tm (reticentlaw01_LatticeLaws_1.ok hy96) rfl b42 (oE1 tm (oE1 tm oE0)) rfl rfl rfl rfl rfl rfl rfl rfl) (s3 rfl rfl rfl) <| cgB (decide_eq_true hp95) rfl rfl (oMv tm) (s1 rfl) <| cgB (decide_eq_true hp95) rfl rfl (oEq rfl tm tm) (s2 rfl rfl) <| cp (oPkT (decide_eq_true hp95) tm tm) (s2 rfl rfl) <| cp (oMv tm) (s1 rfl) <| csB (decide_eq_false hp97) rfl rfl <| csB (decide_eq_false hp97) rfl rfl <| csB (decide_eq_false hp97) rfl rfl <| csB (decide_eq_false hp97) rfl rfl <| csB (decide_eq_false hp97) rfl rfl <| csB (decide_eq_false hp97) rfl rfl <| cp (oPkF (decide_eq_false hp97) tm cB) (s1 rfl) <| cp (oAs tm) (s1 rfl) <| .nil) (by kernel_rfl) ?_
                            exact pJ2 _ _ (so h) ⟨rfl, trivial⟩ rfl
                        · refine rg (cr (oLdB (n := 0) (k := 0) rfl rfl rfl t4 tm) (s1 rfl) <| cp (oMv tm) (s1 rfl) <| cgB hp91 rfl rfl (oMv tm) (s1 rfl) <| cgB hp91 rfl rfl (oEq rfl tm (cI (by decide))) (s1 rfl) <| cp (oPkT hp91 tm tm) (s2 rfl rfl) <| cp (oMv tm) (s1 rfl) <| cgB (decide_eq_true hp92) rfl rfl (oMv tm) (s1 rfl) <| cgB (decide_eq_true hp92) rfl rfl (oEq rfl tm (cI (by decide))) (s1 rfl) <| cp (oPkT (decide_eq_true hp92) tm tm) (s2 rfl rfl) <| cp (oMv tm) (s1 rfl) <| cgB (decide_eq_true hp93) rfl rfl (oMv tm) (s1 rfl) <| cgB (decide_eq_true hp93) rfl rfl (oEq rfl tm (cI (by decide))) (s1 rfl) <| cp (oPkT (decide_eq_true hp93) tm tm) (s2 rfl rfl) <| cp (oMv tm) (s1 rfl) <| cgB (decide_eq_true hp94) rfl rfl (oMv tm) (s1 rfl) <| cgB (decide_eq_true hp94) rfl rfl (oEq rfl tm (cI (by decide))) (s1 rfl) <| cp (oPkT (decide_eq_true hp94) tm tm) (s2 rfl rfl) <| cp (oMv tm) (s1 rfl) <| csB (decide_eq_false hp95) rfl rfl <| csB (decide_eq_false hp95) rfl rfl <| csB (decide_eq_false hp95) rfl rfl <| csB (decide_eq_false hp95) rfl rfl <| csB (decide_eq_false hp95) rfl rfl <| csB (decide_eq_false hp95) rfl rfl <| cp (oPkF (decide_eq_false hp95) tm cB) (s1 rfl) <| cp (oMv tm) (s1 rfl) <| csB rfl rfl rfl <| csB rfl rfl rfl <| csB rfl rfl rfl <| csB rfl rfl rfl <| csB rfl rfl rfl <| csB rfl rfl rfl <| cp (oPkF rfl tm cB) (s1 rfl) <| cp (oAs tm) (s1 rfl) <| .nil) (by kernel_rfl) ?_
                          exact pJ2 _ _ (so h) ⟨rfl, trivial⟩ rfl
                      · refine rg (cr (oLdB (n := 0) (k := 0) rfl rfl rfl t4 tm) (s1 rfl) <| cp (oMv tm) (s1 rfl) <| cgB hp91 rfl rfl (oMv tm) (s1 rfl) <| cgB hp91 rfl rfl (oEq rfl tm (cI (by decide))) (s1 rfl) <| cp (oPkT hp91 tm tm) (s2 rfl rfl) <| cp (oMv tm) (s1 rfl) <| cgB (decide_eq_true hp92) rfl rfl (oMv tm) (s1 rfl) <| cgB (decide_eq_true hp92) rfl rfl (oEq rfl tm (cI (by decide))) (s1 rfl) <| cp (oPkT (decide_eq_true hp92) tm tm) (s2 rfl rfl) <| cp (oMv tm) (s1 rfl) <| cgB (decide_eq_true hp93) rfl rfl (oMv tm) (s1 rfl) <| cgB (decide_eq_true hp93) rfl rfl (oEq rfl tm (cI (by decide))) (s1 rfl) <| cp (oPkT (decide_eq_true hp93) tm tm) (s2 rfl rfl) <| cp (oMv tm) (s1 rfl) <| csB (decide_eq_false hp94) rfl rfl <| csB (decide_eq_false hp94) rfl rfl <| cp (oPkF (decide_eq_false hp94) tm cB) (s1 rfl) <| cp (oMv tm) (s1 rfl) <| csB rfl rfl rfl <| csB rfl rfl rfl <| csB rfl rfl rfl <| csB rfl rfl rfl <| csB rfl rfl rfl <| csB rfl rfl rfl <| cp (oPkF rfl tm cB) (s1 rfl) <| cp (oMv tm) (s1 rfl) <| csB rfl rfl rfl <| csB rfl rfl rfl <| csB rfl rfl rfl <| csB rfl rfl rfl <| csB rfl rfl rfl <| csB rfl rfl rfl <| cp (oPkF rfl tm cB) (s1 rfl) <| cp (oAs tm) (s1 rfl) <| .nil) (by kernel_rfl) ?_
                        exact pJ2 _ _ (so h) ⟨rfl, trivial⟩ rfl
                    · refine rg (cr (oLdB (n := 0) (k := 0) rfl rfl rfl t4 tm) (s1 rfl) <| cp (oMv tm) (s1 rfl) <| cgB hp91 rfl rfl (oMv tm) (s1 rfl) <| cgB hp91 rfl rfl (oEq rfl tm (cI (by decide))) (s1 rfl) <| cp (oPkT hp91 tm tm) (s2 rfl rfl) <| cp (oMv tm) (s1 rfl) <| cgB (decide_eq_true hp92) rfl rfl (oMv tm) (s1 rfl) <| cgB (decide_eq_true hp92) rfl rfl (oEq rfl tm (cI (by decide))) (s1 rfl) <| cp (oPkT (decide_eq_true hp92) tm tm) (s2 rfl rfl) <| cp (oMv tm) (s1 rfl) <| csB (decide_eq_false hp93) rfl rfl <| csB (decide_eq_false hp93) rfl rfl <| cp (oPkF (decide_eq_false hp93) tm cB) (s1 rfl) <| cp (oMv tm) (s1 rfl) <| csB rfl rfl rfl <| csB rfl rfl rfl <| cp (oPkF rfl tm cB) (s1 rfl) <| cp (oMv tm) (s1 rfl) <| csB rfl rfl rfl <| csB rfl rfl rfl <| csB rfl rfl rfl <| csB rfl rfl rfl <| csB rfl rfl rfl <| csB rfl rfl rfl <| cp (oPkF rfl tm cB) (s1 rfl) <| cp (oMv tm) (s1 rfl) <| csB rfl rfl rfl <| csB rfl rfl rfl <| csB rfl rfl rfl <| csB rfl rfl rfl <| csB rfl rfl rfl <| csB rfl rfl rfl <| cp (oPkF rfl tm cB) (s1 rfl) <| cp (oAs tm) (s1 rfl) <| .nil) (by kernel_rfl) ?_
                      exact pJ2 _ _ (so h) ⟨rfl, trivial⟩ rfl
                  · refine rg (cr (oLdB (n := 0) (k := 0) rfl rfl rfl t4 tm) (s1 rfl) <| cp (oMv tm) (s1 rfl) <| cgB hp91 rfl rfl (oMv tm) (s1 rfl) <| cgB hp91 rfl rfl (oEq rfl tm (cI (by decide))) (s1 rfl) <| cp (oPkT hp91 tm tm) (s2 rfl rfl) <| cp (oMv tm) (s1 rfl) <| csB (decide_eq_false hp92) rfl rfl <| csB (decide_eq_false hp92) rfl rfl <| cp (oPkF (decide_eq_false hp92) tm cB) (s1 rfl) <| cp (oMv tm) (s1 rfl) <| csB rfl rfl rfl <| csB rfl rfl rfl <| cp (oPkF rfl tm cB) (s1 rfl) <| cp (oMv tm) (s1 rfl) <| csB rfl rfl rfl <| csB rfl rfl rfl <| cp (oPkF rfl tm cB) (s1 rfl) <| cp (oMv tm) (s1 rfl) <| csB rfl rfl rfl <| csB rfl rfl rfl <| csB rfl rfl rfl <| csB rfl rfl rfl <| csB rfl rfl rfl <| csB rfl rfl rfl <| cp (oPkF rfl tm cB) (s1 rfl) <| cp (oMv tm) (s1 rfl) <| csB rfl rfl rfl <| csB rfl rfl rfl <| csB rfl rfl rfl <| csB rfl rfl rfl <| csB rfl rfl rfl <| csB rfl rfl rfl <| cp (oPkF rfl tm cB) (s1 rfl) <| cp (oAs tm) (s1 rfl) <| .nil) (by kernel_rfl) ?_
                    exact pJ2 _ _ (so h) ⟨rfl, trivial⟩ rfl
                · refine rg (cr (oLdB (n := 0) (k := 0) rfl rfl rfl t4 tm) (s1 rfl) <| cp (oMv tm) (s1 rfl) <| csB (nb hp91) rfl rfl <| csB (nb hp91) rfl rfl <| cp (oPkF (nb hp91) tm cB) (s1 rfl) <| cp (oMv tm) (s1 rfl) <| csB rfl rfl rfl <| csB rfl rfl rfl <| cp (oPkF rfl tm cB) (s1 rfl) <| cp (oMv tm) (s1 rfl) <| csB rfl rfl rfl <| csB rfl rfl rfl <| cp (oPkF rfl tm cB) (s1 rfl) <| cp (oMv tm) (s1 rfl) <| csB rfl rfl rfl <| csB rfl rfl rfl <| cp (oPkF rfl tm cB) (s1 rfl) <| cp (oMv tm) (s1 rfl) <| csB rfl rfl rfl <| csB rfl rfl rfl <| csB rfl rfl rfl <| csB rfl rfl rfl <| csB rfl rfl rfl <| csB rfl rfl rfl <| cp (oPkF rfl tm cB) (s1 rfl) <| cp (oMv tm) (s1 rfl) <| csB rfl rfl rfl <| csB rfl rfl rfl <| csB rfl rfl rfl <| csB rfl rfl rfl <| csB rfl rfl rfl <| csB rfl rfl rfl <| cp (oPkF rfl tm cB) (s1 rfl) <| cp (oAs tm) (s1 rfl) <| .nil) (by kernel_rfl) ?_
                  exact pJ2 _ _ (so h) ⟨rfl, trivial⟩ rfl
              · rintro x89 x90 rfl
                replace h := hk1
                refine wRet ?_
                obtain rfl := so h
                exact pR1 (.inl rfl) rfl (.tmp rfl <| .nil)

end Go.Proofs.Ythpmbokenhpakaa.LA
