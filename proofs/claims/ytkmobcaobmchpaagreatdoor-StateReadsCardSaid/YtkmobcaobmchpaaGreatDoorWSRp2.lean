import Derived.Test.YtkmobcaobmchpaaGreatDoorShelf
import Derived.Test.YtkmobcaobmchpaaGreatDoorWSRp1
import Derived.Test.YtkmobcaobmchpaaGreatDoorProg
set_option linter.unusedVariables false
set_option maxRecDepth 10000
set_option maxHeartbeats 2000000
namespace Go.Proofs.YtkmobcaobmchpaaGreatDoor.SR
open Go Go.Proofs.YtkmobcaobmchpaaGreatDoor.Ab
theorem code_reader_label.ok {a0 : code_reader} {r : code_reader × Int} (h : code_reader_label.f a0 = some r) : FnS Tryz.prog 358 [.p 70000 0] [.box 70000 369 [.d (kL kS) a0.l_.Names, .d (kL (kI .u32)) a0.l_.Up, .d (kL (kR f_api_Tok)) a0.toks_, .d (kI .i64) a0.i_, .d (kI .i64) a0.bad_]] [70000] (.d ((kI .i64).sig r.2)) [.box 70000 369 [.d (kL kS) r.1.l_.Names, .d (kL (kI .u32)) r.1.l_.Up, .d (kL (kR f_api_Tok)) r.1.toks_, .d (kI .i64) r.1.i_, .d (kI .i64) r.1.bad_]] := by
  refine fnIntroS Tryz.func358 rfl (by kernel_rfl) fun X H0 w0 pv => ?_
  unfold code_reader_label.f at h
  refine wSeq ?_
  refine rg (cp (oAs (cI (by decide))) trivial <| .nil) (by kernel_rfl) ?_
  refine pSeq ?_
  refine wSeq ?_
  obtain ⟨y1, hy1, h⟩ := bd h
  refine rg (cp (oMv tm) (s1 rfl) <| cm (oCallS (rest := []) (R' := [.box 70000 369 [.d (kL kS) y1.l_.Names, .d (kL (kI .u32)) y1.l_.Up, .d (kL (kR f_api_Tok)) y1.toks_, .d (kI .i64) y1.i_, .d (kI .i64) y1.bad_]]) (out' := .d (tup [])) [(70000, 70000)] [] [0] [] [0] rfl (code_reader_mark.ok hy1) b359 (oE1 tm (oE1 (cS (by decide)) oE0)) rfl rfl rfl rfl rfl rfl rfl rfl) (s1 rfl) <| .nil) (by kernel_rfl) ?_
  refine pSeq ?_
  refine wSeq ?_
  obtain ⟨y2, hy2, h⟩ := bd h
  refine rg (cp (oMv tm) (s1 rfl) <| cm (oCallS (rest := []) (R' := [.box 70000 369 [.d (kL kS) y2.1.l_.Names, .d (kL (kI .u32)) y2.1.l_.Up, .d (kL (kR f_api_Tok)) y2.1.toks_, .d (kI .i64) y2.1.i_, .d (kI .i64) y2.1.bad_]]) (out' := .d ((kR f_api_Tok).sig y2.2)) [(70000, 70000)] [] [0] [] [0] rfl (code_reader_tok.ok hy2) b302 (oE1 tm oE0) rfl rfl rfl rfl rfl rfl rfl rfl) (s1 rfl) <| cw (oAlloc (id := 3) (ls := [.d (kI .i64) 0, .d kS [], .d (kI .i64) 0]) ze94 (fun g => ⟨[(.int .i64 0)], _, rfl, zI_i64 g.H, ⟨[(.string ⟨⟨[]⟩⟩)], _, rfl, zS g.H, ⟨[(.int .i64 0)], _, rfl, zI_i64 g.H, rfl⟩⟩⟩)) trivial <| cwn (oStA (n := 0) (fs := f_api_Tok) rfl rfl z94 tm tm) (s2 rfl rfl) <| .nil) (by kernel_rfl) ?_
  refine pSeq ?_
  refine wSeq ?_
  refine wBlock ?_
  refine wSeq ?_
  refine rg (cp (oMv tm) (s1 rfl) <| cp (oNilP tm) (s1 rfl) <| cp (oFldP o369_3 tm) (s1 rfl) <| cr (oLdB (n := 1) (k := 4) rfl rfl rfl t34 tm) (s1 rfl) <| cp (oNe rfl tm (cI (by decide))) (s1 rfl) <| cp (oAs tm) (s1 rfl) <| .nil) (by kernel_rfl) ?_
  refine pSeq ?_
  rcases ic h with ⟨hp3, h⟩ | ⟨hp3, h⟩
  · refine wNT hp3 tm (s1 rfl) ?_
    refine wSeq ?_
    refine rg (cp (oFldP o94_0 tm) (s1 rfl) <| cr (oLdB (n := 0) (k := 0) rfl rfl rfl t3 tm) (s1 rfl) <| cp (oNe rfl tm (cI (by decide))) (s1 rfl) <| cp (oAs tm) (s1 rfl) <| .nil) (by kernel_rfl) ?_
    refine pSeq ?_
    rcases ic h with ⟨hp4, h⟩ | ⟨hp4, h⟩
    · refine wNT hp4 tm (s1 rfl) ?_
      refine wSkip ?_
      refine pBlkN ?_
      refine pSeq ?_
      refine wSeq ?_
      obtain ⟨y5, hy5, h⟩ := bd h
      refine rgD hm (cp (oMv tm) (s1 rfl) <| cp (oNilP tm) (s1 rfl) <| cp (oFldP o369_0 tm) (s1 rfl) <| cr (oLdP (n := 1) (k := 0) (m := 2) (d := (kR f_api_Lattice)) (u := y2.1.l_) (lfS (lfC lf1 (lfC lf1 lfN))) rfl rfl rfl t25 tm) (s1 rfl) <| cp (oFldP o94_1 tm) (s1 rfl) <| cr (oLdB (n := 0) (k := 1) rfl rfl rfl t9 tm) (s1 rfl) <| cp (oCall rfl (order_Find.ok hy5) b217 (opds_cons tm (opds_cons tm opds_nil))) (s2 rfl rfl) <| cp (oMv tm) (s1 rfl) <| cp (oExt (k := 0) rfl tm) (s1 rfl) <| cp (oExt (k := 1) rfl tm) (s1 rfl) <| cp (oAs tm) (s1 rfl) <| cp (oAs tm) (s1 rfl) <| .nil) (by kernel_rfl) (by kernel_rfl) ?_
      refine pSeq ?_
      refine wSeq ?_
      refine wSeq ?_
      refine rg (cp (oMv tm) (s1 rfl) <| cp (oNe rfl tm (cI (by decide))) (s1 rfl) <| .nil) (by kernel_rfl) ?_
      refine pSeq ?_
      rcases ic h with ⟨hp6, h⟩ | ⟨hp6, h⟩
      · refine wNT hp6 tm (s1 rfl) ?_
        refine wSkip ?_
        refine pSeq ?_
        refine wSeq ?_
        refine rg (cp (oMv tm) (s1 rfl) <| cp (oNilP tm) (s1 rfl) <| cp (oFldP o369_2 tm) (s1 rfl) <| cr (oLdB (n := 1) (k := 3) rfl rfl rfl t3 tm) (s1 rfl) <| cp (oAdd tm (cI (by decide))) (s1 rfl) <| cp (oNilP tm) (s1 rfl) <| cp (oFldP o369_2 tm) (s1 rfl) <| cwn (oSt (n := 1) (k := 3) rfl rfl rfl rfl z3 tm tm) (s2 rfl rfl) <| .nil) (by kernel_rfl) ?_
        refine pSeq ?_
        refine wSeq ?_
        refine rg (cp (oMv tm) (s1 rfl) <| cp (oAs tm) (s1 rfl) <| .nil) (by kernel_rfl) ?_
        refine pSeq ?_
        refine wRet ?_
        obtain rfl := so h
        exact pS1 [1] rfl rfl (.inl rfl) rfl (.tmp rfl <| .nil)
      · refine wNF hp6 tm (s1 rfl) ?_
        refine wSeq ?_
        obtain ⟨y7, hy7, h⟩ := bd h
        refine rg (cp (oMv tm) (s1 rfl) <| cm (oCallS (rest := [.box 3 94 [.d (kI .i64) y2.2.Kind, .d kS y2.2.Text, .d (kI .i64) y2.2.At]]) (R' := [.box 3 94 [.d (kI .i64) y2.2.Kind, .d kS y2.2.Text, .d (kI .i64) y2.2.At], .box 70000 369 [.d (kL kS) y7.l_.Names, .d (kL (kI .u32)) y7.l_.Up, .d (kL (kR f_api_Tok)) y7.toks_, .d (kI .i64) y7.i_, .d (kI .i64) y7.bad_]]) (out' := .d (tup [])) [(70000, 70000)] [] [1] [0] [1, 0] rfl (code_reader_fail.ok hy7) b303 (oE1 tm (oE1 (cI (by decide)) oE0)) rfl rfl rfl rfl rfl rfl rfl rfl) (s1 rfl) <| .nil) (by kernel_rfl) ?_
        refine pSeq ?_
        refine wSeq ?_
        refine rg (cp (oAs (cI (by decide))) trivial <| .nil) (by kernel_rfl) ?_
        refine pSeq ?_
        refine wRet ?_
        refine pThenR ?_
        obtain rfl := so h
        exact pS1 [1] rfl rfl (.inl rfl) rfl (.tmp rfl <| .nil)
    · refine wNF hp4 tm (s1 rfl) ?_
      refine wSeq ?_
      obtain ⟨y8, hy8, h⟩ := bd h
      refine rg (cp (oMv tm) (s1 rfl) <| cm (oCallS (rest := [.box 3 94 [.d (kI .i64) y2.2.Kind, .d kS y2.2.Text, .d (kI .i64) y2.2.At]]) (R' := [.box 3 94 [.d (kI .i64) y2.2.Kind, .d kS y2.2.Text, .d (kI .i64) y2.2.At], .box 70000 369 [.d (kL kS) y8.l_.Names, .d (kL (kI .u32)) y8.l_.Up, .d (kL (kR f_api_Tok)) y8.toks_, .d (kI .i64) y8.i_, .d (kI .i64) y8.bad_]]) (out' := .d (tup [])) [(70000, 70000)] [] [1] [0] [1, 0] rfl (code_reader_fail.ok hy8) b303 (oE1 tm (oE1 (cI (by decide)) oE0)) rfl rfl rfl rfl rfl rfl rfl rfl) (s1 rfl) <| .nil) (by kernel_rfl) ?_
      refine pSeq ?_
      refine wSeq ?_
      refine rg (cp (oAs (cI (by decide))) trivial <| .nil) (by kernel_rfl) ?_
      refine pSeq ?_
      refine wRet ?_
      refine pBlkR ?_
      refine pThenR ?_
      obtain rfl := so h
      exact pS1 [1] rfl rfl (.inl rfl) rfl (.tmp rfl <| .nil)
  · refine wNF hp3 tm (s1 rfl) ?_
    refine wSeq ?_
    refine rg (cp (oAs (cI (by decide))) trivial <| .nil) (by kernel_rfl) ?_
    refine pSeq ?_
    refine wRet ?_
    refine pBlkR ?_
    refine pThenR ?_
    obtain rfl := so h
    exact pS1 [1] rfl rfl (.inl rfl) rfl (.tmp rfl <| .nil)
theorem code_right.ok {a0 : Int} {a1 : api_Instr} {r : Bool} (h : code_right.f a0 a1 = some r) : FnA Tryz.prog 139 [(kI .i64).sig a0, (kR f_api_Instr).sig a1] (kB.sig r) := by
  refine fnIntro Tryz.func139 rfl (by kernel_rfl) fun H0 w0 => ?_
  unfold code_right.f at h
  refine wSeq ?_
  refine rg (cp (oBox tm) (s1 rfl) <| cp (oAs cB) trivial <| .nil) (by kernel_rfl) ?_
  refine pSeq ?_
  refine wSeq ?_
  obtain ⟨o1, h, hk1⟩ := bd h
  refine wJ1 (fun x2 => x2 = o1) (fun x2 => [(0, .d ((kI .i64).sig a0)), (3, .d (sP (kR f_api_Instr) a1)), (14, .d (kB.sig x2))]) (fun x2 => []) ?_ ?_
  · rcases ic h with ⟨hp3, h⟩ | ⟨hp3, h⟩
    · refine rg (cp (oFld (fs := f_api_Instr) (k := 0) rfl o136_0 tm) (s1 rfl) <| cp (oLd t3 tm) (s1 rfl) <| cp (oLt rfl tm (cI (by decide))) (s1 rfl) <| cp (oMv tm) (s1 rfl) <| csB (decide_eq_true hp3) rfl rfl <| csB (decide_eq_true hp3) rfl rfl <| csB (decide_eq_true hp3) rfl rfl <| cp (oPkT (decide_eq_true hp3) tm cB) (s1 rfl) <| .nil) (by kernel_rfl) ?_
      exact pJ1 _ (so h) ⟨rfl, rfl, rfl, trivial⟩ rfl
    · refine rg (cp (oFld (fs := f_api_Instr) (k := 0) rfl o136_0 tm) (s1 rfl) <| cp (oLd t3 tm) (s1 rfl) <| cp (oLt rfl tm (cI (by decide))) (s1 rfl) <| cp (oMv tm) (s1 rfl) <| cgB (decide_eq_false hp3) rfl rfl (oFld (fs := f_api_Instr) (k := 0) rfl o136_0 tm) (s1 rfl) <| cgB (decide_eq_false hp3) rfl rfl (oLd t3 tm) (s1 rfl) <| cgB (decide_eq_false hp3) rfl rfl (oGe rfl tm (cI (by decide))) (s1 rfl) <| cp (oPkF (decide_eq_false hp3) tm tm) (s2 rfl rfl) <| .nil) (by kernel_rfl) ?_
      exact pJ1 _ (so h) ⟨rfl, rfl, rfl, trivial⟩ rfl
  · rintro x2 rfl
    replace h := hk1
    rcases ic h with ⟨hp4, h⟩ | ⟨hp4, h⟩
    · refine wBT hp4 tm (s1 rfl) ?_
      refine wSeq ?_
      refine rg (cp (oAs cB) trivial <| .nil) (by kernel_rfl) ?_
      refine pSeq ?_
      refine wRet ?_
      refine pThenR ?_
      obtain rfl := so h
      exact pR1 (.inl rfl) rfl (.tmp rfl <| .nil)
    · refine wBF hp4 tm (s1 rfl) ?_
      refine wSkip ?_
      refine pSeq ?_
      refine wSeq ?_
      refine wSeq ?_
      obtain ⟨y5, hy5, h⟩ := bd h
      refine rgD hm (cp (oCall rfl (code_spans.ok hy5) b228 opds_nil) trivial <| cp (oFld (fs := f_api_Instr) (k := 0) rfl o136_0 tm) (s1 rfl) <| cp (oLd t3 tm) (s1 rfl) <| cp (oLookup u294 mk3 zv114 zFn rfl tm tm) (s2 rfl rfl) <| cp (oMv tm) (s1 rfl) <| cp (oExt (k := 0) rfl tm) (s1 rfl) <| cp (oExt (k := 1) rfl tm) (s1 rfl) <| cp (oAs tm) (s1 rfl) <| cp (oAs tm) (s1 rfl) <| .nil) (by kernel_rfl) (by kernel_rfl) ?_
      refine pSeq ?_
      obtain ⟨o1, h, hk1⟩ := bd h
      refine wJ1 (fun x12 => x12 = o1) (fun x12 => [(0, .d ((kI .i64).sig a0)), (3, .d (sP (kR f_api_Instr) a1)), (38, .d (kB.sig x12))]) (fun x12 => []) ?_ ?_
      · rcases ic h with ⟨hp13, h⟩ | ⟨hp13, h⟩
        · obtain ⟨y14, hy14, h⟩ := bd h
          obtain ⟨y15, hy15, h⟩ := bd h
          rcases ic h with ⟨hp16, h⟩ | ⟨hp16, h⟩
          · refine rg (cp (oMv tm) (s1 rfl) <| cp (oMv tm) (s1 rfl) <| cgB hp13 rfl rfl (oMv tm) (s1 rfl) <| cgB hp13 rfl rfl (oFld (fs := f_api_Instr) (k := 1) rfl o136_1 tm) (s1 rfl) <| cgB hp13 rfl rfl (oLd t3 tm) (s1 rfl) <| cgB hp13 rfl rfl (oCallV rfl (rl1i hy15) (oGot hy14 tm) (opds_cons tm opds_nil)) (s2 rfl rfl) <| cgB hp13 rfl rfl (oNot tm) (s1 rfl) <| cp (oPkT hp13 tm tm) (s2 rfl rfl) <| cp (oMv tm) (s1 rfl) <| csB hp16 rfl rfl <| csB hp16 rfl rfl <| csB hp16 rfl rfl <| csU rfl rfl <| csU rfl rfl <| csU rfl rfl <| csB hp16 rfl rfl <| cp (oPkT hp16 tm cB) (s1 rfl) <| .nil) (by kernel_rfl) ?_
            exact pJ1 _ (so h) ⟨rfl, rfl, rfl, trivial⟩ rfl
          · rcases ic h with ⟨hp17, h⟩ | ⟨hp17, h⟩
            · refine rg (cp (oMv tm) (s1 rfl) <| cp (oMv tm) (s1 rfl) <| cgB hp13 rfl rfl (oMv tm) (s1 rfl) <| cgB hp13 rfl rfl (oFld (fs := f_api_Instr) (k := 1) rfl o136_1 tm) (s1 rfl) <| cgB hp13 rfl rfl (oLd t3 tm) (s1 rfl) <| cgB hp13 rfl rfl (oCallV rfl (rl1i hy15) (oGot hy14 tm) (opds_cons tm opds_nil)) (s2 rfl rfl) <| cgB hp13 rfl rfl (oNot tm) (s1 rfl) <| cp (oPkT hp13 tm tm) (s2 rfl rfl) <| cp (oMv tm) (s1 rfl) <| cgB (nb hp16) rfl rfl (oMv tm) (s1 rfl) <| cgB (nb hp16) rfl rfl (oNot tm) (s1 rfl) <| cgB (nb hp16) rfl rfl (oMv tm) (s1 rfl) <| cgB hp17 rfl rfl (oFld (fs := f_api_Instr) (k := 1) rfl o136_1 tm) (s1 rfl) <| cgB hp17 rfl rfl (oLd t3 tm) (s1 rfl) <| cgB hp17 rfl rfl (oNe rfl tm (cI (by decide))) (s1 rfl) <| cgB (nb hp16) rfl rfl (oPkT hp17 tm tm) (s2 rfl rfl) <| cp (oPkF (nb hp16) tm tm) (s2 rfl rfl) <| .nil) (by kernel_rfl) ?_
              exact pJ1 _ (so h) ⟨rfl, rfl, rfl, trivial⟩ rfl
            · refine rg (cp (oMv tm) (s1 rfl) <| cp (oMv tm) (s1 rfl) <| cgB hp13 rfl rfl (oMv tm) (s1 rfl) <| cgB hp13 rfl rfl (oFld (fs := f_api_Instr) (k := 1) rfl o136_1 tm) (s1 rfl) <| cgB hp13 rfl rfl (oLd t3 tm) (s1 rfl) <| cgB hp13 rfl rfl (oCallV rfl (rl1i hy15) (oGot hy14 tm) (opds_cons tm opds_nil)) (s2 rfl rfl) <| cgB hp13 rfl rfl (oNot tm) (s1 rfl) <| cp (oPkT hp13 tm tm) (s2 rfl rfl) <| cp (oMv tm) (s1 rfl) <| cgB (nb hp16) rfl rfl (oMv tm) (s1 rfl) <| cgB (nb hp16) rfl rfl (oNot tm) (s1 rfl) <| cgB (nb hp16) rfl rfl (oMv tm) (s1 rfl) <| csB (nb hp17) rfl rfl <| csB (nb hp17) rfl rfl <| csB (nb hp17) rfl rfl <| cgB (nb hp16) rfl rfl (oPkF (nb hp17) tm cB) (s1 rfl) <| cp (oPkF (nb hp16) tm tm) (s2 rfl rfl) <| .nil) (by kernel_rfl) ?_
              exact pJ1 _ (so h) ⟨rfl, rfl, rfl, trivial⟩ rfl
        · rcases ic h with ⟨hp18, h⟩ | ⟨hp18, h⟩
          · refine rg (cp (oMv tm) (s1 rfl) <| cp (oMv tm) (s1 rfl) <| csB (nb hp13) rfl rfl <| csB (nb hp13) rfl rfl <| csB (nb hp13) rfl rfl <| csB (nb hp13) rfl rfl <| csB (nb hp13) rfl rfl <| cp (oPkF (nb hp13) tm cB) (s1 rfl) <| cp (oMv tm) (s1 rfl) <| cgB rfl rfl rfl (oMv tm) (s1 rfl) <| cgB rfl rfl rfl (oNot tm) (s1 rfl) <| cgB rfl rfl rfl (oMv tm) (s1 rfl) <| cgB hp18 rfl rfl (oFld (fs := f_api_Instr) (k := 1) rfl o136_1 tm) (s1 rfl) <| cgB hp18 rfl rfl (oLd t3 tm) (s1 rfl) <| cgB hp18 rfl rfl (oNe rfl tm (cI (by decide))) (s1 rfl) <| cgB rfl rfl rfl (oPkT hp18 tm tm) (s2 rfl rfl) <| cp (oPkF rfl tm tm) (s2 rfl rfl) <| .nil) (by kernel_rfl) ?_
            exact pJ1 _ (so h) ⟨rfl, rfl, rfl, trivial⟩ rfl
          · refine rg (cp (oMv tm) (s1 rfl) <| cp (oMv tm) (s1 rfl) <| csB (nb hp13) rfl rfl <| csB (nb hp13) rfl rfl <| csB (nb hp13) rfl rfl <| csB (nb hp13) rfl rfl <| csB (nb hp13) rfl rfl <| cp (oPkF (nb hp13) tm cB) (s1 rfl) <| cp (oMv tm) (s1 rfl) <| cgB rfl rfl rfl (oMv tm) (s1 rfl) <| cgB rfl rfl rfl (oNot tm) (s1 rfl) <| cgB rfl rfl rfl (oMv tm) (s1 rfl) <| csB (nb hp18) rfl rfl <| csB (nb hp18) rfl rfl <| csB (nb hp18) rfl rfl <| cgB rfl rfl rfl (oPkF (nb hp18) tm cB) (s1 rfl) <| cp (oPkF rfl tm tm) (s2 rfl rfl) <| .nil) (by kernel_rfl) ?_
            exact pJ1 _ (so h) ⟨rfl, rfl, rfl, trivial⟩ rfl
      · rintro x12 rfl
        replace h := hk1
        rcases ic h with ⟨hp19, h⟩ | ⟨hp19, h⟩
        · refine wBT hp19 tm (s1 rfl) ?_
          refine wSeq ?_
          refine rg (cp (oAs cB) trivial <| .nil) (by kernel_rfl) ?_
          refine pSeq ?_
          refine wRet ?_
          refine pThenR ?_
          obtain rfl := so h
          exact pR1 (.inl rfl) rfl (.tmp rfl <| .nil)
        · refine wBF hp19 tm (s1 rfl) ?_
          refine wSkip ?_
          refine pSeq ?_
          refine wSeq ?_
          refine wSeq ?_
          refine rg (cp (oFld (fs := f_api_Instr) (k := 0) rfl o136_0 tm) (s1 rfl) <| cp (oLd t3 tm) (s1 rfl) <| cp (oEq rfl tm (cI (by decide))) (s1 rfl) <| .nil) (by kernel_rfl) ?_
          refine pSeq ?_
          rcases ic h with ⟨hp20, h⟩ | ⟨hp20, h⟩
          · refine wCT hp20 tm (s1 rfl) ?_
            obtain ⟨o1, h, hk1⟩ := bd h
            refine wJ1 (fun x22 => x22 = o1) (fun x22 => [(4, .d (kB.sig x22))]) (fun x22 => []) ?_ ?_
            · rcases ic h with ⟨hp23, h⟩ | ⟨hp23, h⟩
              · refine rg (cp (oFld (fs := f_api_Instr) (k := 2) rfl o136_2 tm) (s1 rfl) <| cp (oLd t3 tm) (s1 rfl) <| cp (oGe rfl tm (cI (by decide))) (s1 rfl) <| cp (oMv tm) (s1 rfl) <| cgB (decide_eq_true hp23) rfl rfl (oFld (fs := f_api_Instr) (k := 2) rfl o136_2 tm) (s1 rfl) <| cgB (decide_eq_true hp23) rfl rfl (oLd t3 tm) (s1 rfl) <| cgB (decide_eq_true hp23) rfl rfl (oMv tm) (s1 rfl) <| cgB (decide_eq_true hp23) rfl rfl (oLt rfl tm tm) (s2 rfl rfl) <| cp (oPkT (decide_eq_true hp23) tm tm) (s2 rfl rfl) <| cp (oAs tm) (s1 rfl) <| .nil) (by kernel_rfl) ?_
                exact pJ1 _ (so h) ⟨rfl, trivial⟩ rfl
              · refine rg (cp (oFld (fs := f_api_Instr) (k := 2) rfl o136_2 tm) (s1 rfl) <| cp (oLd t3 tm) (s1 rfl) <| cp (oGe rfl tm (cI (by decide))) (s1 rfl) <| cp (oMv tm) (s1 rfl) <| csB (decide_eq_false hp23) rfl rfl <| csB (decide_eq_false hp23) rfl rfl <| csB (decide_eq_false hp23) rfl rfl <| csB (decide_eq_false hp23) rfl rfl <| cp (oPkF (decide_eq_false hp23) tm cB) (s1 rfl) <| cp (oAs tm) (s1 rfl) <| .nil) (by kernel_rfl) ?_
                exact pJ1 _ (so h) ⟨rfl, trivial⟩ rfl
            · rintro x22 rfl
              replace h := hk1
              refine wRet ?_
              refine pThenR ?_
              obtain rfl := so h
              exact pR1 (.inl rfl) rfl (.tmp rfl <| .nil)
          · refine wCF hp20 tm (s1 rfl) ?_
            refine wSkip ?_
            refine pSeq ?_
            refine wSeq ?_
            refine rg (cp (oFld (fs := f_api_Instr) (k := 2) rfl o136_2 tm) (s1 rfl) <| cp (oLd t3 tm) (s1 rfl) <| cp (oEq rfl tm (cI (by decide))) (s1 rfl) <| cp (oAs tm) (s1 rfl) <| .nil) (by kernel_rfl) ?_
            refine pSeq ?_
            refine wRet ?_
            obtain rfl := so h
            exact pR1 (.inl rfl) rfl (.tmp rfl <| .nil)
theorem code_reader_one.ok {a0 : code_reader} {a1 : Int} {r : code_reader × api_Instr} (h : code_reader_one.f a0 a1 = some r) : FnS Tryz.prog 304 [.p 70000 0, .d ((kI .i64).sig a1)] [.box 70000 369 [.d (kL kS) a0.l_.Names, .d (kL (kI .u32)) a0.l_.Up, .d (kL (kR f_api_Tok)) a0.toks_, .d (kI .i64) a0.i_, .d (kI .i64) a0.bad_]] [70000] (.d ((kR f_api_Instr).sig r.2)) [.box 70000 369 [.d (kL kS) r.1.l_.Names, .d (kL (kI .u32)) r.1.l_.Up, .d (kL (kR f_api_Tok)) r.1.toks_, .d (kI .i64) r.1.i_, .d (kI .i64) r.1.bad_]] := by
  refine fnIntroS Tryz.func304 rfl (by kernel_rfl) fun X H0 w0 pv => ?_
  unfold code_reader_one.f at h
  refine wSeq ?_
  refine rg (cw (oAlloc (id := 4) (ls := [.d (kI .i64) 0, .d (kI .i64) 0, .d (kI .i64) 0]) ze136 (fun g => ⟨[(.int .i64 0)], _, rfl, zI_i64 g.H, ⟨[(.int .i64 0)], _, rfl, zI_i64 g.H, ⟨[(.int .i64 0)], _, rfl, zI_i64 g.H, rfl⟩⟩⟩)) trivial <| .nil) (by kernel_rfl) ?_
  refine pSeq ?_
  refine wSeq ?_
  refine rg (cp (oMv tm) (s1 rfl) <| cp (oNilP tm) (s1 rfl) <| cp (oFldP o369_2 tm) (s1 rfl) <| cr (oLdB (n := 1) (k := 3) rfl rfl rfl t3 tm) (s1 rfl) <| cp (oAs tm) (s1 rfl) <| .nil) (by kernel_rfl) ?_
  refine pSeq ?_
  refine wSeq ?_
  refine rg (cp (oMv tm) (s1 rfl) <| cp (oBuild (fs := f_api_Instr) (u := ⟨a1, 0, 0⟩) rfl ze136 pl136 po136 (.op (zc := [(.int .i64 0)]) tm rfl (.ze (zc := [(.int .i64 0)]) zI_i64 (.ze (zc := [(.int .i64 0)]) zI_i64 .nil)))) (s1 rfl) <| cw (oAlloc (id := 6) (ls := [.d (kI .i64) 0, .d (kI .i64) 0, .d (kI .i64) 0]) ze136 (fun g => ⟨[(.int .i64 0)], _, rfl, zI_i64 g.H, ⟨[(.int .i64 0)], _, rfl, zI_i64 g.H, ⟨[(.int .i64 0)], _, rfl, zI_i64 g.H, rfl⟩⟩⟩)) trivial <| cwn (oStA (n := 0) (fs := f_api_Instr) rfl rfl z136 tm tm) (s2 rfl rfl) <| .nil) (by kernel_rfl) ?_
  refine pSeq ?_
  refine wSeq ?_
  refine wSeq ?_
  refine rg (cp (oMv tm) (s1 rfl) <| cp (oNilP tm) (s1 rfl) <| cp (oFldP o369_2 tm) (s1 rfl) <| cr (oLdB (n := 2) (k := 3) rfl rfl rfl t3 tm) (s1 rfl) <| cp (oAdd tm (cI (by decide))) (s1 rfl) <| cp (oNilP tm) (s1 rfl) <| cp (oFldP o369_2 tm) (s1 rfl) <| cwn (oSt (n := 2) (k := 3) rfl rfl rfl rfl z3 tm tm) (s2 rfl rfl) <| .nil) (by kernel_rfl) ?_
  refine pSeq ?_
  refine wSeq ?_
  obtain ⟨y1, hy1, h⟩ := bd h
  refine rg (cp (oMv tm) (s1 rfl) <| cp (oCall rfl (code_number.ok hy1) b131 (opds_cons tm opds_nil)) (s1 rfl) <| .nil) (by kernel_rfl) ?_
  refine pSeq ?_
  rcases ic h with ⟨hp2, h⟩ | ⟨hp2, h⟩
  · refine wBT hp2 tm (s1 rfl) ?_
    obtain ⟨y3, hy3, h⟩ := bd h
    refine rg (cp (oMv tm) (s1 rfl) <| cm (oCallS (rest := [.box 6 136 [.d (kI .i64) a1, .d (kI .i64) 0, .d (kI .i64) 0], .box 4 136 [.d (kI .i64) 0, .d (kI .i64) 0, .d (kI .i64) 0]]) (R' := [.box 6 136 [.d (kI .i64) a1, .d (kI .i64) 0, .d (kI .i64) 0], .box 4 136 [.d (kI .i64) 0, .d (kI .i64) 0, .d (kI .i64) 0], .box 70000 369 [.d (kL kS) y3.1.l_.Names, .d (kL (kI .u32)) y3.1.l_.Up, .d (kL (kR f_api_Tok)) y3.1.toks_, .d (kI .i64) y3.1.i_, .d (kI .i64) y3.1.bad_]]) (out' := .d ((kI .i64).sig y3.2)) [(70000, 70000)] [] [2] [0, 1] [1, 2, 0] rfl (code_reader_number.ok hy3) b357 (oE1 tm oE0) rfl rfl rfl rfl rfl rfl rfl rfl) (s1 rfl) <| cp (oFldP o136_1 tm) (s1 rfl) <| cwn (oSt (n := 0) (k := 1) rfl rfl rfl rfl z3 tm tm) (s2 rfl rfl) <| .nil) (by kernel_rfl) ?_
    refine pSeq ?_
    refine wSeq ?_
    obtain ⟨o1, h, hk1⟩ := bd h
    refine wJ1 (fun x5 => x5 = o1) (fun x5 => [(0, .p 70000 0), (4, .p 4 0), (5, .d ((kI .i64).sig a0.i_)), (6, .p 6 0), (33, .d (kB.sig x5))]) (fun x5 => [.box 6 136 [.d (kI .i64) a1, .d (kI .i64) y3.2, .d (kI .i64) 0], .box 4 136 [.d (kI .i64) 0, .d (kI .i64) 0, .d (kI .i64) 0], .box 70000 369 [.d (kL kS) y3.1.l_.Names, .d (kL (kI .u32)) y3.1.l_.Up, .d (kL (kR f_api_Tok)) y3.1.toks_, .d (kI .i64) y3.1.i_, .d (kI .i64) y3.1.bad_]]) ?_ ?_
    · rcases ic h with ⟨hp6, h⟩ | ⟨hp6, h⟩
      · refine rg (cp (oMv tm) (s1 rfl) <| cp (oEq rfl tm (cI (by decide))) (s1 rfl) <| cp (oMv tm) (s1 rfl) <| cgB (decide_eq_true hp6) rfl rfl (oMv tm) (s1 rfl) <| cgB (decide_eq_true hp6) rfl rfl (oNilP tm) (s1 rfl) <| cgB (decide_eq_true hp6) rfl rfl (oFldP o369_3 tm) (s1 rfl) <| crgB (decide_eq_true hp6) rfl rfl (oLdB (n := 2) (k := 4) rfl rfl rfl t34 tm) (s1 rfl) <| cgB (decide_eq_true hp6) rfl rfl (oEq rfl tm (cI (by decide))) (s1 rfl) <| cp (oPkT (decide_eq_true hp6) tm tm) (s2 rfl rfl) <| .nil) (by kernel_rfl) ?_
        exact pJ1 _ (so h) ⟨rfl, rfl, rfl, rfl, rfl, trivial⟩ rfl
      · refine rg (cp (oMv tm) (s1 rfl) <| cp (oEq rfl tm (cI (by decide))) (s1 rfl) <| cp (oMv tm) (s1 rfl) <| csB (decide_eq_false hp6) rfl rfl <| csB (decide_eq_false hp6) rfl rfl <| csB (decide_eq_false hp6) rfl rfl <| csB (decide_eq_false hp6) rfl rfl <| csB (decide_eq_false hp6) rfl rfl <| cp (oPkF (decide_eq_false hp6) tm cB) (s1 rfl) <| .nil) (by kernel_rfl) ?_
        exact pJ1 _ (so h) ⟨rfl, rfl, rfl, rfl, rfl, trivial⟩ rfl
    · rintro x5 rfl
      replace h := hk1
      rcases ic h with ⟨hp7, h⟩ | ⟨hp7, h⟩
      · refine wBT hp7 tm (s1 rfl) ?_
        obtain ⟨y8, hy8, h⟩ := bd h
        refine rg (cp (oMv tm) (s1 rfl) <| cm (oCallS (rest := [.box 6 136 [.d (kI .i64) a1, .d (kI .i64) y3.2, .d (kI .i64) 0], .box 4 136 [.d (kI .i64) 0, .d (kI .i64) 0, .d (kI .i64) 0]]) (R' := [.box 6 136 [.d (kI .i64) a1, .d (kI .i64) y3.2, .d (kI .i64) 0], .box 4 136 [.d (kI .i64) 0, .d (kI .i64) 0, .d (kI .i64) 0], .box 70000 369 [.d (kL kS) y8.1.l_.Names, .d (kL (kI .u32)) y8.1.l_.Up, .d (kL (kR f_api_Tok)) y8.1.toks_, .d (kI .i64) y8.1.i_, .d (kI .i64) y8.1.bad_]]) (out' := .d ((kI .i64).sig y8.2)) [(70000, 70000)] [] [2] [0, 1] [1, 2, 0] rfl (code_reader_label.ok hy8) b358 (oE1 tm oE0) rfl rfl rfl rfl rfl rfl rfl rfl) (s1 rfl) <| cp (oFldP o136_2 tm) (s1 rfl) <| cwn (oSt (n := 0) (k := 2) rfl rfl rfl rfl z3 tm tm) (s2 rfl rfl) <| .nil) (by kernel_rfl) ?_
        refine pSeq ?_
        refine wSeq ?_
        obtain ⟨y9, hy9, h⟩ := bd h
        refine rg (cp (oMv tm) (s1 rfl) <| cm (oCallS (rest := [.box 6 136 [.d (kI .i64) a1, .d (kI .i64) y3.2, .d (kI .i64) y8.2], .box 4 136 [.d (kI .i64) 0, .d (kI .i64) 0, .d (kI .i64) 0]]) (R' := [.box 6 136 [.d (kI .i64) a1, .d (kI .i64) y3.2, .d (kI .i64) y8.2], .box 4 136 [.d (kI .i64) 0, .d (kI .i64) 0, .d (kI .i64) 0], .box 70000 369 [.d (kL kS) y9.l_.Names, .d (kL (kI .u32)) y9.l_.Up, .d (kL (kR f_api_Tok)) y9.toks_, .d (kI .i64) y9.i_, .d (kI .i64) y9.bad_]]) (out' := .d (tup [])) [(70000, 70000)] [] [2] [0, 1] [1, 2, 0] rfl (code_reader_mark.ok hy9) b359 (oE1 tm (oE1 (cS (by decide)) oE0)) rfl rfl rfl rfl rfl rfl rfl rfl) (s1 rfl) <| .nil) (by kernel_rfl) ?_
        refine pSeq ?_
        refine wSeq ?_
        obtain ⟨o1, h, hk1⟩ := bd h
        refine wJ1 (fun x12 => x12 = o1) (fun x12 => [(0, .p 70000 0), (4, .p 4 0), (5, .d ((kI .i64).sig a0.i_)), (6, .p 6 0), (54, .d (kB.sig x12))]) (fun x12 => [.box 6 136 [.d (kI .i64) a1, .d (kI .i64) y3.2, .d (kI .i64) y8.2], .box 4 136 [.d (kI .i64) 0, .d (kI .i64) 0, .d (kI .i64) 0], .box 70000 369 [.d (kL kS) y9.l_.Names, .d (kL (kI .u32)) y9.l_.Up, .d (kL (kR f_api_Tok)) y9.toks_, .d (kI .i64) y9.i_, .d (kI .i64) y9.bad_]]) ?_ ?_
        · rcases ic h with ⟨hp13, h⟩ | ⟨hp13, h⟩
          · obtain ⟨y14, hy14, h⟩ := bd h
            refine rgD hm (cp (oMv tm) (s1 rfl) <| cp (oNilP tm) (s1 rfl) <| cp (oFldP o369_3 tm) (s1 rfl) <| cr (oLdB (n := 2) (k := 4) rfl rfl rfl t34 tm) (s1 rfl) <| cp (oEq rfl tm (cI (by decide))) (s1 rfl) <| cp (oMv tm) (s1 rfl) <| cgB (decide_eq_true hp13) rfl rfl (oMv tm) (s1 rfl) <| cgB (decide_eq_true hp13) rfl rfl (oNilP tm) (s1 rfl) <| cgB (decide_eq_true hp13) rfl rfl (oFldP o369_0 tm) (s1 rfl) <| cgB (decide_eq_true hp13) rfl rfl (oFldP o25_1 tm) (s1 rfl) <| crgB (decide_eq_true hp13) rfl rfl (oLdB (n := 2) (k := 1) rfl rfl rfl t23 tm) (s1 rfl) <| cgB (decide_eq_true hp13) rfl rfl (oLenL u23 tm) (s1 rfl) <| crgB (decide_eq_true hp13) rfl rfl (oLdA (n := 0) (fs := f_api_Instr) (u := ⟨a1, y3.2, y8.2⟩) rfl ⟨rfl, rfl, rfl, trivial⟩ t136 tm) (s1 rfl) <| cgB (decide_eq_true hp13) rfl rfl (oCall rfl (code_right.ok hy14) b139 (opds_cons tm (opds_cons tm opds_nil))) (s2 rfl rfl) <| cgB (decide_eq_true hp13) rfl rfl (oNot tm) (s1 rfl) <| cp (oPkT (decide_eq_true hp13) tm tm) (s2 rfl rfl) <| .nil) (by kernel_rfl) (by kernel_rfl) ?_
            exact pJ1 _ (so h) ⟨rfl, rfl, rfl, rfl, rfl, trivial⟩ rfl
          · refine rgD hm (cp (oMv tm) (s1 rfl) <| cp (oNilP tm) (s1 rfl) <| cp (oFldP o369_3 tm) (s1 rfl) <| cr (oLdB (n := 2) (k := 4) rfl rfl rfl t34 tm) (s1 rfl) <| cp (oEq rfl tm (cI (by decide))) (s1 rfl) <| cp (oMv tm) (s1 rfl) <| csB (decide_eq_false hp13) rfl rfl <| csB (decide_eq_false hp13) rfl rfl <| csB (decide_eq_false hp13) rfl rfl <| csB (decide_eq_false hp13) rfl rfl <| csB (decide_eq_false hp13) rfl rfl <| csB (decide_eq_false hp13) rfl rfl <| csB (decide_eq_false hp13) rfl rfl <| csB (decide_eq_false hp13) rfl rfl <| csB (decide_eq_false hp13) rfl rfl <| cp (oPkF (decide_eq_false hp13) tm cB) (s1 rfl) <| .nil) (by kernel_rfl) (by kernel_rfl) ?_
            exact pJ1 _ (so h) ⟨rfl, rfl, rfl, rfl, rfl, trivial⟩ rfl
        · rintro x12 rfl
          replace h := hk1
          rcases ic h with ⟨hp15, h⟩ | ⟨hp15, h⟩
          · refine wBT hp15 tm (s1 rfl) ?_
            refine wSeq ?_
            refine rg (cp (oMv tm) (s1 rfl) <| cp (oMv tm) (s1 rfl) <| cp (oNilP tm) (s1 rfl) <| cp (oFldP o369_2 tm) (s1 rfl) <| cwn (oSt (n := 2) (k := 3) rfl rfl rfl rfl z3 tm tm) (s2 rfl rfl) <| .nil) (by kernel_rfl) ?_
            refine pSeq ?_
            obtain ⟨y16, hy16, h⟩ := bd h
            refine rg (cp (oMv tm) (s1 rfl) <| cm (oCallS (rest := [.box 6 136 [.d (kI .i64) a1, .d (kI .i64) y3.2, .d (kI .i64) y8.2], .box 4 136 [.d (kI .i64) 0, .d (kI .i64) 0, .d (kI .i64) 0]]) (R' := [.box 6 136 [.d (kI .i64) a1, .d (kI .i64) y3.2, .d (kI .i64) y8.2], .box 4 136 [.d (kI .i64) 0, .d (kI .i64) 0, .d (kI .i64) 0], .box 70000 369 [.d (kL kS) y16.l_.Names, .d (kL (kI .u32)) y16.l_.Up, .d (kL (kR f_api_Tok)) y16.toks_, .d (kI .i64) y16.i_, .d (kI .i64) y16.bad_]]) (out' := .d (tup [])) [(70000, 70000)] [] [2] [0, 1] [1, 2, 0] rfl (code_reader_fail.ok hy16) b303 (oE1 tm (oE1 (cI (by decide)) oE0)) rfl rfl rfl rfl rfl rfl rfl rfl) (s1 rfl) <| .nil) (by kernel_rfl) ?_
            refine pSeq ?_
            refine wSeq ?_
            refine rg (cr (oLdA (n := 0) (fs := f_api_Instr) (u := ⟨a1, y3.2, y8.2⟩) rfl ⟨rfl, rfl, rfl, trivial⟩ t136 tm) (s1 rfl) <| cwn (oStA (n := 1) (fs := f_api_Instr) rfl rfl z136 tm tm) (s2 rfl rfl) <| .nil) (by kernel_rfl) ?_
            refine pSeq ?_
            refine wRet ?_
            obtain rfl := so h
            exact pS1 [2] rfl rfl (.inl rfl) rfl (.box (n := 1) (fs := f_api_Instr) (u := ⟨a1, y3.2, y8.2⟩) rfl rfl ⟨rfl, rfl, rfl, trivial⟩ t136 <| .nil)
          · refine wBF hp15 tm (s1 rfl) ?_
            refine wSkip ?_
            refine pSeq ?_
            refine wSeq ?_
            refine rg (cr (oLdA (n := 0) (fs := f_api_Instr) (u := ⟨a1, y3.2, y8.2⟩) rfl ⟨rfl, rfl, rfl, trivial⟩ t136 tm) (s1 rfl) <| cwn (oStA (n := 1) (fs := f_api_Instr) rfl rfl z136 tm tm) (s2 rfl rfl) <| .nil) (by kernel_rfl) ?_
            refine pSeq ?_
            refine wRet ?_
            obtain rfl := so h
            exact pS1 [2] rfl rfl (.inl rfl) rfl (.box (n := 1) (fs := f_api_Instr) (u := ⟨a1, y3.2, y8.2⟩) rfl rfl ⟨rfl, rfl, rfl, trivial⟩ t136 <| .nil)
      · refine wBF hp7 tm (s1 rfl) ?_
        refine wSkip ?_
        refine pSeq ?_
        refine wSeq ?_
        obtain ⟨y17, hy17, h⟩ := bd h
        refine rg (cp (oMv tm) (s1 rfl) <| cm (oCallS (rest := [.box 6 136 [.d (kI .i64) a1, .d (kI .i64) y3.2, .d (kI .i64) 0], .box 4 136 [.d (kI .i64) 0, .d (kI .i64) 0, .d (kI .i64) 0]]) (R' := [.box 6 136 [.d (kI .i64) a1, .d (kI .i64) y3.2, .d (kI .i64) 0], .box 4 136 [.d (kI .i64) 0, .d (kI .i64) 0, .d (kI .i64) 0], .box 70000 369 [.d (kL kS) y17.l_.Names, .d (kL (kI .u32)) y17.l_.Up, .d (kL (kR f_api_Tok)) y17.toks_, .d (kI .i64) y17.i_, .d (kI .i64) y17.bad_]]) (out' := .d (tup [])) [(70000, 70000)] [] [2] [0, 1] [1, 2, 0] rfl (code_reader_mark.ok hy17) b359 (oE1 tm (oE1 (cS (by decide)) oE0)) rfl rfl rfl rfl rfl rfl rfl rfl) (s1 rfl) <| .nil) (by kernel_rfl) ?_
        refine pSeq ?_
        refine wSeq ?_
        obtain ⟨o1, h, hk1⟩ := bd h
        refine wJ1 (fun x20 => x20 = o1) (fun x20 => [(0, .p 70000 0), (4, .p 4 0), (5, .d ((kI .i64).sig a0.i_)), (6, .p 6 0), (54, .d (kB.sig x20))]) (fun x20 => [.box 6 136 [.d (kI .i64) a1, .d (kI .i64) y3.2, .d (kI .i64) 0], .box 4 136 [.d (kI .i64) 0, .d (kI .i64) 0, .d (kI .i64) 0], .box 70000 369 [.d (kL kS) y17.l_.Names, .d (kL (kI .u32)) y17.l_.Up, .d (kL (kR f_api_Tok)) y17.toks_, .d (kI .i64) y17.i_, .d (kI .i64) y17.bad_]]) ?_ ?_
        · rcases ic h with ⟨hp21, h⟩ | ⟨hp21, h⟩
          · obtain ⟨y22, hy22, h⟩ := bd h
            refine rgD hm (cp (oMv tm) (s1 rfl) <| cp (oNilP tm) (s1 rfl) <| cp (oFldP o369_3 tm) (s1 rfl) <| cr (oLdB (n := 2) (k := 4) rfl rfl rfl t34 tm) (s1 rfl) <| cp (oEq rfl tm (cI (by decide))) (s1 rfl) <| cp (oMv tm) (s1 rfl) <| cgB (decide_eq_true hp21) rfl rfl (oMv tm) (s1 rfl) <| cgB (decide_eq_true hp21) rfl rfl (oNilP tm) (s1 rfl) <| cgB (decide_eq_true hp21) rfl rfl (oFldP o369_0 tm) (s1 rfl) <| cgB (decide_eq_true hp21) rfl rfl (oFldP o25_1 tm) (s1 rfl) <| crgB (decide_eq_true hp21) rfl rfl (oLdB (n := 2) (k := 1) rfl rfl rfl t23 tm) (s1 rfl) <| cgB (decide_eq_true hp21) rfl rfl (oLenL u23 tm) (s1 rfl) <| crgB (decide_eq_true hp21) rfl rfl (oLdA (n := 0) (fs := f_api_Instr) (u := ⟨a1, y3.2, 0⟩) rfl ⟨rfl, rfl, rfl, trivial⟩ t136 tm) (s1 rfl) <| cgB (decide_eq_true hp21) rfl rfl (oCall rfl (code_right.ok hy22) b139 (opds_cons tm (opds_cons tm opds_nil))) (s2 rfl rfl) <| cgB (decide_eq_true hp21) rfl rfl (oNot tm) (s1 rfl) <| cp (oPkT (decide_eq_true hp21) tm tm) (s2 rfl rfl) <| .nil) (by kernel_rfl) (by kernel_rfl) ?_
            exact pJ1 _ (so h) ⟨rfl, rfl, rfl, rfl, rfl, trivial⟩ rfl
          · refine rgD hm (cp (oMv tm) (s1 rfl) <| cp (oNilP tm) (s1 rfl) <| cp (oFldP o369_3 tm) (s1 rfl) <| cr (oLdB (n := 2) (k := 4) rfl rfl rfl t34 tm) (s1 rfl) <| cp (oEq rfl tm (cI (by decide))) (s1 rfl) <| cp (oMv tm) (s1 rfl) <| csB (decide_eq_false hp21) rfl rfl <| csB (decide_eq_false hp21) rfl rfl <| csB (decide_eq_false hp21) rfl rfl <| csB (decide_eq_false hp21) rfl rfl <| csB (decide_eq_false hp21) rfl rfl <| csB (decide_eq_false hp21) rfl rfl <| csB (decide_eq_false hp21) rfl rfl <| csB (decide_eq_false hp21) rfl rfl <| csB (decide_eq_false hp21) rfl rfl <| cp (oPkF (decide_eq_false hp21) tm cB) (s1 rfl) <| .nil) (by kernel_rfl) (by kernel_rfl) ?_
            exact pJ1 _ (so h) ⟨rfl, rfl, rfl, rfl, rfl, trivial⟩ rfl
        · rintro x20 rfl
          replace h := hk1
          rcases ic h with ⟨hp23, h⟩ | ⟨hp23, h⟩
          · refine wBT hp23 tm (s1 rfl) ?_
            refine wSeq ?_
            refine rg (cp (oMv tm) (s1 rfl) <| cp (oMv tm) (s1 rfl) <| cp (oNilP tm) (s1 rfl) <| cp (oFldP o369_2 tm) (s1 rfl) <| cwn (oSt (n := 2) (k := 3) rfl rfl rfl rfl z3 tm tm) (s2 rfl rfl) <| .nil) (by kernel_rfl) ?_
            refine pSeq ?_
            obtain ⟨y24, hy24, h⟩ := bd h
            refine rg (cp (oMv tm) (s1 rfl) <| cm (oCallS (rest := [.box 6 136 [.d (kI .i64) a1, .d (kI .i64) y3.2, .d (kI .i64) 0], .box 4 136 [.d (kI .i64) 0, .d (kI .i64) 0, .d (kI .i64) 0]]) (R' := [.box 6 136 [.d (kI .i64) a1, .d (kI .i64) y3.2, .d (kI .i64) 0], .box 4 136 [.d (kI .i64) 0, .d (kI .i64) 0, .d (kI .i64) 0], .box 70000 369 [.d (kL kS) y24.l_.Names, .d (kL (kI .u32)) y24.l_.Up, .d (kL (kR f_api_Tok)) y24.toks_, .d (kI .i64) y24.i_, .d (kI .i64) y24.bad_]]) (out' := .d (tup [])) [(70000, 70000)] [] [2] [0, 1] [1, 2, 0] rfl (code_reader_fail.ok hy24) b303 (oE1 tm (oE1 (cI (by decide)) oE0)) rfl rfl rfl rfl rfl rfl rfl rfl) (s1 rfl) <| .nil) (by kernel_rfl) ?_
            refine pSeq ?_
            refine wSeq ?_
            refine rg (cr (oLdA (n := 0) (fs := f_api_Instr) (u := ⟨a1, y3.2, 0⟩) rfl ⟨rfl, rfl, rfl, trivial⟩ t136 tm) (s1 rfl) <| cwn (oStA (n := 1) (fs := f_api_Instr) rfl rfl z136 tm tm) (s2 rfl rfl) <| .nil) (by kernel_rfl) ?_
            refine pSeq ?_
            refine wRet ?_
            obtain rfl := so h
            exact pS1 [2] rfl rfl (.inl rfl) rfl (.box (n := 1) (fs := f_api_Instr) (u := ⟨a1, y3.2, 0⟩) rfl rfl ⟨rfl, rfl, rfl, trivial⟩ t136 <| .nil)
          · refine wBF hp23 tm (s1 rfl) ?_
            refine wSkip ?_
            refine pSeq ?_
            refine wSeq ?_
            refine rg (cr (oLdA (n := 0) (fs := f_api_Instr) (u := ⟨a1, y3.2, 0⟩) rfl ⟨rfl, rfl, rfl, trivial⟩ t136 tm) (s1 rfl) <| cwn (oStA (n := 1) (fs := f_api_Instr) rfl rfl z136 tm tm) (s2 rfl rfl) <| .nil) (by kernel_rfl) ?_
            refine pSeq ?_
            refine wRet ?_
            obtain rfl := so h
            exact pS1 [2] rfl rfl (.inl rfl) rfl (.box (n := 1) (fs := f_api_Instr) (u := ⟨a1, y3.2, 0⟩) rfl rfl ⟨rfl, rfl, rfl, trivial⟩ t136 <| .nil)
  · refine wBF hp2 tm (s1 rfl) ?_
    refine wSkip ?_
    refine pSeq ?_
    refine wSeq ?_
    obtain ⟨o1, h, hk1⟩ := bd h
    refine wJ1 (fun x26 => x26 = o1) (fun x26 => [(0, .p 70000 0), (4, .p 4 0), (5, .d ((kI .i64).sig a0.i_)), (6, .p 6 0), (33, .d (kB.sig x26))]) (fun x26 => [.box 6 136 [.d (kI .i64) a1, .d (kI .i64) 0, .d (kI .i64) 0], .box 4 136 [.d (kI .i64) 0, .d (kI .i64) 0, .d (kI .i64) 0], .box 70000 369 [.d (kL kS) a0.l_.Names, .d (kL (kI .u32)) a0.l_.Up, .d (kL (kR f_api_Tok)) a0.toks_, .d (kI .i64) (IntKind.i64.wrap (a0.i_ + 1)), .d (kI .i64) a0.bad_]]) ?_ ?_
    · rcases ic h with ⟨hp27, h⟩ | ⟨hp27, h⟩
      · refine rg (cp (oMv tm) (s1 rfl) <| cp (oEq rfl tm (cI (by decide))) (s1 rfl) <| cp (oMv tm) (s1 rfl) <| cgB (decide_eq_true hp27) rfl rfl (oMv tm) (s1 rfl) <| cgB (decide_eq_true hp27) rfl rfl (oNilP tm) (s1 rfl) <| cgB (decide_eq_true hp27) rfl rfl (oFldP o369_3 tm) (s1 rfl) <| crgB (decide_eq_true hp27) rfl rfl (oLdB (n := 2) (k := 4) rfl rfl rfl t34 tm) (s1 rfl) <| cgB (decide_eq_true hp27) rfl rfl (oEq rfl tm (cI (by decide))) (s1 rfl) <| cp (oPkT (decide_eq_true hp27) tm tm) (s2 rfl rfl) <| .nil) (by kernel_rfl) ?_
        exact pJ1 _ (so h) ⟨rfl, rfl, rfl, rfl, rfl, trivial⟩ rfl
      · refine rg (cp (oMv tm) (s1 rfl) <| cp (oEq rfl tm (cI (by decide))) (s1 rfl) <| cp (oMv tm) (s1 rfl) <| csB (decide_eq_false hp27) rfl rfl <| csB (decide_eq_false hp27) rfl rfl <| csB (decide_eq_false hp27) rfl rfl <| csB (decide_eq_false hp27) rfl rfl <| csB (decide_eq_false hp27) rfl rfl <| cp (oPkF (decide_eq_false hp27) tm cB) (s1 rfl) <| .nil) (by kernel_rfl) ?_
        exact pJ1 _ (so h) ⟨rfl, rfl, rfl, rfl, rfl, trivial⟩ rfl
    · rintro x26 rfl
      replace h := hk1
      rcases ic h with ⟨hp28, h⟩ | ⟨hp28, h⟩
      · refine wBT hp28 tm (s1 rfl) ?_
        obtain ⟨y29, hy29, h⟩ := bd h
        refine rg (cp (oMv tm) (s1 rfl) <| cm (oCallS (rest := [.box 6 136 [.d (kI .i64) a1, .d (kI .i64) 0, .d (kI .i64) 0], .box 4 136 [.d (kI .i64) 0, .d (kI .i64) 0, .d (kI .i64) 0]]) (R' := [.box 6 136 [.d (kI .i64) a1, .d (kI .i64) 0, .d (kI .i64) 0], .box 4 136 [.d (kI .i64) 0, .d (kI .i64) 0, .d (kI .i64) 0], .box 70000 369 [.d (kL kS) y29.1.l_.Names, .d (kL (kI .u32)) y29.1.l_.Up, .d (kL (kR f_api_Tok)) y29.1.toks_, .d (kI .i64) y29.1.i_, .d (kI .i64) y29.1.bad_]]) (out' := .d ((kI .i64).sig y29.2)) [(70000, 70000)] [] [2] [0, 1] [1, 2, 0] rfl (code_reader_label.ok hy29) b358 (oE1 tm oE0) rfl rfl rfl rfl rfl rfl rfl rfl) (s1 rfl) <| cp (oFldP o136_2 tm) (s1 rfl) <| cwn (oSt (n := 0) (k := 2) rfl rfl rfl rfl z3 tm tm) (s2 rfl rfl) <| .nil) (by kernel_rfl) ?_
        refine pSeq ?_
        refine wSeq ?_
        obtain ⟨y30, hy30, h⟩ := bd h
        refine rg (cp (oMv tm) (s1 rfl) <| cm (oCallS (rest := [.box 6 136 [.d (kI .i64) a1, .d (kI .i64) 0, .d (kI .i64) y29.2], .box 4 136 [.d (kI .i64) 0, .d (kI .i64) 0, .d (kI .i64) 0]]) (R' := [.box 6 136 [.d (kI .i64) a1, .d (kI .i64) 0, .d (kI .i64) y29.2], .box 4 136 [.d (kI .i64) 0, .d (kI .i64) 0, .d (kI .i64) 0], .box 70000 369 [.d (kL kS) y30.l_.Names, .d (kL (kI .u32)) y30.l_.Up, .d (kL (kR f_api_Tok)) y30.toks_, .d (kI .i64) y30.i_, .d (kI .i64) y30.bad_]]) (out' := .d (tup [])) [(70000, 70000)] [] [2] [0, 1] [1, 2, 0] rfl (code_reader_mark.ok hy30) b359 (oE1 tm (oE1 (cS (by decide)) oE0)) rfl rfl rfl rfl rfl rfl rfl rfl) (s1 rfl) <| .nil) (by kernel_rfl) ?_
        refine pSeq ?_
        refine wSeq ?_
        obtain ⟨o1, h, hk1⟩ := bd h
        refine wJ1 (fun x33 => x33 = o1) (fun x33 => [(0, .p 70000 0), (4, .p 4 0), (5, .d ((kI .i64).sig a0.i_)), (6, .p 6 0), (54, .d (kB.sig x33))]) (fun x33 => [.box 6 136 [.d (kI .i64) a1, .d (kI .i64) 0, .d (kI .i64) y29.2], .box 4 136 [.d (kI .i64) 0, .d (kI .i64) 0, .d (kI .i64) 0], .box 70000 369 [.d (kL kS) y30.l_.Names, .d (kL (kI .u32)) y30.l_.Up, .d (kL (kR f_api_Tok)) y30.toks_, .d (kI .i64) y30.i_, .d (kI .i64) y30.bad_]]) ?_ ?_
        · rcases ic h with ⟨hp34, h⟩ | ⟨hp34, h⟩
          · obtain ⟨y35, hy35, h⟩ := bd h
            refine rgD hm (cp (oMv tm) (s1 rfl) <| cp (oNilP tm) (s1 rfl) <| cp (oFldP o369_3 tm) (s1 rfl) <| cr (oLdB (n := 2) (k := 4) rfl rfl rfl t34 tm) (s1 rfl) <| cp (oEq rfl tm (cI (by decide))) (s1 rfl) <| cp (oMv tm) (s1 rfl) <| cgB (decide_eq_true hp34) rfl rfl (oMv tm) (s1 rfl) <| cgB (decide_eq_true hp34) rfl rfl (oNilP tm) (s1 rfl) <| cgB (decide_eq_true hp34) rfl rfl (oFldP o369_0 tm) (s1 rfl) <| cgB (decide_eq_true hp34) rfl rfl (oFldP o25_1 tm) (s1 rfl) <| crgB (decide_eq_true hp34) rfl rfl (oLdB (n := 2) (k := 1) rfl rfl rfl t23 tm) (s1 rfl) <| cgB (decide_eq_true hp34) rfl rfl (oLenL u23 tm) (s1 rfl) <| crgB (decide_eq_true hp34) rfl rfl (oLdA (n := 0) (fs := f_api_Instr) (u := ⟨a1, 0, y29.2⟩) rfl ⟨rfl, rfl, rfl, trivial⟩ t136 tm) (s1 rfl) <| cgB (decide_eq_true hp34) rfl rfl (oCall rfl (code_right.ok hy35) b139 (opds_cons tm (opds_cons tm opds_nil))) (s2 rfl rfl) <| cgB (decide_eq_true hp34) rfl rfl (oNot tm) (s1 rfl) <| cp (oPkT (decide_eq_true hp34) tm tm) (s2 rfl rfl) <| .nil) (by kernel_rfl) (by kernel_rfl) ?_
            exact pJ1 _ (so h) ⟨rfl, rfl, rfl, rfl, rfl, trivial⟩ rfl
          · refine rgD hm (cp (oMv tm) (s1 rfl) <| cp (oNilP tm) (s1 rfl) <| cp (oFldP o369_3 tm) (s1 rfl) <| cr (oLdB (n := 2) (k := 4) rfl rfl rfl t34 tm) (s1 rfl) <| cp (oEq rfl tm (cI (by decide))) (s1 rfl) <| cp (oMv tm) (s1 rfl) <| csB (decide_eq_false hp34) rfl rfl <| csB (decide_eq_false hp34) rfl rfl <| csB (decide_eq_false hp34) rfl rfl <| csB (decide_eq_false hp34) rfl rfl <| csB (decide_eq_false hp34) rfl rfl <| csB (decide_eq_false hp34) rfl rfl <| csB (decide_eq_false hp34) rfl rfl <| csB (decide_eq_false hp34) rfl rfl <| csB (decide_eq_false hp34) rfl rfl <| cp (oPkF (decide_eq_false hp34) tm cB) (s1 rfl) <| .nil) (by kernel_rfl) (by kernel_rfl) ?_
            exact pJ1 _ (so h) ⟨rfl, rfl, rfl, rfl, rfl, trivial⟩ rfl
        · rintro x33 rfl
          replace h := hk1
          rcases ic h with ⟨hp36, h⟩ | ⟨hp36, h⟩
          · refine wBT hp36 tm (s1 rfl) ?_
            refine wSeq ?_
            refine rg (cp (oMv tm) (s1 rfl) <| cp (oMv tm) (s1 rfl) <| cp (oNilP tm) (s1 rfl) <| cp (oFldP o369_2 tm) (s1 rfl) <| cwn (oSt (n := 2) (k := 3) rfl rfl rfl rfl z3 tm tm) (s2 rfl rfl) <| .nil) (by kernel_rfl) ?_
            refine pSeq ?_
            obtain ⟨y37, hy37, h⟩ := bd h
            refine rg (cp (oMv tm) (s1 rfl) <| cm (oCallS (rest := [.box 6 136 [.d (kI .i64) a1, .d (kI .i64) 0, .d (kI .i64) y29.2], .box 4 136 [.d (kI .i64) 0, .d (kI .i64) 0, .d (kI .i64) 0]]) (R' := [.box 6 136 [.d (kI .i64) a1, .d (kI .i64) 0, .d (kI .i64) y29.2], .box 4 136 [.d (kI .i64) 0, .d (kI .i64) 0, .d (kI .i64) 0], .box 70000 369 [.d (kL kS) y37.l_.Names, .d (kL (kI .u32)) y37.l_.Up, .d (kL (kR f_api_Tok)) y37.toks_, .d (kI .i64) y37.i_, .d (kI .i64) y37.bad_]]) (out' := .d (tup [])) [(70000, 70000)] [] [2] [0, 1] [1, 2, 0] rfl (code_reader_fail.ok hy37) b303 (oE1 tm (oE1 (cI (by decide)) oE0)) rfl rfl rfl rfl rfl rfl rfl rfl) (s1 rfl) <| .nil) (by kernel_rfl) ?_
            refine pSeq ?_
            refine wSeq ?_
            refine rg (cr (oLdA (n := 0) (fs := f_api_Instr) (u := ⟨a1, 0, y29.2⟩) rfl ⟨rfl, rfl, rfl, trivial⟩ t136 tm) (s1 rfl) <| cwn (oStA (n := 1) (fs := f_api_Instr) rfl rfl z136 tm tm) (s2 rfl rfl) <| .nil) (by kernel_rfl) ?_
            refine pSeq ?_
            refine wRet ?_
            obtain rfl := so h
            exact pS1 [2] rfl rfl (.inl rfl) rfl (.box (n := 1) (fs := f_api_Instr) (u := ⟨a1, 0, y29.2⟩) rfl rfl ⟨rfl, rfl, rfl, trivial⟩ t136 <| .nil)
          · refine wBF hp36 tm (s1 rfl) ?_
            refine wSkip ?_
            refine pSeq ?_
            refine wSeq ?_
            refine rg (cr (oLdA (n := 0) (fs := f_api_Instr) (u := ⟨a1, 0, y29.2⟩) rfl ⟨rfl, rfl, rfl, trivial⟩ t136 tm) (s1 rfl) <| cwn (oStA (n := 1) (fs := f_api_Instr) rfl rfl z136 tm tm) (s2 rfl rfl) <| .nil) (by kernel_rfl) ?_
            refine pSeq ?_
            refine wRet ?_
            obtain rfl := so h
            exact pS1 [2] rfl rfl (.inl rfl) rfl (.box (n := 1) (fs := f_api_Instr) (u := ⟨a1, 0, y29.2⟩) rfl rfl ⟨rfl, rfl, rfl, trivial⟩ t136 <| .nil)
      · refine wBF hp28 tm (s1 rfl) ?_
        refine wSkip ?_
        refine pSeq ?_
        refine wSeq ?_
        obtain ⟨y38, hy38, h⟩ := bd h
        refine rg (cp (oMv tm) (s1 rfl) <| cm (oCallS (rest := [.box 6 136 [.d (kI .i64) a1, .d (kI .i64) 0, .d (kI .i64) 0], .box 4 136 [.d (kI .i64) 0, .d (kI .i64) 0, .d (kI .i64) 0]]) (R' := [.box 6 136 [.d (kI .i64) a1, .d (kI .i64) 0, .d (kI .i64) 0], .box 4 136 [.d (kI .i64) 0, .d (kI .i64) 0, .d (kI .i64) 0], .box 70000 369 [.d (kL kS) y38.l_.Names, .d (kL (kI .u32)) y38.l_.Up, .d (kL (kR f_api_Tok)) y38.toks_, .d (kI .i64) y38.i_, .d (kI .i64) y38.bad_]]) (out' := .d (tup [])) [(70000, 70000)] [] [2] [0, 1] [1, 2, 0] rfl (code_reader_mark.ok hy38) b359 (oE1 tm (oE1 (cS (by decide)) oE0)) rfl rfl rfl rfl rfl rfl rfl rfl) (s1 rfl) <| .nil) (by kernel_rfl) ?_
        refine pSeq ?_
        refine wSeq ?_
        obtain ⟨o1, h, hk1⟩ := bd h
        refine wJ1 (fun x41 => x41 = o1) (fun x41 => [(0, .p 70000 0), (4, .p 4 0), (5, .d ((kI .i64).sig a0.i_)), (6, .p 6 0), (54, .d (kB.sig x41))]) (fun x41 => [.box 6 136 [.d (kI .i64) a1, .d (kI .i64) 0, .d (kI .i64) 0], .box 4 136 [.d (kI .i64) 0, .d (kI .i64) 0, .d (kI .i64) 0], .box 70000 369 [.d (kL kS) y38.l_.Names, .d (kL (kI .u32)) y38.l_.Up, .d (kL (kR f_api_Tok)) y38.toks_, .d (kI .i64) y38.i_, .d (kI .i64) y38.bad_]]) ?_ ?_
        · rcases ic h with ⟨hp42, h⟩ | ⟨hp42, h⟩
          · obtain ⟨y43, hy43, h⟩ := bd h
            refine rgD hm (cp (oMv tm) (s1 rfl) <| cp (oNilP tm) (s1 rfl) <| cp (oFldP o369_3 tm) (s1 rfl) <| cr (oLdB (n := 2) (k := 4) rfl rfl rfl t34 tm) (s1 rfl) <| cp (oEq rfl tm (cI (by decide))) (s1 rfl) <| cp (oMv tm) (s1 rfl) <| cgB (decide_eq_true hp42) rfl rfl (oMv tm) (s1 rfl) <| cgB (decide_eq_true hp42) rfl rfl (oNilP tm) (s1 rfl) <| cgB (decide_eq_true hp42) rfl rfl (oFldP o369_0 tm) (s1 rfl) <| cgB (decide_eq_true hp42) rfl rfl (oFldP o25_1 tm) (s1 rfl) <| crgB (decide_eq_true hp42) rfl rfl (oLdB (n := 2) (k := 1) rfl rfl rfl t23 tm) (s1 rfl) <| cgB (decide_eq_true hp42) rfl rfl (oLenL u23 tm) (s1 rfl) <| crgB (decide_eq_true hp42) rfl rfl (oLdA (n := 0) (fs := f_api_Instr) (u := ⟨a1, 0, 0⟩) rfl ⟨rfl, rfl, rfl, trivial⟩ t136 tm) (s1 rfl) <| cgB (decide_eq_true hp42) rfl rfl (oCall rfl (code_right.ok hy43) b139 (opds_cons tm (opds_cons tm opds_nil))) (s2 rfl rfl) <| cgB (decide_eq_true hp42) rfl rfl (oNot tm) (s1 rfl) <| cp (oPkT (decide_eq_true hp42) tm tm) (s2 rfl rfl) <| .nil) (by kernel_rfl) (by kernel_rfl) ?_
            exact pJ1 _ (so h) ⟨rfl, rfl, rfl, rfl, rfl, trivial⟩ rfl
          · refine rgD hm (cp (oMv tm) (s1 rfl) <| cp (oNilP tm) (s1 rfl) <| cp (oFldP o369_3 tm) (s1 rfl) <| cr (oLdB (n := 2) (k := 4) rfl rfl rfl t34 tm) (s1 rfl) <| cp (oEq rfl tm (cI (by decide))) (s1 rfl) <| cp (oMv tm) (s1 rfl) <| csB (decide_eq_false hp42) rfl rfl <| csB (decide_eq_false hp42) rfl rfl <| csB (decide_eq_false hp42) rfl rfl <| csB (decide_eq_false hp42) rfl rfl <| csB (decide_eq_false hp42) rfl rfl <| csB (decide_eq_false hp42) rfl rfl <| csB (decide_eq_false hp42) rfl rfl <| csB (decide_eq_false hp42) rfl rfl <| csB (decide_eq_false hp42) rfl rfl <| cp (oPkF (decide_eq_false hp42) tm cB) (s1 rfl) <| .nil) (by kernel_rfl) (by kernel_rfl) ?_
            exact pJ1 _ (so h) ⟨rfl, rfl, rfl, rfl, rfl, trivial⟩ rfl
        · rintro x41 rfl
          replace h := hk1
          rcases ic h with ⟨hp44, h⟩ | ⟨hp44, h⟩
          · refine wBT hp44 tm (s1 rfl) ?_
            refine wSeq ?_
            refine rg (cp (oMv tm) (s1 rfl) <| cp (oMv tm) (s1 rfl) <| cp (oNilP tm) (s1 rfl) <| cp (oFldP o369_2 tm) (s1 rfl) <| cwn (oSt (n := 2) (k := 3) rfl rfl rfl rfl z3 tm tm) (s2 rfl rfl) <| .nil) (by kernel_rfl) ?_
            refine pSeq ?_
            obtain ⟨y45, hy45, h⟩ := bd h
            refine rg (cp (oMv tm) (s1 rfl) <| cm (oCallS (rest := [.box 6 136 [.d (kI .i64) a1, .d (kI .i64) 0, .d (kI .i64) 0], .box 4 136 [.d (kI .i64) 0, .d (kI .i64) 0, .d (kI .i64) 0]]) (R' := [.box 6 136 [.d (kI .i64) a1, .d (kI .i64) 0, .d (kI .i64) 0], .box 4 136 [.d (kI .i64) 0, .d (kI .i64) 0, .d (kI .i64) 0], .box 70000 369 [.d (kL kS) y45.l_.Names, .d (kL (kI .u32)) y45.l_.Up, .d (kL (kR f_api_Tok)) y45.toks_, .d (kI .i64) y45.i_, .d (kI .i64) y45.bad_]]) (out' := .d (tup [])) [(70000, 70000)] [] [2] [0, 1] [1, 2, 0] rfl (code_reader_fail.ok hy45) b303 (oE1 tm (oE1 (cI (by decide)) oE0)) rfl rfl rfl rfl rfl rfl rfl rfl) (s1 rfl) <| .nil) (by kernel_rfl) ?_
            refine pSeq ?_
            refine wSeq ?_
            refine rg (cr (oLdA (n := 0) (fs := f_api_Instr) (u := ⟨a1, 0, 0⟩) rfl ⟨rfl, rfl, rfl, trivial⟩ t136 tm) (s1 rfl) <| cwn (oStA (n := 1) (fs := f_api_Instr) rfl rfl z136 tm tm) (s2 rfl rfl) <| .nil) (by kernel_rfl) ?_
            refine pSeq ?_
            refine wRet ?_
            obtain rfl := so h
            exact pS1 [2] rfl rfl (.inl rfl) rfl (.box (n := 1) (fs := f_api_Instr) (u := ⟨a1, 0, 0⟩) rfl rfl ⟨rfl, rfl, rfl, trivial⟩ t136 <| .nil)
          · refine wBF hp44 tm (s1 rfl) ?_
            refine wSkip ?_
            refine pSeq ?_
            refine wSeq ?_
            refine rg (cr (oLdA (n := 0) (fs := f_api_Instr) (u := ⟨a1, 0, 0⟩) rfl ⟨rfl, rfl, rfl, trivial⟩ t136 tm) (s1 rfl) <| cwn (oStA (n := 1) (fs := f_api_Instr) rfl rfl z136 tm tm) (s2 rfl rfl) <| .nil) (by kernel_rfl) ?_
            refine pSeq ?_
            refine wRet ?_
            obtain rfl := so h
            exact pS1 [2] rfl rfl (.inl rfl) rfl (.box (n := 1) (fs := f_api_Instr) (u := ⟨a1, 0, 0⟩) rfl rfl ⟨rfl, rfl, rfl, trivial⟩ t136 <| .nil)
theorem code_From.ok {a0 : api_Lattice} {a1 : List api_Tok} {a2 : Int} {r : (List api_Instr) × Int × Int} (h : code_From.f a0 a1 a2 = some r) : FnA Tryz.prog 218 [(kR f_api_Lattice).sig a0, (kL (kR f_api_Tok)).sig a1, (kI .i64).sig a2] (tup [(kL (kR f_api_Instr)).sig r.1, (kI .i64).sig r.2.1, (kI .i64).sig r.2.2]) := by
  refine fnIntro Tryz.func218 rfl (by kernel_rfl) fun H0 w0 => ?_
  unfold code_From.f at h
  refine wSeq ?_
  refine rg (cp (oBox tm) (s1 rfl) <| cp (oAs cV) trivial <| cp (oAs (cI (by decide))) trivial <| cp (oAs (cI (by decide))) trivial <| .nil) (by kernel_rfl) ?_
  refine pSeq ?_
  refine wSeq ?_
  refine wSeq ?_
  obtain ⟨y1, hy1, h⟩ := bd h
  refine rg (cp (oLd t25 tm) (s1 rfl) <| cp (oCall rfl (lattice_Check.ok hy1) b49 (opds_cons tm opds_nil)) (s1 rfl) <| cp (oAs tm) (s1 rfl) <| .nil) (by kernel_rfl) ?_
  refine pSeq ?_
  refine wSeq ?_
  refine rg (cp (oMv tm) (s1 rfl) <| cp (oNe rfl tm (cI (by decide))) (s1 rfl) <| .nil) (by kernel_rfl) ?_
  refine pSeq ?_
  rcases ic h with ⟨hp2, h⟩ | ⟨hp2, h⟩
  · refine wNT hp2 tm (s1 rfl) ?_
    refine wSkip ?_
    refine pSeq ?_
    refine wSeq ?_
    obtain ⟨o1, h, hk1⟩ := bd h
    refine wJ1 (fun x6 => x6 = o1) (fun x6 => [(1, .d ((kL (kR f_api_Tok)).sig a1)), (2, .d ((kI .i64).sig a2)), (3, .d (sP (kR f_api_Lattice) a0)), (35, .d (kB.sig x6))]) (fun x6 => []) ?_ ?_
    · rcases ic h with ⟨hp7, h⟩ | ⟨hp7, h⟩
      · refine rg (cp (oMv tm) (s1 rfl) <| cp (oLt rfl tm (cI (by decide))) (s1 rfl) <| cp (oMv tm) (s1 rfl) <| csB (decide_eq_true hp7) rfl rfl <| csB (decide_eq_true hp7) rfl rfl <| csB (decide_eq_true hp7) rfl rfl <| csB (decide_eq_true hp7) rfl rfl <| cp (oPkT (decide_eq_true hp7) tm cB) (s1 rfl) <| cp (oMv tm) (s1 rfl) <| csB rfl rfl rfl <| csB rfl rfl rfl <| csB rfl rfl rfl <| csB rfl rfl rfl <| csB rfl rfl rfl <| csB rfl rfl rfl <| csB rfl rfl rfl <| csB rfl rfl rfl <| cp (oPkT rfl tm cB) (s1 rfl) <| .nil) (by kernel_rfl) ?_
        exact pJ1 _ (so h) ⟨rfl, rfl, rfl, rfl, trivial⟩ rfl
      · rcases ic h with ⟨hp8, h⟩ | ⟨hp8, h⟩
        · refine rg (cp (oMv tm) (s1 rfl) <| cp (oLt rfl tm (cI (by decide))) (s1 rfl) <| cp (oMv tm) (s1 rfl) <| cgB (decide_eq_false hp7) rfl rfl (oMv tm) (s1 rfl) <| cgB (decide_eq_false hp7) rfl rfl (oMv tm) (s1 rfl) <| cgB (decide_eq_false hp7) rfl rfl (oLenL u89 tm) (s1 rfl) <| cgB (decide_eq_false hp7) rfl rfl (oGe rfl tm tm) (s2 rfl rfl) <| cp (oPkF (decide_eq_false hp7) tm tm) (s2 rfl rfl) <| cp (oMv tm) (s1 rfl) <| csB (decide_eq_true hp8) rfl rfl <| csB (decide_eq_true hp8) rfl rfl <| csB (decide_eq_true hp8) rfl rfl <| csB (decide_eq_true hp8) rfl rfl <| csB (decide_eq_true hp8) rfl rfl <| csB (decide_eq_true hp8) rfl rfl <| csB (decide_eq_true hp8) rfl rfl <| csB (decide_eq_true hp8) rfl rfl <| cp (oPkT (decide_eq_true hp8) tm cB) (s1 rfl) <| .nil) (by kernel_rfl) ?_
          exact pJ1 _ (so h) ⟨rfl, rfl, rfl, rfl, trivial⟩ rfl
        · obtain ⟨y9, hy9, h⟩ := bd h
          refine rg (cp (oMv tm) (s1 rfl) <| cp (oLt rfl tm (cI (by decide))) (s1 rfl) <| cp (oMv tm) (s1 rfl) <| cgB (decide_eq_false hp7) rfl rfl (oMv tm) (s1 rfl) <| cgB (decide_eq_false hp7) rfl rfl (oMv tm) (s1 rfl) <| cgB (decide_eq_false hp7) rfl rfl (oLenL u89 tm) (s1 rfl) <| cgB (decide_eq_false hp7) rfl rfl (oGe rfl tm tm) (s2 rfl rfl) <| cp (oPkF (decide_eq_false hp7) tm tm) (s2 rfl rfl) <| cp (oMv tm) (s1 rfl) <| cgB (decide_eq_false hp8) rfl rfl (oMv tm) (s1 rfl) <| cgB (decide_eq_false hp8) rfl rfl (oMv tm) (s1 rfl) <| cgB (decide_eq_false hp8) rfl rfl (oLenL u89 tm) (s1 rfl) <| cgB (decide_eq_false hp8) rfl rfl (oSub tm (cI (by decide))) (s1 rfl) <| cgB (decide_eq_false hp8) rfl rfl (oIdx u89 z94 hy9 tm tm) (s2 rfl rfl) <| cgB (decide_eq_false hp8) rfl rfl (oFld (fs := f_api_Tok) (k := 0) rfl o94_0 tm) (s1 rfl) <| cgB (decide_eq_false hp8) rfl rfl (oLd t3 tm) (s1 rfl) <| cgB (decide_eq_false hp8) rfl rfl (oNe rfl tm (cI (by decide))) (s1 rfl) <| cp (oPkF (decide_eq_false hp8) tm tm) (s2 rfl rfl) <| .nil) (by kernel_rfl) ?_
          exact pJ1 _ (so h) ⟨rfl, rfl, rfl, rfl, trivial⟩ rfl
    · rintro x6 rfl
      replace h := hk1
      rcases ic h with ⟨hp10, h⟩ | ⟨hp10, h⟩
      · refine wBT hp10 tm (s1 rfl) ?_
        refine wSeq ?_
        refine rg (cp (oAs cV) trivial <| cp (oAs (cI (by decide))) trivial <| cp (oAs (cI (by decide))) trivial <| .nil) (by kernel_rfl) ?_
        refine pSeq ?_
        refine wNil (kR f_api_Instr) 136 9006 6 rfl rfl ?_
        refine wFrzR (n := 0) (id := 9006) [6] rfl rfl ⟨rfl, trivial⟩ ?_
        refine wRet ?_
        refine pThenR ?_
        obtain rfl := so h
        exact pRn (.inl rfl) rfl rfl (.tmp rfl <| .tmp rfl <| .tmp rfl <| .nil)
      · refine wBF hp10 tm (s1 rfl) ?_
        refine wSkip ?_
        refine pSeq ?_
        refine wSeq ?_
        refine rg (cp (oLd t25 tm) (s1 rfl) <| cp (oMv tm) (s1 rfl) <| cp (oMv tm) (s1 rfl) <| cp (oBuild (fs := f_code_reader) (u := ⟨a0, a1, a2, 0⟩) rfl ze369 pl369 po369 (.op (zc := [(.slice none 0 0), (.slice none 0 0)]) tm rfl (.op (zc := [(.slice none 0 0)]) tm rfl (.op (zc := [(.int .i64 0)]) tm rfl (.ze (zc := [(.int .i64 0)]) zI_i64 .nil))))) (s3 rfl rfl rfl) <| cw (oBoxP (id := 40) (d := (kR f_code_reader)) (ls := [.d (kL kS) a0.Names, .d (kL (kI .u32)) a0.Up, .d (kL (kR f_api_Tok)) a1, .d (kI .i64) a2, .d (kI .i64) 0]) (lfS (lfC (lfS (lfC lf1 (lfC lf1 lfN))) (lfC lf1 (lfC lf1 (lfC lf1 lfN))))) rfl tm) (s1 rfl) <| cp (oAs tm) (s1 rfl) <| .nil) (by kernel_rfl) ?_
        refine pSeq ?_
        refine wSeq ?_
        refine rg (cp (oAs cV) trivial <| .nil) (by kernel_rfl) ?_
        refine pSeq ?_
        refine wNil (kR f_api_Instr) 136 1011 11 rfl rfl ?_
        obtain ⟨o1, h, hk1⟩ := bd h
        refine wJ6 (fun x33 x34 x35 x36 x37 x38 => .inr (x33, x34, x35, x36, x37, x38) = o1) (fun x33 x34 x35 x36 x37 x38 => [(10, .p 40 0)]) (fun x33 x34 x35 x36 x37 x38 => [.row 1011 136 (kR f_api_Instr) x38, .box 40 369 [.d (kL kS) x33, .d (kL (kI .u32)) x34, .d (kL (kR f_api_Tok)) x35, .d (kI .i64) x36, .d (kI .i64) x37]]) ?_ ?_
        · refine wBlock (wLoop ?_)
          refine lW (pc6 o1 (fun v27 v28 v29 v30 v31 v32 => [(10, .p 40 0), (11, .v 1011)]) (fun v27 v28 v29 v30 v31 v32 => [.row 1011 136 (kR f_api_Instr) v32, .box 40 369 [.d (kL kS) v27, .d (kL (kI .u32)) v28, .d (kL (kR f_api_Tok)) v29, .d (kI .i64) v30, .d (kI .i64) v31]]) (code_From.l0.partial_correctness) ?_ _ _ _ _ _ _ h) ⟨rfl, rfl, trivial⟩ rfl
          clear h
          intro f' ih v27 v28 v29 v30 v31 v32 h
          refine wSeq ?_
          refine wSeq ?_
          refine rg (cp (oMv tm) (s1 rfl) <| cp (oNilP tm) (s1 rfl) <| cp (oFldP o369_3 tm) (s1 rfl) <| cr (oLdB (n := 1) (k := 4) rfl rfl rfl t34 tm) (s1 rfl) <| cp (oEq rfl tm (cI (by decide))) (s1 rfl) <| .nil) (by kernel_rfl) ?_
          refine pSeq ?_
          rcases ic h with ⟨hp39, h⟩ | ⟨hp39, h⟩
          · refine wCT hp39 tm (s1 rfl) ?_
            refine wSkip ?_
            refine pSeq ?_
            refine wBlock ?_
            refine wSeq ?_
            obtain ⟨y40, hy40, h⟩ := bd h
            obtain ⟨y41, hy41, h⟩ := bd h
            refine rg (cp (oMv tm) (s1 rfl) <| cm (oCallS (rest := [.row 1011 136 (kR f_api_Instr) v32]) (R' := [.row 1011 136 (kR f_api_Instr) v32, .box 40 369 [.d (kL kS) y40.1.l_.Names, .d (kL (kI .u32)) y40.1.l_.Up, .d (kL (kR f_api_Tok)) y40.1.toks_, .d (kI .i64) y40.1.i_, .d (kI .i64) y40.1.bad_]]) (out' := .d ((kR f_api_Tok).sig y40.2)) [(70000, 40)] [] [1] [0] [1, 0] rfl (code_reader_tok.ok hy40) b302 (oE1 tm oE0) rfl rfl rfl rfl rfl rfl rfl rfl) (s1 rfl) <| cp (oCall rfl (code_instruction.ok hy41) b301 (opds_cons tm opds_nil)) (s1 rfl) <| cp (oAs tm) (s1 rfl) <| .nil) (by kernel_rfl) ?_
            refine pSeq ?_
            refine wSeq ?_
            refine wSeq ?_
            refine rg (cp (oMv tm) (s1 rfl) <| cp (oLt rfl tm (cI (by decide))) (s1 rfl) <| .nil) (by kernel_rfl) ?_
            refine pSeq ?_
            rcases ic h with ⟨hp42, h⟩ | ⟨hp42, h⟩
            · refine wCT hp42 tm (s1 rfl) ?_
              refine wSeq ?_
              refine rgD hm (cp (oMv tm) (s1 rfl) <| cp (oMv tm) (s1 rfl) <| cp (oNilP tm) (s1 rfl) <| cp (oFldP o369_2 tm) (s1 rfl) <| cr (oLdB (n := 1) (k := 3) rfl rfl rfl t3 tm) (s1 rfl) <| cp (oAs tm) (s1 rfl) <| cp (oAs tm) (s1 rfl) <| cp (oAs (cI (by decide))) trivial <| .nil) (by kernel_rfl) (by kernel_rfl) ?_
              refine pSeq ?_
              refine wFrzR (n := 0) (id := 1011) [6] rfl rfl ⟨rfl, trivial⟩ ?_
              refine wRet ?_
              refine pThenR ?_
              refine pBlkR ?_
              refine pThenR ?_
              refine pBlkR ?_
              refine pThenR ?_
              obtain rfl := so h
              replace h := hk1
              obtain rfl := so h
              exact pRn (.inl rfl) rfl rfl (.tmp rfl <| .tmp rfl <| .tmp rfl <| .nil)
            · refine wCF hp42 tm (s1 rfl) ?_
              refine wSkip ?_
              refine pSeq ?_
              refine wSeq ?_
              refine wSeq ?_
              refine rg (cp (oMv tm) (s1 rfl) <| cr (oLenR (n := 0) u29 rfl tm) (s1 rfl) <| cp (oEq rfl tm (cI (by decide))) (s1 rfl) <| .nil) (by kernel_rfl) ?_
              refine pSeq ?_
              rcases ic h with ⟨hp43, h⟩ | ⟨hp43, h⟩
              · refine wCT hp43 tm (s1 rfl) ?_
                refine wSeq ?_
                obtain ⟨y44, hy44, h⟩ := bd h
                refine rg (cp (oMv tm) (s1 rfl) <| cm (oCallS (rest := [.row 1011 136 (kR f_api_Instr) v32]) (R' := [.row 1011 136 (kR f_api_Instr) v32, .box 40 369 [.d (kL kS) y44.l_.Names, .d (kL (kI .u32)) y44.l_.Up, .d (kL (kR f_api_Tok)) y44.toks_, .d (kI .i64) y44.i_, .d (kI .i64) y44.bad_]]) (out' := .d (tup [])) [(70000, 40)] [] [1] [0] [1, 0] rfl (code_reader_fail.ok hy44) b303 (oE1 tm (oE1 (cI (by decide)) oE0)) rfl rfl rfl rfl rfl rfl rfl rfl) (s1 rfl) <| .nil) (by kernel_rfl) ?_
                refine pSeq ?_
                refine wExit ?_
                refine pThenX ?_
                refine pBlkO rfl ?_
                refine pThenX ?_
                refine pBlkX ?_
                exact pJ6 _ _ _ _ _ _ (so h) ⟨rfl, trivial⟩ rfl
              · refine wCF hp43 tm (s1 rfl) ?_
                refine wSkip ?_
                refine pSeq ?_
                obtain ⟨y45, hy45, h⟩ := bd h
                obtain ⟨hc46, h⟩ := ib h
                refine rg (cp (oMv tm) (s1 rfl) <| cp (oMv tm) (s1 rfl) <| cp (oMv tm) (s1 rfl) <| cm (oCallS (rest := [.row 1011 136 (kR f_api_Instr) v32]) (R' := [.row 1011 136 (kR f_api_Instr) v32, .box 40 369 [.d (kL kS) y45.1.l_.Names, .d (kL (kI .u32)) y45.1.l_.Up, .d (kL (kR f_api_Tok)) y45.1.toks_, .d (kI .i64) y45.1.i_, .d (kI .i64) y45.1.bad_]]) (out' := .d ((kR f_api_Instr).sig y45.2)) [(70000, 40)] [] [1] [0] [1, 0] rfl (code_reader_one.ok hy45) b304 (oE1 tm (oE1 tm oE0)) rfl rfl rfl rfl rfl rfl rfl rfl) (s2 rfl rfl) <| cp (oLit (d := (kR f_api_Instr)) el29 (by decide) rfl rfl rfl (e1 tm e0)) (s1 rfl) <| cw (oApp (n := 0) (id' := 66) el29 (by decide) rfl (by decide) hc46 tm tm) (s2 rfl rfl) <| cp (oAs tm) (s1 rfl) <| .nil) (by kernel_rfl) ?_
                refine pBlkN ?_
                refine pSub (Γ' := [(10, .p 40 0), (11, .v 66)]) ⟨rfl, rfl, trivial⟩ ?_
                refine pRen 66 1011 rfl ?_
                exact pLoop (lW (ih _ _ _ _ _ _ h) ⟨rfl, rfl, trivial⟩ rfl)
          · refine wCF hp39 tm (s1 rfl) ?_
            refine wExit ?_
            refine pThenX ?_
            refine pThenX ?_
            refine pBlkX ?_
            exact pJ6 _ _ _ _ _ _ (so h) ⟨rfl, trivial⟩ rfl
        · rintro x33 x34 x35 x36 x37 x38 rfl
          replace h := hk1
          refine wSeq ?_
          refine rgD hm (cp (oMv tm) (s1 rfl) <| cp (oNilP tm) (s1 rfl) <| cp (oFldP o369_2 tm) (s1 rfl) <| cr (oLdB (n := 1) (k := 3) rfl rfl rfl t3 tm) (s1 rfl) <| cp (oMv tm) (s1 rfl) <| cp (oNilP tm) (s1 rfl) <| cp (oFldP o369_3 tm) (s1 rfl) <| cr (oLdB (n := 1) (k := 4) rfl rfl rfl t34 tm) (s1 rfl) <| cp (oAs cV) trivial <| cp (oAs tm) (s1 rfl) <| cp (oAs tm) (s1 rfl) <| .nil) (by kernel_rfl) (by kernel_rfl) ?_
          refine pSeq ?_
          refine wNil (kR f_api_Instr) 136 9006 6 rfl rfl ?_
          refine wFrzR (n := 0) (id := 9006) [6] rfl rfl ⟨rfl, trivial⟩ ?_
          refine wRet ?_
          obtain rfl := so h
          exact pRn (.inl rfl) rfl rfl (.tmp rfl <| .tmp rfl <| .tmp rfl <| .nil)
  · refine wNF hp2 tm (s1 rfl) ?_
    refine wSeq ?_
    refine rg (cp (oMv tm) (s1 rfl) <| cp (oAs cV) trivial <| cp (oAs (cI (by decide))) trivial <| cp (oAs tm) (s1 rfl) <| .nil) (by kernel_rfl) ?_
    refine pSeq ?_
    refine wNil (kR f_api_Instr) 136 9006 6 rfl rfl ?_
    refine wFrzR (n := 0) (id := 9006) [6] rfl rfl ⟨rfl, trivial⟩ ?_
    refine wRet ?_
    refine pThenR ?_
    obtain rfl := so h
    exact pRn (.inl rfl) rfl rfl (.tmp rfl <| .tmp rfl <| .tmp rfl <| .nil)
theorem state_reader_program.ok {a0 : state_reader} {r : state_reader × (List api_Instr)} (h : state_reader_program.f a0 = some r) : FnS Tryz.prog 118 [.p 70000 0] [.box 70000 174 [.d (kL kS) a0.l_.Names, .d (kL (kI .u32)) a0.l_.Up, .d (kL (kR f_api_Tok)) a0.toks_, .d (kI .i64) a0.i_, .d (kI .i64) a0.bad_]] [70000] (.d ((kL (kR f_api_Instr)).sig r.2)) [.box 70000 174 [.d (kL kS) r.1.l_.Names, .d (kL (kI .u32)) r.1.l_.Up, .d (kL (kR f_api_Tok)) r.1.toks_, .d (kI .i64) r.1.i_, .d (kI .i64) r.1.bad_]] := by
  refine fnIntroS Tryz.func118 rfl (by kernel_rfl) fun X H0 w0 pv => ?_
  unfold state_reader_program.f at h
  refine wSeq ?_
  refine rg (cp (oAs cV) trivial <| .nil) (by kernel_rfl) ?_
  refine pSeq ?_
  refine wSeq ?_
  obtain ⟨y1, hy1, h⟩ := bd h
  refine rg (cp (oMv tm) (s1 rfl) <| cm (oCallS (rest := []) (R' := [.box 70000 174 [.d (kL kS) y1.l_.Names, .d (kL (kI .u32)) y1.l_.Up, .d (kL (kR f_api_Tok)) y1.toks_, .d (kI .i64) y1.i_, .d (kI .i64) y1.bad_]]) (out' := .d (tup [])) [(70000, 70000)] [] [0] [] [0] rfl (state_reader_must.ok hy1) b116 (oE1 tm (oE1 (cI (by decide)) (oE1 (cS (by decide)) oE0))) rfl rfl rfl rfl rfl rfl rfl rfl) (s1 rfl) <| .nil) (by kernel_rfl) ?_
  refine pSeq ?_
  refine wSeq ?_
  refine wSeq ?_
  refine rg (cp (oMv tm) (s1 rfl) <| cp (oNilP tm) (s1 rfl) <| cp (oFldP o174_3 tm) (s1 rfl) <| cr (oLdB (n := 0) (k := 4) rfl rfl rfl t34 tm) (s1 rfl) <| cp (oNe rfl tm (cI (by decide))) (s1 rfl) <| .nil) (by kernel_rfl) ?_
  refine pSeq ?_
  rcases ic h with ⟨hp2, h⟩ | ⟨hp2, h⟩
  · refine wNT hp2 tm (s1 rfl) ?_
    refine wSkip ?_
    refine pSeq ?_
    refine wSeq ?_
    obtain ⟨y3, hy3, h⟩ := bd h
    refine rgD hm (cp (oMv tm) (s1 rfl) <| cp (oNilP tm) (s1 rfl) <| cp (oFldP o174_0 tm) (s1 rfl) <| cr (oLdP (n := 0) (k := 0) (m := 2) (d := (kR f_api_Lattice)) (u := y1.l_) (lfS (lfC lf1 (lfC lf1 lfN))) rfl rfl rfl t25 tm) (s1 rfl) <| cp (oMv tm) (s1 rfl) <| cp (oNilP tm) (s1 rfl) <| cp (oFldP o174_1 tm) (s1 rfl) <| cr (oLdB (n := 0) (k := 2) rfl rfl rfl t89 tm) (s1 rfl) <| cp (oMv tm) (s1 rfl) <| cp (oNilP tm) (s1 rfl) <| cp (oFldP o174_2 tm) (s1 rfl) <| cr (oLdB (n := 0) (k := 3) rfl rfl rfl t3 tm) (s1 rfl) <| cp (oCall rfl (code_From.ok hy3) b218 (opds_cons tm (opds_cons tm (opds_cons tm opds_nil)))) (s3 rfl rfl rfl) <| cp (oMv tm) (s1 rfl) <| cp (oExt (k := 0) rfl tm) (s1 rfl) <| cp (oExt (k := 1) rfl tm) (s1 rfl) <| cp (oExt (k := 2) rfl tm) (s1 rfl) <| cp (oAs tm) (s1 rfl) <| cp (oAs tm) (s1 rfl) <| cp (oAs tm) (s1 rfl) <| .nil) (by kernel_rfl) (by kernel_rfl) ?_
    refine pSeq ?_
    refine wSeq ?_
    refine rg (cp (oMv tm) (s1 rfl) <| cp (oMv tm) (s1 rfl) <| cp (oNilP tm) (s1 rfl) <| cp (oFldP o174_2 tm) (s1 rfl) <| cwn (oSt (n := 0) (k := 3) rfl rfl rfl rfl z3 tm tm) (s2 rfl rfl) <| .nil) (by kernel_rfl) ?_
    refine pSeq ?_
    refine wSeq ?_
    refine wSeq ?_
    refine rg (cp (oMv tm) (s1 rfl) <| cp (oNe rfl tm (cI (by decide))) (s1 rfl) <| .nil) (by kernel_rfl) ?_
    refine pSeq ?_
    rcases ic h with ⟨hp4, h⟩ | ⟨hp4, h⟩
    · refine wNT hp4 tm (s1 rfl) ?_
      refine wSkip ?_
      refine pSeq ?_
      refine wSeq ?_
      refine rg (cp (oMv tm) (s1 rfl) <| cp (oAs tm) (s1 rfl) <| .nil) (by kernel_rfl) ?_
      refine pSeq ?_
      refine wRet ?_
      obtain rfl := so h
      exact pS1 [0] rfl rfl (.inl rfl) rfl (.tmp rfl <| .nil)
    · refine wNF hp4 tm (s1 rfl) ?_
      obtain ⟨y5, hy5, h⟩ := bd h
      refine rg (cp (oMv tm) (s1 rfl) <| cp (oMv tm) (s1 rfl) <| cm (oCallS (rest := []) (R' := [.box 70000 174 [.d (kL kS) y5.l_.Names, .d (kL (kI .u32)) y5.l_.Up, .d (kL (kR f_api_Tok)) y5.toks_, .d (kI .i64) y5.i_, .d (kI .i64) y5.bad_]]) (out' := .d (tup [])) [(70000, 70000)] [] [0] [] [0] rfl (state_reader_fail.ok hy5) b215 (oE1 tm (oE1 tm oE0)) rfl rfl rfl rfl rfl rfl rfl rfl) (s2 rfl rfl) <| .nil) (by kernel_rfl) ?_
      refine pSeq ?_
      refine wSeq ?_
      refine rg (cp (oMv tm) (s1 rfl) <| cp (oAs tm) (s1 rfl) <| .nil) (by kernel_rfl) ?_
      refine pSeq ?_
      refine wRet ?_
      obtain rfl := so h
      exact pS1 [0] rfl rfl (.inl rfl) rfl (.tmp rfl <| .nil)
  · refine wNF hp2 tm (s1 rfl) ?_
    refine wSeq ?_
    refine rg (cp (oAs cV) trivial <| .nil) (by kernel_rfl) ?_
    refine pSeq ?_
    refine wNil (kR f_api_Instr) 136 9002 2 rfl rfl ?_
    refine wFrzR (n := 0) (id := 9002) [2] rfl rfl ⟨rfl, trivial⟩ ?_
    refine wRet ?_
    refine pThenR ?_
    obtain rfl := so h
    exact pS1 [0] rfl rfl (.inl rfl) rfl (.tmp rfl <| .nil)
theorem state_reader_slot.ok {a0 : state_reader} {r : state_reader × api_Slot} (h : state_reader_slot.f a0 = some r) : FnS Tryz.prog 121 [.p 70000 0] [.box 70000 174 [.d (kL kS) a0.l_.Names, .d (kL (kI .u32)) a0.l_.Up, .d (kL (kR f_api_Tok)) a0.toks_, .d (kI .i64) a0.i_, .d (kI .i64) a0.bad_]] [70000] (.d ((kR f_api_Slot).sig r.2)) [.box 70000 174 [.d (kL kS) r.1.l_.Names, .d (kL (kI .u32)) r.1.l_.Up, .d (kL (kR f_api_Tok)) r.1.toks_, .d (kI .i64) r.1.i_, .d (kI .i64) r.1.bad_]] := by
  refine fnIntroS Tryz.func121 rfl (by kernel_rfl) fun X H0 w0 pv => ?_
  unfold state_reader_slot.f at h
  refine wSeq ?_
  refine rg (cw (oAlloc (id := 2) (ls := [.d kB false, .d (kI .i64) 0, .d (kI .i64) 0]) ze101 (fun g => ⟨[(.bool false)], _, rfl, zB g.H, ⟨[(.int .i64 0)], _, rfl, zI_i64 g.H, ⟨[(.int .i64 0)], _, rfl, zI_i64 g.H, rfl⟩⟩⟩)) trivial <| .nil) (by kernel_rfl) ?_
  refine pSeq ?_
  refine wSeq ?_
  obtain ⟨y1, hy1, h⟩ := bd h
  refine rg (cp (oMv tm) (s1 rfl) <| cm (oCallS (rest := [.box 2 101 [.d kB false, .d (kI .i64) 0, .d (kI .i64) 0]]) (R' := [.box 2 101 [.d kB false, .d (kI .i64) 0, .d (kI .i64) 0], .box 70000 174 [.d (kL kS) y1.1.l_.Names, .d (kL (kI .u32)) y1.1.l_.Up, .d (kL (kR f_api_Tok)) y1.1.toks_, .d (kI .i64) y1.1.i_, .d (kI .i64) y1.1.bad_]]) (out' := .d (kB.sig y1.2)) [(70000, 70000)] [] [1] [0] [1, 0] rfl (state_reader_is.ok hy1) b214 (oE1 tm (oE1 (cI (by decide)) (oE1 (cS (by decide)) oE0))) rfl rfl rfl rfl rfl rfl rfl rfl) (s1 rfl) <| cp (oAs tm) (s1 rfl) <| .nil) (by kernel_rfl) ?_
  refine pSeq ?_
  refine wSeq ?_
  refine wSeq ?_
  refine rg (cp (oMv tm) (s1 rfl) <| .nil) (by kernel_rfl) ?_
  refine pSeq ?_
  rcases ic h with ⟨hp2, h⟩ | ⟨hp2, h⟩
  · refine wBT hp2 tm (s1 rfl) ?_
    refine rg (cp (oMv tm) (s1 rfl) <| cp (oNilP tm) (s1 rfl) <| cp (oFldP o174_2 tm) (s1 rfl) <| cr (oLdB (n := 1) (k := 3) rfl rfl rfl t3 tm) (s1 rfl) <| cp (oAdd tm (cI (by decide))) (s1 rfl) <| cp (oNilP tm) (s1 rfl) <| cp (oFldP o174_2 tm) (s1 rfl) <| cwn (oSt (n := 1) (k := 3) rfl rfl rfl rfl z3 tm tm) (s2 rfl rfl) <| .nil) (by kernel_rfl) ?_
    refine pSeq ?_
    refine wSeq ?_
    obtain ⟨y3, hy3, h⟩ := bd h
    refine rg (cp (oMv tm) (s1 rfl) <| cm (oCallS (rest := [.box 2 101 [.d kB false, .d (kI .i64) 0, .d (kI .i64) 0]]) (R' := [.box 2 101 [.d kB false, .d (kI .i64) 0, .d (kI .i64) 0], .box 70000 174 [.d (kL kS) y3.1.l_.Names, .d (kL (kI .u32)) y3.1.l_.Up, .d (kL (kR f_api_Tok)) y3.1.toks_, .d (kI .i64) y3.1.i_, .d (kI .i64) y3.1.bad_]]) (out' := .d ((kR f_api_Atom).sig y3.2)) [(70000, 70000)] [] [1] [0] [1, 0] rfl (state_reader_atom.ok hy3) b117 (oE1 tm oE0) rfl rfl rfl rfl rfl rfl rfl rfl) (s1 rfl) <| cw (oAlloc (id := 4) (ls := [.d (kI .i64) 0, .d (kI .i64) 0]) ze28 (fun g => ⟨[(.int .i64 0)], _, rfl, zI_i64 g.H, ⟨[(.int .i64 0)], _, rfl, zI_i64 g.H, rfl⟩⟩)) trivial <| cwn (oStA (n := 0) (fs := f_api_Atom) rfl rfl z28 tm tm) (s2 rfl rfl) <| .nil) (by kernel_rfl) ?_
    refine pSeq ?_
    refine wSeq ?_
    refine rg (cp (oMv tm) (s1 rfl) <| cp (oFldP o28_0 tm) (s1 rfl) <| cr (oLdB (n := 0) (k := 0) rfl rfl rfl t3 tm) (s1 rfl) <| cp (oFldP o28_1 tm) (s1 rfl) <| cr (oLdB (n := 0) (k := 1) rfl rfl rfl t3 tm) (s1 rfl) <| cp (oBuild (fs := f_api_Slot) (u := ⟨y1.2, y3.2.V, y3.2.L⟩) rfl ze101 pl101 po101 (.op (zc := [(.bool false)]) tm rfl (.op (zc := [(.int .i64 0)]) tm rfl (.op (zc := [(.int .i64 0)]) tm rfl .nil)))) (s3 rfl rfl rfl) <| cwn (oStA (n := 1) (fs := f_api_Slot) rfl rfl z101 tm tm) (s2 rfl rfl) <| .nil) (by kernel_rfl) ?_
    refine pSeq ?_
    refine wRet ?_
    obtain rfl := so h
    exact pS1 [2] rfl rfl (.inl rfl) rfl (.box (n := 1) (fs := f_api_Slot) (u := ⟨y1.2, y3.2.V, y3.2.L⟩) rfl rfl ⟨rfl, rfl, rfl, trivial⟩ t101 <| .nil)
  · refine wBF hp2 tm (s1 rfl) ?_
    refine wSkip ?_
    refine pSeq ?_
    refine wSeq ?_
    obtain ⟨y4, hy4, h⟩ := bd h
    refine rg (cp (oMv tm) (s1 rfl) <| cm (oCallS (rest := [.box 2 101 [.d kB false, .d (kI .i64) 0, .d (kI .i64) 0]]) (R' := [.box 2 101 [.d kB false, .d (kI .i64) 0, .d (kI .i64) 0], .box 70000 174 [.d (kL kS) y4.1.l_.Names, .d (kL (kI .u32)) y4.1.l_.Up, .d (kL (kR f_api_Tok)) y4.1.toks_, .d (kI .i64) y4.1.i_, .d (kI .i64) y4.1.bad_]]) (out' := .d ((kR f_api_Atom).sig y4.2)) [(70000, 70000)] [] [1] [0] [1, 0] rfl (state_reader_atom.ok hy4) b117 (oE1 tm oE0) rfl rfl rfl rfl rfl rfl rfl rfl) (s1 rfl) <| cw (oAlloc (id := 4) (ls := [.d (kI .i64) 0, .d (kI .i64) 0]) ze28 (fun g => ⟨[(.int .i64 0)], _, rfl, zI_i64 g.H, ⟨[(.int .i64 0)], _, rfl, zI_i64 g.H, rfl⟩⟩)) trivial <| cwn (oStA (n := 0) (fs := f_api_Atom) rfl rfl z28 tm tm) (s2 rfl rfl) <| .nil) (by kernel_rfl) ?_
    refine pSeq ?_
    refine wSeq ?_
    refine rg (cp (oMv tm) (s1 rfl) <| cp (oFldP o28_0 tm) (s1 rfl) <| cr (oLdB (n := 0) (k := 0) rfl rfl rfl t3 tm) (s1 rfl) <| cp (oFldP o28_1 tm) (s1 rfl) <| cr (oLdB (n := 0) (k := 1) rfl rfl rfl t3 tm) (s1 rfl) <| cp (oBuild (fs := f_api_Slot) (u := ⟨y1.2, y4.2.V, y4.2.L⟩) rfl ze101 pl101 po101 (.op (zc := [(.bool false)]) tm rfl (.op (zc := [(.int .i64 0)]) tm rfl (.op (zc := [(.int .i64 0)]) tm rfl .nil)))) (s3 rfl rfl rfl) <| cwn (oStA (n := 1) (fs := f_api_Slot) rfl rfl z101 tm tm) (s2 rfl rfl) <| .nil) (by kernel_rfl) ?_
    refine pSeq ?_
    refine wRet ?_
    obtain rfl := so h
    exact pS1 [2] rfl rfl (.inl rfl) rfl (.box (n := 1) (fs := f_api_Slot) (u := ⟨y1.2, y4.2.V, y4.2.L⟩) rfl rfl ⟨rfl, rfl, rfl, trivial⟩ t101 <| .nil)
theorem state_value.ok {a0 : Int} {r : Bool} (h : state_value.f a0 = some r) : FnA Tryz.prog 70 [(kI .i64).sig a0] (kB.sig r) := by
  refine fnIntro Tryz.func70 rfl (by kernel_rfl) fun H0 w0 => ?_
  unfold state_value.f at h
  refine wSeq ?_
  refine rg (cp (oAs cB) trivial <| .nil) (by kernel_rfl) ?_
  refine pSeq ?_
  obtain ⟨o1, h, hk1⟩ := bd h
  refine wJ1 (fun x2 => x2 = o1) (fun x2 => [(2, .d (kB.sig x2))]) (fun x2 => []) ?_ ?_
  · rcases ic h with ⟨hp3, h⟩ | ⟨hp3, h⟩
    · refine rg (cp (oMv tm) (s1 rfl) <| cp (oGe rfl tm (cI (by decide))) (s1 rfl) <| cp (oMv tm) (s1 rfl) <| cgB (decide_eq_true hp3) rfl rfl (oMv tm) (s1 rfl) <| cgB (decide_eq_true hp3) rfl rfl (oLe rfl tm (cI (by decide))) (s1 rfl) <| cp (oPkT (decide_eq_true hp3) tm tm) (s2 rfl rfl) <| cp (oAs tm) (s1 rfl) <| .nil) (by kernel_rfl) ?_
      exact pJ1 _ (so h) ⟨rfl, trivial⟩ rfl
    · refine rg (cp (oMv tm) (s1 rfl) <| cp (oGe rfl tm (cI (by decide))) (s1 rfl) <| cp (oMv tm) (s1 rfl) <| csB (decide_eq_false hp3) rfl rfl <| csB (decide_eq_false hp3) rfl rfl <| cp (oPkF (decide_eq_false hp3) tm cB) (s1 rfl) <| cp (oAs tm) (s1 rfl) <| .nil) (by kernel_rfl) ?_
      exact pJ1 _ (so h) ⟨rfl, trivial⟩ rfl
  · rintro x2 rfl
    replace h := hk1
    refine wRet ?_
    obtain rfl := so h
    exact pR1 (.inl rfl) rfl (.tmp rfl <| .nil)
theorem state_place.ok {a0 : Int} {r : Bool} (h : state_place.f a0 = some r) : FnA Tryz.prog 72 [(kI .i64).sig a0] (kB.sig r) := by
  refine fnIntro Tryz.func72 rfl (by kernel_rfl) fun H0 w0 => ?_
  unfold state_place.f at h
  refine wSeq ?_
  refine rg (cp (oAs cB) trivial <| .nil) (by kernel_rfl) ?_
  refine pSeq ?_
  obtain ⟨o1, h, hk1⟩ := bd h
  refine wJ1 (fun x2 => x2 = o1) (fun x2 => [(2, .d (kB.sig x2))]) (fun x2 => []) ?_ ?_
  · rcases ic h with ⟨hp3, h⟩ | ⟨hp3, h⟩
    · refine rg (cp (oMv tm) (s1 rfl) <| cp (oGe rfl tm (cI (by decide))) (s1 rfl) <| cp (oMv tm) (s1 rfl) <| cgB (decide_eq_true hp3) rfl rfl (oMv tm) (s1 rfl) <| cgB (decide_eq_true hp3) rfl rfl (oLe rfl tm (cI (by decide))) (s1 rfl) <| cp (oPkT (decide_eq_true hp3) tm tm) (s2 rfl rfl) <| cp (oAs tm) (s1 rfl) <| .nil) (by kernel_rfl) ?_
      exact pJ1 _ (so h) ⟨rfl, trivial⟩ rfl
    · refine rg (cp (oMv tm) (s1 rfl) <| cp (oGe rfl tm (cI (by decide))) (s1 rfl) <| cp (oMv tm) (s1 rfl) <| csB (decide_eq_false hp3) rfl rfl <| csB (decide_eq_false hp3) rfl rfl <| cp (oPkF (decide_eq_false hp3) tm cB) (s1 rfl) <| cp (oAs tm) (s1 rfl) <| .nil) (by kernel_rfl) ?_
      exact pJ1 _ (so h) ⟨rfl, trivial⟩ rfl
  · rintro x2 rfl
    replace h := hk1
    refine wRet ?_
    obtain rfl := so h
    exact pR1 (.inl rfl) rfl (.tmp rfl <| .nil)
theorem slices_IndexFunc_api_Instr_api_Instr.ok {a0 : List api_Instr} {a1 : api_Instr → Option Bool} {r : Int} (h : slices_IndexFunc_api_Instr_api_Instr.f a0 a1 = some r) : FnA Tryz.prog 232 [(kL (kR f_api_Instr)).sig a0, (sFun Tryz.prog (rl1 (kR f_api_Instr) kB a1))] ((kI .i64).sig r) := by
  refine fnIntro Tryz.func232 rfl (by kernel_rfl) fun H0 w0 => ?_
  unfold slices_IndexFunc_api_Instr_api_Instr.f at h
  refine wSeq ?_
  refine rg (cp (oAs (cI (by decide))) trivial <| .nil) (by kernel_rfl) ?_
  refine pSeq ?_
  refine wSeq ?_
  refine wSeq ?_
  refine rg (cp (oMv tm) (s1 rfl) <| cp (oLenL u29 tm) (s1 rfl) <| cp (oMv (cI (by decide))) trivial <| .nil) (by kernel_rfl) ?_
  refine pSeq ?_
  obtain ⟨o1, h, hk1⟩ := bd h
  refine wK0 (.inr () = o1) ([]) ([]) ?_ ?_
  · refine wBlock (wLoop ?_)
    refine lW (pc1 o1 (fun v9 => [(0, .d ((kL (kR f_api_Instr)).sig a0)), (1, .d ((sFun Tryz.prog (rl1 (kR f_api_Instr) kB a1)))), (7, .d ((kI .i64).sig (a0.length : Int))), (8, .d ((kI .i64).sig v9))]) (fun v9 => []) (slices_IndexFunc_api_Instr_api_Instr.l0.partial_correctness a0 a1) ?_ _ h) ⟨rfl, rfl, rfl, rfl, trivial⟩ rfl
    clear h
    intro f' ih v9 h
    refine wSeq ?_
    refine rg (cp (oLt rfl tm tm) (s2 rfl rfl) <| .nil) (by kernel_rfl) ?_
    refine pSeq ?_
    refine wSeq ?_
    rcases ic h with ⟨hp10, h⟩ | ⟨hp10, h⟩
    · refine wCT hp10 tm (s1 rfl) ?_
      refine wSkip ?_
      refine pSeq ?_
      refine wSeq ?_
      refine wBlock ?_
      refine wSeq ?_
      refine rg (cp (oMv tm) (s1 rfl) <| cp (oAs tm) (s1 rfl) <| .nil) (by kernel_rfl) ?_
      refine pSeq ?_
      refine wSeq ?_
      obtain ⟨y11, hy11, h⟩ := bd h
      obtain ⟨y12, hy12, h⟩ := bd h
      refine rg (cp (oMv tm) (s1 rfl) <| cp (oMv tm) (s1 rfl) <| cp (oMv tm) (s1 rfl) <| cp (oIdx u29 z136 hy11 tm tm) (s2 rfl rfl) <| cp (oLd t136 tm) (s1 rfl) <| cp (oCallV rfl (rl1i hy12) tm (opds_cons tm opds_nil)) (s2 rfl rfl) <| .nil) (by kernel_rfl) ?_
      refine pSeq ?_
      rcases ic h with ⟨hp13, h⟩ | ⟨hp13, h⟩
      · refine wBT hp13 tm (s1 rfl) ?_
        refine wSeq ?_
        refine rg (cp (oMv tm) (s1 rfl) <| cp (oAs tm) (s1 rfl) <| .nil) (by kernel_rfl) ?_
        refine pSeq ?_
        refine wRet ?_
        refine pBlkR ?_
        refine pThenR ?_
        refine pThenR ?_
        refine pBlkR ?_
        refine pThenR ?_
        obtain rfl := so h
        replace h := hk1
        refine pThenR ?_
        obtain rfl := so h
        exact pR1 (.inl rfl) rfl (.tmp rfl <| .nil)
      · refine wBF hp13 tm (s1 rfl) ?_
        refine wSkip ?_
        refine pBlkN ?_
        refine pSeq ?_
        refine rg (cp (oAdd tm (cI (by decide))) (s1 rfl) <| cp (oMv tm) (s1 rfl) <| .nil) (by kernel_rfl) ?_
        exact pLoop (lW (ih _ h) ⟨rfl, rfl, rfl, rfl, trivial⟩ rfl)
    · refine wCF hp10 tm (s1 rfl) ?_
      refine wExit ?_
      refine pThenX ?_
      refine pThenX ?_
      refine pBlkX ?_
      exact pJ0 (so h) trivial rfl
  · rintro rfl
    replace h := hk1
    refine pSeq ?_
    refine wSeq ?_
    refine rg (cp (oAs (cI (by decide))) trivial <| .nil) (by kernel_rfl) ?_
    refine pSeq ?_
    refine wRet ?_
    obtain rfl := so h
    exact pR1 (.inl rfl) rfl (.tmp rfl <| .nil)
theorem slices_ContainsFunc_api_Instr_api_Instr.ok {a0 : List api_Instr} {a1 : api_Instr → Option Bool} {r : Bool} (h : slices_ContainsFunc_api_Instr_api_Instr.f a0 a1 = some r) : FnA Tryz.prog 140 [(kL (kR f_api_Instr)).sig a0, (sFun Tryz.prog (rl1 (kR f_api_Instr) kB a1))] (kB.sig r) := by
  refine fnIntro Tryz.func140 rfl (by kernel_rfl) fun H0 w0 => ?_
  unfold slices_ContainsFunc_api_Instr_api_Instr.f at h
  refine wSeq ?_
  refine rg (cp (oAs cB) trivial <| .nil) (by kernel_rfl) ?_
  refine pSeq ?_
  refine wSeq ?_
  obtain ⟨y1, hy1, h⟩ := bd h
  refine rg (cp (oMv tm) (s1 rfl) <| cp (oMv tm) (s1 rfl) <| cp (oCall rfl (slices_IndexFunc_api_Instr_api_Instr.ok hy1) b232 (opds_cons tm (opds_cons tm opds_nil))) (s2 rfl rfl) <| cp (oGe rfl tm (cI (by decide))) (s1 rfl) <| cp (oAs tm) (s1 rfl) <| .nil) (by kernel_rfl) ?_
  refine pSeq ?_
  refine wRet ?_
  obtain rfl := so h
  exact pR1 (.inl rfl) rfl (.tmp rfl <| .nil)
theorem code_Right_1.ok {a0 : api_Instr} {a1 : api_Lattice} {r : Bool} (h : code_Right_1.f a0 a1 = some r) : FnA Tryz.prog 138 [(kR f_api_Instr).sig a0, sP (kR f_api_Lattice) a1] (kB.sig r) := by
  refine fnIntro Tryz.func138 rfl (by kernel_rfl) fun H0 w0 => ?_
  unfold code_Right_1.f at h
  refine wSeq ?_
  refine rg (cp (oBox tm) (s1 rfl) <| cp (oAs cB) trivial <| .nil) (by kernel_rfl) ?_
  refine pSeq ?_
  refine wSeq ?_
  obtain ⟨y1, hy1, h⟩ := bd h
  refine rg (cp (oFld (fs := f_api_Lattice) (k := 1) rfl o25_1 tm) (s1 rfl) <| cp (oLd t23 tm) (s1 rfl) <| cp (oLenL u23 tm) (s1 rfl) <| cp (oLd t136 tm) (s1 rfl) <| cp (oCall rfl (code_right.ok hy1) b139 (opds_cons tm (opds_cons tm opds_nil))) (s2 rfl rfl) <| cp (oNot tm) (s1 rfl) <| cp (oAs tm) (s1 rfl) <| .nil) (by kernel_rfl) ?_
  refine pSeq ?_
  refine wRet ?_
  obtain rfl := so h
  exact pR1 (.inl rfl) rfl (.tmp rfl <| .nil)
theorem code_Right.ok {a0 : api_Lattice} {a1 : List api_Instr} {r : Bool} (h : code_Right.f a0 a1 = some r) : FnA Tryz.prog 73 [(kR f_api_Lattice).sig a0, (kL (kR f_api_Instr)).sig a1] (kB.sig r) := by
  refine fnIntro Tryz.func73 rfl (by kernel_rfl) fun H0 w0 => ?_
  unfold code_Right.f at h
  refine wSeq ?_
  refine rg (cp (oBox tm) (s1 rfl) <| cp (oAs cB) trivial <| .nil) (by kernel_rfl) ?_
  refine pSeq ?_
  refine wSeq ?_
  refine rg (cp (oMkF (Rl := rl1 (kR f_api_Instr) kB (fun z0 => code_Right_1.f z0 a0)) rfl b138 (rl1e code_Right_1.ok) (opds_cons tm opds_nil)) (s1 rfl) <| cp (oAs tm) (s1 rfl) <| .nil) (by kernel_rfl) ?_
  refine pSeq ?_
  obtain ⟨o1, h, hk1⟩ := bd h
  refine wJ1 (fun x5 => x5 = o1) (fun x5 => [(4, .d (kB.sig x5))]) (fun x5 => []) ?_ ?_
  · obtain ⟨y6, hy6, h⟩ := bd h
    rcases ic h with ⟨hp7, h⟩ | ⟨hp7, h⟩
    · rcases ic h with ⟨hp8, h⟩ | ⟨hp8, h⟩
      · obtain ⟨y9, hy9, h⟩ := bd h
        refine rg (cp (oLd t25 tm) (s1 rfl) <| cp (oCall rfl (lattice_Check.ok hy6) b49 (opds_cons tm opds_nil)) (s1 rfl) <| cp (oEq rfl tm (cI (by decide))) (s1 rfl) <| cp (oMv tm) (s1 rfl) <| cgB (decide_eq_true hp7) rfl rfl (oMv tm) (s1 rfl) <| cgB (decide_eq_true hp7) rfl rfl (oLenL u29 tm) (s1 rfl) <| cgB (decide_eq_true hp7) rfl rfl (oLe rfl tm (cI (by decide))) (s1 rfl) <| cp (oPkT (decide_eq_true hp7) tm tm) (s2 rfl rfl) <| cp (oMv tm) (s1 rfl) <| cgB (decide_eq_true hp8) rfl rfl (oMv tm) (s1 rfl) <| cgB (decide_eq_true hp8) rfl rfl (oMv tm) (s1 rfl) <| cgB (decide_eq_true hp8) rfl rfl (oCall rfl (slices_ContainsFunc_api_Instr_api_Instr.ok hy9) b140 (opds_cons tm (opds_cons tm opds_nil))) (s2 rfl rfl) <| cgB (decide_eq_true hp8) rfl rfl (oNot tm) (s1 rfl) <| cp (oPkT (decide_eq_true hp8) tm tm) (s2 rfl rfl) <| cp (oAs tm) (s1 rfl) <| .nil) (by kernel_rfl) ?_
        exact pJ1 _ (so h) ⟨rfl, trivial⟩ rfl
      · refine rg (cp (oLd t25 tm) (s1 rfl) <| cp (oCall rfl (lattice_Check.ok hy6) b49 (opds_cons tm opds_nil)) (s1 rfl) <| cp (oEq rfl tm (cI (by decide))) (s1 rfl) <| cp (oMv tm) (s1 rfl) <| cgB (decide_eq_true hp7) rfl rfl (oMv tm) (s1 rfl) <| cgB (decide_eq_true hp7) rfl rfl (oLenL u29 tm) (s1 rfl) <| cgB (decide_eq_true hp7) rfl rfl (oLe rfl tm (cI (by decide))) (s1 rfl) <| cp (oPkT (decide_eq_true hp7) tm tm) (s2 rfl rfl) <| cp (oMv tm) (s1 rfl) <| csB (decide_eq_false hp8) rfl rfl <| csB (decide_eq_false hp8) rfl rfl <| csB (decide_eq_false hp8) rfl rfl <| csB (decide_eq_false hp8) rfl rfl <| cp (oPkF (decide_eq_false hp8) tm cB) (s1 rfl) <| cp (oAs tm) (s1 rfl) <| .nil) (by kernel_rfl) ?_
        exact pJ1 _ (so h) ⟨rfl, trivial⟩ rfl
    · refine rg (cp (oLd t25 tm) (s1 rfl) <| cp (oCall rfl (lattice_Check.ok hy6) b49 (opds_cons tm opds_nil)) (s1 rfl) <| cp (oEq rfl tm (cI (by decide))) (s1 rfl) <| cp (oMv tm) (s1 rfl) <| csB (decide_eq_false hp7) rfl rfl <| csB (decide_eq_false hp7) rfl rfl <| csB (decide_eq_false hp7) rfl rfl <| cp (oPkF (decide_eq_false hp7) tm cB) (s1 rfl) <| cp (oMv tm) (s1 rfl) <| csB rfl rfl rfl <| csB rfl rfl rfl <| csB rfl rfl rfl <| csB rfl rfl rfl <| cp (oPkF rfl tm cB) (s1 rfl) <| cp (oAs tm) (s1 rfl) <| .nil) (by kernel_rfl) ?_
      exact pJ1 _ (so h) ⟨rfl, trivial⟩ rfl
  · rintro x5 rfl
    replace h := hk1
    refine wRet ?_
    obtain rfl := so h
    exact pR1 (.inl rfl) rfl (.tmp rfl <| .nil)
theorem slices_IndexFunc_api_Atom_api_Atom.ok {a0 : List api_Atom} {a1 : api_Atom → Option Bool} {r : Int} (h : slices_IndexFunc_api_Atom_api_Atom.f a0 a1 = some r) : FnA Tryz.prog 141 [(kL (kR f_api_Atom)).sig a0, (sFun Tryz.prog (rl1 (kR f_api_Atom) kB a1))] ((kI .i64).sig r) := by
  refine fnIntro Tryz.func141 rfl (by kernel_rfl) fun H0 w0 => ?_
  unfold slices_IndexFunc_api_Atom_api_Atom.f at h
  refine wSeq ?_
  refine rg (cp (oAs (cI (by decide))) trivial <| .nil) (by kernel_rfl) ?_
  refine pSeq ?_
  refine wSeq ?_
  refine wSeq ?_
  refine rg (cp (oMv tm) (s1 rfl) <| cp (oLenL u30 tm) (s1 rfl) <| cp (oMv (cI (by decide))) trivial <| .nil) (by kernel_rfl) ?_
  refine pSeq ?_
  obtain ⟨o1, h, hk1⟩ := bd h
  refine wK0 (.inr () = o1) ([]) ([]) ?_ ?_
  · refine wBlock (wLoop ?_)
    refine lW (pc1 o1 (fun v9 => [(0, .d ((kL (kR f_api_Atom)).sig a0)), (1, .d ((sFun Tryz.prog (rl1 (kR f_api_Atom) kB a1)))), (7, .d ((kI .i64).sig (a0.length : Int))), (8, .d ((kI .i64).sig v9))]) (fun v9 => []) (slices_IndexFunc_api_Atom_api_Atom.l0.partial_correctness a0 a1) ?_ _ h) ⟨rfl, rfl, rfl, rfl, trivial⟩ rfl
    clear h
    intro f' ih v9 h
    refine wSeq ?_
    refine rg (cp (oLt rfl tm tm) (s2 rfl rfl) <| .nil) (by kernel_rfl) ?_
    refine pSeq ?_
    refine wSeq ?_
    rcases ic h with ⟨hp10, h⟩ | ⟨hp10, h⟩
    · refine wCT hp10 tm (s1 rfl) ?_
      refine wSkip ?_
      refine pSeq ?_
      refine wSeq ?_
      refine wBlock ?_
      refine wSeq ?_
      refine rg (cp (oMv tm) (s1 rfl) <| cp (oAs tm) (s1 rfl) <| .nil) (by kernel_rfl) ?_
      refine pSeq ?_
      refine wSeq ?_
      obtain ⟨y11, hy11, h⟩ := bd h
      obtain ⟨y12, hy12, h⟩ := bd h
      refine rg (cp (oMv tm) (s1 rfl) <| cp (oMv tm) (s1 rfl) <| cp (oMv tm) (s1 rfl) <| cp (oIdx u30 z28 hy11 tm tm) (s2 rfl rfl) <| cp (oLd t28 tm) (s1 rfl) <| cp (oCallV rfl (rl1i hy12) tm (opds_cons tm opds_nil)) (s2 rfl rfl) <| .nil) (by kernel_rfl) ?_
      refine pSeq ?_
      rcases ic h with ⟨hp13, h⟩ | ⟨hp13, h⟩
      · refine wBT hp13 tm (s1 rfl) ?_
        refine wSeq ?_
        refine rg (cp (oMv tm) (s1 rfl) <| cp (oAs tm) (s1 rfl) <| .nil) (by kernel_rfl) ?_
        refine pSeq ?_
        refine wRet ?_
        refine pBlkR ?_
        refine pThenR ?_
        refine pThenR ?_
        refine pBlkR ?_
        refine pThenR ?_
        obtain rfl := so h
        replace h := hk1
        refine pThenR ?_
        obtain rfl := so h
        exact pR1 (.inl rfl) rfl (.tmp rfl <| .nil)
      · refine wBF hp13 tm (s1 rfl) ?_
        refine wSkip ?_
        refine pBlkN ?_
        refine pSeq ?_
        refine rg (cp (oAdd tm (cI (by decide))) (s1 rfl) <| cp (oMv tm) (s1 rfl) <| .nil) (by kernel_rfl) ?_
        exact pLoop (lW (ih _ h) ⟨rfl, rfl, rfl, rfl, trivial⟩ rfl)
    · refine wCF hp10 tm (s1 rfl) ?_
      refine wExit ?_
      refine pThenX ?_
      refine pThenX ?_
      refine pBlkX ?_
      exact pJ0 (so h) trivial rfl
  · rintro rfl
    replace h := hk1
    refine pSeq ?_
    refine wSeq ?_
    refine rg (cp (oAs (cI (by decide))) trivial <| .nil) (by kernel_rfl) ?_
    refine pSeq ?_
    refine wRet ?_
    obtain rfl := so h
    exact pR1 (.inl rfl) rfl (.tmp rfl <| .nil)
theorem slices_ContainsFunc_api_Atom_api_Atom.ok {a0 : List api_Atom} {a1 : api_Atom → Option Bool} {r : Bool} (h : slices_ContainsFunc_api_Atom_api_Atom.f a0 a1 = some r) : FnA Tryz.prog 74 [(kL (kR f_api_Atom)).sig a0, (sFun Tryz.prog (rl1 (kR f_api_Atom) kB a1))] (kB.sig r) := by
  refine fnIntro Tryz.func74 rfl (by kernel_rfl) fun H0 w0 => ?_
  unfold slices_ContainsFunc_api_Atom_api_Atom.f at h
  refine wSeq ?_
  refine rg (cp (oAs cB) trivial <| .nil) (by kernel_rfl) ?_
  refine pSeq ?_
  refine wSeq ?_
  obtain ⟨y1, hy1, h⟩ := bd h
  refine rg (cp (oMv tm) (s1 rfl) <| cp (oMv tm) (s1 rfl) <| cp (oCall rfl (slices_IndexFunc_api_Atom_api_Atom.ok hy1) b141 (opds_cons tm (opds_cons tm opds_nil))) (s2 rfl rfl) <| cp (oGe rfl tm (cI (by decide))) (s1 rfl) <| cp (oAs tm) (s1 rfl) <| .nil) (by kernel_rfl) ?_
  refine pSeq ?_
  refine wRet ?_
  obtain rfl := so h
  exact pR1 (.inl rfl) rfl (.tmp rfl <| .nil)
theorem slices_IndexFunc_api_Slot_api_Slot.ok {a0 : List api_Slot} {a1 : api_Slot → Option Bool} {r : Int} (h : slices_IndexFunc_api_Slot_api_Slot.f a0 a1 = some r) : FnA Tryz.prog 142 [(kL (kR f_api_Slot)).sig a0, (sFun Tryz.prog (rl1 (kR f_api_Slot) kB a1))] ((kI .i64).sig r) := by
  refine fnIntro Tryz.func142 rfl (by kernel_rfl) fun H0 w0 => ?_
  unfold slices_IndexFunc_api_Slot_api_Slot.f at h
  refine wSeq ?_
  refine rg (cp (oAs (cI (by decide))) trivial <| .nil) (by kernel_rfl) ?_
  refine pSeq ?_
  refine wSeq ?_
  refine wSeq ?_
  refine rg (cp (oMv tm) (s1 rfl) <| cp (oLenL u31 tm) (s1 rfl) <| cp (oMv (cI (by decide))) trivial <| .nil) (by kernel_rfl) ?_
  refine pSeq ?_
  obtain ⟨o1, h, hk1⟩ := bd h
  refine wK0 (.inr () = o1) ([]) ([]) ?_ ?_
  · refine wBlock (wLoop ?_)
    refine lW (pc1 o1 (fun v9 => [(0, .d ((kL (kR f_api_Slot)).sig a0)), (1, .d ((sFun Tryz.prog (rl1 (kR f_api_Slot) kB a1)))), (7, .d ((kI .i64).sig (a0.length : Int))), (8, .d ((kI .i64).sig v9))]) (fun v9 => []) (slices_IndexFunc_api_Slot_api_Slot.l0.partial_correctness a0 a1) ?_ _ h) ⟨rfl, rfl, rfl, rfl, trivial⟩ rfl
    clear h
    intro f' ih v9 h
    refine wSeq ?_
    refine rg (cp (oLt rfl tm tm) (s2 rfl rfl) <| .nil) (by kernel_rfl) ?_
    refine pSeq ?_
    refine wSeq ?_
    rcases ic h with ⟨hp10, h⟩ | ⟨hp10, h⟩
    · refine wCT hp10 tm (s1 rfl) ?_
      refine wSkip ?_
      refine pSeq ?_
      refine wSeq ?_
      refine wBlock ?_
      refine wSeq ?_
      refine rg (cp (oMv tm) (s1 rfl) <| cp (oAs tm) (s1 rfl) <| .nil) (by kernel_rfl) ?_
      refine pSeq ?_
      refine wSeq ?_
      obtain ⟨y11, hy11, h⟩ := bd h
      obtain ⟨y12, hy12, h⟩ := bd h
      refine rg (cp (oMv tm) (s1 rfl) <| cp (oMv tm) (s1 rfl) <| cp (oMv tm) (s1 rfl) <| cp (oIdx u31 z101 hy11 tm tm) (s2 rfl rfl) <| cp (oLd t101 tm) (s1 rfl) <| cp (oCallV rfl (rl1i hy12) tm (opds_cons tm opds_nil)) (s2 rfl rfl) <| .nil) (by kernel_rfl) ?_
      refine pSeq ?_
      rcases ic h with ⟨hp13, h⟩ | ⟨hp13, h⟩
      · refine wBT hp13 tm (s1 rfl) ?_
        refine wSeq ?_
        refine rg (cp (oMv tm) (s1 rfl) <| cp (oAs tm) (s1 rfl) <| .nil) (by kernel_rfl) ?_
        refine pSeq ?_
        refine wRet ?_
        refine pBlkR ?_
        refine pThenR ?_
        refine pThenR ?_
        refine pBlkR ?_
        refine pThenR ?_
        obtain rfl := so h
        replace h := hk1
        refine pThenR ?_
        obtain rfl := so h
        exact pR1 (.inl rfl) rfl (.tmp rfl <| .nil)
      · refine wBF hp13 tm (s1 rfl) ?_
        refine wSkip ?_
        refine pBlkN ?_
        refine pSeq ?_
        refine rg (cp (oAdd tm (cI (by decide))) (s1 rfl) <| cp (oMv tm) (s1 rfl) <| .nil) (by kernel_rfl) ?_
        exact pLoop (lW (ih _ h) ⟨rfl, rfl, rfl, rfl, trivial⟩ rfl)
    · refine wCF hp10 tm (s1 rfl) ?_
      refine wExit ?_
      refine pThenX ?_
      refine pThenX ?_
      refine pBlkX ?_
      exact pJ0 (so h) trivial rfl
  · rintro rfl
    replace h := hk1
    refine pSeq ?_
    refine wSeq ?_
    refine rg (cp (oAs (cI (by decide))) trivial <| .nil) (by kernel_rfl) ?_
    refine pSeq ?_
    refine wRet ?_
    obtain rfl := so h
    exact pR1 (.inl rfl) rfl (.tmp rfl <| .nil)
theorem slices_ContainsFunc_api_Slot_api_Slot.ok {a0 : List api_Slot} {a1 : api_Slot → Option Bool} {r : Bool} (h : slices_ContainsFunc_api_Slot_api_Slot.f a0 a1 = some r) : FnA Tryz.prog 75 [(kL (kR f_api_Slot)).sig a0, (sFun Tryz.prog (rl1 (kR f_api_Slot) kB a1))] (kB.sig r) := by
  refine fnIntro Tryz.func75 rfl (by kernel_rfl) fun H0 w0 => ?_
  unfold slices_ContainsFunc_api_Slot_api_Slot.f at h
  refine wSeq ?_
  refine rg (cp (oAs cB) trivial <| .nil) (by kernel_rfl) ?_
  refine pSeq ?_
  refine wSeq ?_
  obtain ⟨y1, hy1, h⟩ := bd h
  refine rg (cp (oMv tm) (s1 rfl) <| cp (oMv tm) (s1 rfl) <| cp (oCall rfl (slices_IndexFunc_api_Slot_api_Slot.ok hy1) b142 (opds_cons tm (opds_cons tm opds_nil))) (s2 rfl rfl) <| cp (oGe rfl tm (cI (by decide))) (s1 rfl) <| cp (oAs tm) (s1 rfl) <| .nil) (by kernel_rfl) ?_
  refine pSeq ?_
  refine wRet ?_
  obtain rfl := so h
  exact pR1 (.inl rfl) rfl (.tmp rfl <| .nil)
theorem state_Right_1.ok {a0 : Int} {a1 : api_Lattice} {r : Bool} (h : state_Right_1.f a0 a1 = some r) : FnA Tryz.prog 68 [(kI .i64).sig a0, sP (kR f_api_Lattice) a1] (kB.sig r) := by
  refine fnIntro Tryz.func68 rfl (by kernel_rfl) fun H0 w0 => ?_
  unfold state_Right_1.f at h
  refine wSeq ?_
  refine rg (cp (oAs cB) trivial <| .nil) (by kernel_rfl) ?_
  refine pSeq ?_
  obtain ⟨o1, h, hk1⟩ := bd h
  refine wJ1 (fun x2 => x2 = o1) (fun x2 => [(3, .d (kB.sig x2))]) (fun x2 => []) ?_ ?_
  · rcases ic h with ⟨hp3, h⟩ | ⟨hp3, h⟩
    · refine rg (cp (oMv tm) (s1 rfl) <| cp (oGe rfl tm (cI (by decide))) (s1 rfl) <| cp (oMv tm) (s1 rfl) <| cgB (decide_eq_true hp3) rfl rfl (oMv tm) (s1 rfl) <| cgB (decide_eq_true hp3) rfl rfl (oFld (fs := f_api_Lattice) (k := 1) rfl o25_1 tm) (s1 rfl) <| cgB (decide_eq_true hp3) rfl rfl (oLd t23 tm) (s1 rfl) <| cgB (decide_eq_true hp3) rfl rfl (oLenL u23 tm) (s1 rfl) <| cgB (decide_eq_true hp3) rfl rfl (oLt rfl tm tm) (s2 rfl rfl) <| cp (oPkT (decide_eq_true hp3) tm tm) (s2 rfl rfl) <| cp (oAs tm) (s1 rfl) <| .nil) (by kernel_rfl) ?_
      exact pJ1 _ (so h) ⟨rfl, trivial⟩ rfl
    · refine rg (cp (oMv tm) (s1 rfl) <| cp (oGe rfl tm (cI (by decide))) (s1 rfl) <| cp (oMv tm) (s1 rfl) <| csB (decide_eq_false hp3) rfl rfl <| csB (decide_eq_false hp3) rfl rfl <| csB (decide_eq_false hp3) rfl rfl <| csB (decide_eq_false hp3) rfl rfl <| csB (decide_eq_false hp3) rfl rfl <| cp (oPkF (decide_eq_false hp3) tm cB) (s1 rfl) <| cp (oAs tm) (s1 rfl) <| .nil) (by kernel_rfl) ?_
      exact pJ1 _ (so h) ⟨rfl, trivial⟩ rfl
  · rintro x2 rfl
    replace h := hk1
    refine wRet ?_
    obtain rfl := so h
    exact pR1 (.inl rfl) rfl (.tmp rfl <| .nil)
theorem state_Right_2.ok {a0 : api_Atom} {a1 : Option (Int → Option Bool)} {r : Bool} (h : state_Right_2.f a0 a1 = some r) : FnA Tryz.prog 69 [(kR f_api_Atom).sig a0, sP (kFn Tryz.prog (rl1 (kI .i64) kB)) a1] (kB.sig r) := by
  refine fnIntro Tryz.func69 rfl (by kernel_rfl) fun H0 w0 => ?_
  unfold state_Right_2.f at h
  refine wSeq ?_
  refine rg (cp (oBox tm) (s1 rfl) <| cp (oAs cB) trivial <| .nil) (by kernel_rfl) ?_
  refine pSeq ?_
  obtain ⟨o1, h, hk1⟩ := bd h
  refine wJ1 (fun x5 => x5 = o1) (fun x5 => [(3, .d (kB.sig x5))]) (fun x5 => []) ?_ ?_
  · obtain ⟨y6, hy6, h⟩ := bd h
    rcases ic h with ⟨hp7, h⟩ | ⟨hp7, h⟩
    · refine rg (cp (oFld (fs := f_api_Atom) (k := 0) rfl o28_0 tm) (s1 rfl) <| cp (oLd t3 tm) (s1 rfl) <| cp (oCall rfl (state_value.ok hy6) b70 (opds_cons tm opds_nil)) (s1 rfl) <| cp (oNot tm) (s1 rfl) <| cp (oMv tm) (s1 rfl) <| csB hp7 rfl rfl <| csB hp7 rfl rfl <| csB hp7 rfl rfl <| csB hp7 rfl rfl <| csB hp7 rfl rfl <| cp (oPkT hp7 tm cB) (s1 rfl) <| cp (oAs tm) (s1 rfl) <| .nil) (by kernel_rfl) ?_
      exact pJ1 _ (so h) ⟨rfl, trivial⟩ rfl
    · obtain ⟨y8, hy8, h⟩ := bd h
      obtain ⟨y9, hy9, h⟩ := bd h
      refine rg (cp (oFld (fs := f_api_Atom) (k := 0) rfl o28_0 tm) (s1 rfl) <| cp (oLd t3 tm) (s1 rfl) <| cp (oCall rfl (state_value.ok hy6) b70 (opds_cons tm opds_nil)) (s1 rfl) <| cp (oNot tm) (s1 rfl) <| cp (oMv tm) (s1 rfl) <| cgB (nb hp7) rfl rfl (oLd t114 tm) (s1 rfl) <| cgB (nb hp7) rfl rfl (oFld (fs := f_api_Atom) (k := 1) rfl o28_1 tm) (s1 rfl) <| cgB (nb hp7) rfl rfl (oLd t3 tm) (s1 rfl) <| cgB (nb hp7) rfl rfl (oCallV rfl (rl1i hy9) (oGot hy8 tm) (opds_cons tm opds_nil)) (s2 rfl rfl) <| cgB (nb hp7) rfl rfl (oNot tm) (s1 rfl) <| cp (oPkF (nb hp7) tm tm) (s2 rfl rfl) <| cp (oAs tm) (s1 rfl) <| .nil) (by kernel_rfl) ?_
      exact pJ1 _ (so h) ⟨rfl, trivial⟩ rfl
  · rintro x5 rfl
    replace h := hk1
    refine wRet ?_
    obtain rfl := so h
    exact pR1 (.inl rfl) rfl (.tmp rfl <| .nil)
theorem state_Right_3.ok {a0 : api_Slot} {a1 : Option (Int → Option Bool)} {r : Bool} (h : state_Right_3.f a0 a1 = some r) : FnA Tryz.prog 71 [(kR f_api_Slot).sig a0, sP (kFn Tryz.prog (rl1 (kI .i64) kB)) a1] (kB.sig r) := by
  refine fnIntro Tryz.func71 rfl (by kernel_rfl) fun H0 w0 => ?_
  unfold state_Right_3.f at h
  refine wSeq ?_
  refine rg (cp (oBox tm) (s1 rfl) <| cp (oAs cB) trivial <| .nil) (by kernel_rfl) ?_
  refine pSeq ?_
  obtain ⟨o1, h, hk1⟩ := bd h
  refine wJ1 (fun x11 => x11 = o1) (fun x11 => [(3, .d (kB.sig x11))]) (fun x11 => []) ?_ ?_
  · obtain ⟨y12, hy12, h⟩ := bd h
    obtain ⟨y13, hy13, h⟩ := bd h
    rcases ic h with ⟨hp14, h⟩ | ⟨hp14, h⟩
    · refine rg (cp (oLd t114 tm) (s1 rfl) <| cp (oFld (fs := f_api_Slot) (k := 2) rfl o101_2 tm) (s1 rfl) <| cp (oLd t3 tm) (s1 rfl) <| cp (oCallV rfl (rl1i hy13) (oGot hy12 tm) (opds_cons tm opds_nil)) (s2 rfl rfl) <| cp (oNot tm) (s1 rfl) <| cp (oMv tm) (s1 rfl) <| csB hp14 rfl rfl <| csB hp14 rfl rfl <| csB hp14 rfl rfl <| csB hp14 rfl rfl <| csU rfl rfl <| csU rfl rfl <| csU rfl rfl <| csU rfl rfl <| csB hp14 rfl rfl <| cp (oPkT hp14 tm cB) (s1 rfl) <| cp (oMv tm) (s1 rfl) <| csB rfl rfl rfl <| csB rfl rfl rfl <| csB rfl rfl rfl <| csU rfl rfl <| csU rfl rfl <| csU rfl rfl <| csU rfl rfl <| csB rfl rfl rfl <| cp (oPkT rfl tm cB) (s1 rfl) <| cp (oAs tm) (s1 rfl) <| .nil) (by kernel_rfl) ?_
      exact pJ1 _ (so h) ⟨rfl, trivial⟩ rfl
    · rcases ic h with ⟨hp15, h⟩ | ⟨hp15, h⟩
      · obtain ⟨y16, hy16, h⟩ := bd h
        rcases ic h with ⟨hp17, h⟩ | ⟨hp17, h⟩
        · refine rg (cp (oLd t114 tm) (s1 rfl) <| cp (oFld (fs := f_api_Slot) (k := 2) rfl o101_2 tm) (s1 rfl) <| cp (oLd t3 tm) (s1 rfl) <| cp (oCallV rfl (rl1i hy13) (oGot hy12 tm) (opds_cons tm opds_nil)) (s2 rfl rfl) <| cp (oNot tm) (s1 rfl) <| cp (oMv tm) (s1 rfl) <| cgB (nb hp14) rfl rfl (oFld (fs := f_api_Slot) (k := 0) rfl o101_0 tm) (s1 rfl) <| cgB (nb hp14) rfl rfl (oLd t4 tm) (s1 rfl) <| cgB (nb hp14) rfl rfl (oNot tm) (s1 rfl) <| cgB (nb hp14) rfl rfl (oMv tm) (s1 rfl) <| cgB hp15 rfl rfl (oFld (fs := f_api_Slot) (k := 1) rfl o101_1 tm) (s1 rfl) <| cgB hp15 rfl rfl (oLd t3 tm) (s1 rfl) <| cgB hp15 rfl rfl (oCall rfl (state_value.ok hy16) b70 (opds_cons tm opds_nil)) (s1 rfl) <| cgB hp15 rfl rfl (oNot tm) (s1 rfl) <| cgB (nb hp14) rfl rfl (oPkT hp15 tm tm) (s2 rfl rfl) <| cp (oPkF (nb hp14) tm tm) (s2 rfl rfl) <| cp (oMv tm) (s1 rfl) <| csB hp17 rfl rfl <| csB hp17 rfl rfl <| csB hp17 rfl rfl <| csU rfl rfl <| csU rfl rfl <| csU rfl rfl <| csU rfl rfl <| csB hp17 rfl rfl <| cp (oPkT hp17 tm cB) (s1 rfl) <| cp (oAs tm) (s1 rfl) <| .nil) (by kernel_rfl) ?_
          exact pJ1 _ (so h) ⟨rfl, trivial⟩ rfl
        · rcases ic h with ⟨hp18, h⟩ | ⟨hp18, h⟩
          · obtain ⟨y19, hy19, h⟩ := bd h
            refine rg (cp (oLd t114 tm) (s1 rfl) <| cp (oFld (fs := f_api_Slot) (k := 2) rfl o101_2 tm) (s1 rfl) <| cp (oLd t3 tm) (s1 rfl) <| cp (oCallV rfl (rl1i hy13) (oGot hy12 tm) (opds_cons tm opds_nil)) (s2 rfl rfl) <| cp (oNot tm) (s1 rfl) <| cp (oMv tm) (s1 rfl) <| cgB (nb hp14) rfl rfl (oFld (fs := f_api_Slot) (k := 0) rfl o101_0 tm) (s1 rfl) <| cgB (nb hp14) rfl rfl (oLd t4 tm) (s1 rfl) <| cgB (nb hp14) rfl rfl (oNot tm) (s1 rfl) <| cgB (nb hp14) rfl rfl (oMv tm) (s1 rfl) <| cgB hp15 rfl rfl (oFld (fs := f_api_Slot) (k := 1) rfl o101_1 tm) (s1 rfl) <| cgB hp15 rfl rfl (oLd t3 tm) (s1 rfl) <| cgB hp15 rfl rfl (oCall rfl (state_value.ok hy16) b70 (opds_cons tm opds_nil)) (s1 rfl) <| cgB hp15 rfl rfl (oNot tm) (s1 rfl) <| cgB (nb hp14) rfl rfl (oPkT hp15 tm tm) (s2 rfl rfl) <| cp (oPkF (nb hp14) tm tm) (s2 rfl rfl) <| cp (oMv tm) (s1 rfl) <| cgB (nb hp17) rfl rfl (oFld (fs := f_api_Slot) (k := 0) rfl o101_0 tm) (s1 rfl) <| cgB (nb hp17) rfl rfl (oLd t4 tm) (s1 rfl) <| cgB (nb hp17) rfl rfl (oMv tm) (s1 rfl) <| cgB hp18 rfl rfl (oFld (fs := f_api_Slot) (k := 1) rfl o101_1 tm) (s1 rfl) <| cgB hp18 rfl rfl (oLd t3 tm) (s1 rfl) <| cgB hp18 rfl rfl (oCall rfl (state_place.ok hy19) b72 (opds_cons tm opds_nil)) (s1 rfl) <| cgB hp18 rfl rfl (oNot tm) (s1 rfl) <| cgB (nb hp17) rfl rfl (oPkT hp18 tm tm) (s2 rfl rfl) <| cp (oPkF (nb hp17) tm tm) (s2 rfl rfl) <| cp (oAs tm) (s1 rfl) <| .nil) (by kernel_rfl) ?_
            exact pJ1 _ (so h) ⟨rfl, trivial⟩ rfl
          · refine rg (cp (oLd t114 tm) (s1 rfl) <| cp (oFld (fs := f_api_Slot) (k := 2) rfl o101_2 tm) (s1 rfl) <| cp (oLd t3 tm) (s1 rfl) <| cp (oCallV rfl (rl1i hy13) (oGot hy12 tm) (opds_cons tm opds_nil)) (s2 rfl rfl) <| cp (oNot tm) (s1 rfl) <| cp (oMv tm) (s1 rfl) <| cgB (nb hp14) rfl rfl (oFld (fs := f_api_Slot) (k := 0) rfl o101_0 tm) (s1 rfl) <| cgB (nb hp14) rfl rfl (oLd t4 tm) (s1 rfl) <| cgB (nb hp14) rfl rfl (oNot tm) (s1 rfl) <| cgB (nb hp14) rfl rfl (oMv tm) (s1 rfl) <| cgB hp15 rfl rfl (oFld (fs := f_api_Slot) (k := 1) rfl o101_1 tm) (s1 rfl) <| cgB hp15 rfl rfl (oLd t3 tm) (s1 rfl) <| cgB hp15 rfl rfl (oCall rfl (state_value.ok hy16) b70 (opds_cons tm opds_nil)) (s1 rfl) <| cgB hp15 rfl rfl (oNot tm) (s1 rfl) <| cgB (nb hp14) rfl rfl (oPkT hp15 tm tm) (s2 rfl rfl) <| cp (oPkF (nb hp14) tm tm) (s2 rfl rfl) <| cp (oMv tm) (s1 rfl) <| cgB (nb hp17) rfl rfl (oFld (fs := f_api_Slot) (k := 0) rfl o101_0 tm) (s1 rfl) <| cgB (nb hp17) rfl rfl (oLd t4 tm) (s1 rfl) <| cgB (nb hp17) rfl rfl (oMv tm) (s1 rfl) <| csB (nb hp18) rfl rfl <| csB (nb hp18) rfl rfl <| csB (nb hp18) rfl rfl <| csB (nb hp18) rfl rfl <| cgB (nb hp17) rfl rfl (oPkF (nb hp18) tm cB) (s1 rfl) <| cp (oPkF (nb hp17) tm tm) (s2 rfl rfl) <| cp (oAs tm) (s1 rfl) <| .nil) (by kernel_rfl) ?_
            exact pJ1 _ (so h) ⟨rfl, trivial⟩ rfl
      · rcases ic h with ⟨hp20, h⟩ | ⟨hp20, h⟩
        · obtain ⟨y21, hy21, h⟩ := bd h
          refine rg (cp (oLd t114 tm) (s1 rfl) <| cp (oFld (fs := f_api_Slot) (k := 2) rfl o101_2 tm) (s1 rfl) <| cp (oLd t3 tm) (s1 rfl) <| cp (oCallV rfl (rl1i hy13) (oGot hy12 tm) (opds_cons tm opds_nil)) (s2 rfl rfl) <| cp (oNot tm) (s1 rfl) <| cp (oMv tm) (s1 rfl) <| cgB (nb hp14) rfl rfl (oFld (fs := f_api_Slot) (k := 0) rfl o101_0 tm) (s1 rfl) <| cgB (nb hp14) rfl rfl (oLd t4 tm) (s1 rfl) <| cgB (nb hp14) rfl rfl (oNot tm) (s1 rfl) <| cgB (nb hp14) rfl rfl (oMv tm) (s1 rfl) <| csB (nb hp15) rfl rfl <| csB (nb hp15) rfl rfl <| csB (nb hp15) rfl rfl <| csB (nb hp15) rfl rfl <| cgB (nb hp14) rfl rfl (oPkF (nb hp15) tm cB) (s1 rfl) <| cp (oPkF (nb hp14) tm tm) (s2 rfl rfl) <| cp (oMv tm) (s1 rfl) <| cgB rfl rfl rfl (oFld (fs := f_api_Slot) (k := 0) rfl o101_0 tm) (s1 rfl) <| cgB rfl rfl rfl (oLd t4 tm) (s1 rfl) <| cgB rfl rfl rfl (oMv tm) (s1 rfl) <| cgB hp20 rfl rfl (oFld (fs := f_api_Slot) (k := 1) rfl o101_1 tm) (s1 rfl) <| cgB hp20 rfl rfl (oLd t3 tm) (s1 rfl) <| cgB hp20 rfl rfl (oCall rfl (state_place.ok hy21) b72 (opds_cons tm opds_nil)) (s1 rfl) <| cgB hp20 rfl rfl (oNot tm) (s1 rfl) <| cgB rfl rfl rfl (oPkT hp20 tm tm) (s2 rfl rfl) <| cp (oPkF rfl tm tm) (s2 rfl rfl) <| cp (oAs tm) (s1 rfl) <| .nil) (by kernel_rfl) ?_
          exact pJ1 _ (so h) ⟨rfl, trivial⟩ rfl
        · refine rg (cp (oLd t114 tm) (s1 rfl) <| cp (oFld (fs := f_api_Slot) (k := 2) rfl o101_2 tm) (s1 rfl) <| cp (oLd t3 tm) (s1 rfl) <| cp (oCallV rfl (rl1i hy13) (oGot hy12 tm) (opds_cons tm opds_nil)) (s2 rfl rfl) <| cp (oNot tm) (s1 rfl) <| cp (oMv tm) (s1 rfl) <| cgB (nb hp14) rfl rfl (oFld (fs := f_api_Slot) (k := 0) rfl o101_0 tm) (s1 rfl) <| cgB (nb hp14) rfl rfl (oLd t4 tm) (s1 rfl) <| cgB (nb hp14) rfl rfl (oNot tm) (s1 rfl) <| cgB (nb hp14) rfl rfl (oMv tm) (s1 rfl) <| csB (nb hp15) rfl rfl <| csB (nb hp15) rfl rfl <| csB (nb hp15) rfl rfl <| csB (nb hp15) rfl rfl <| cgB (nb hp14) rfl rfl (oPkF (nb hp15) tm cB) (s1 rfl) <| cp (oPkF (nb hp14) tm tm) (s2 rfl rfl) <| cp (oMv tm) (s1 rfl) <| cgB rfl rfl rfl (oFld (fs := f_api_Slot) (k := 0) rfl o101_0 tm) (s1 rfl) <| cgB rfl rfl rfl (oLd t4 tm) (s1 rfl) <| cgB rfl rfl rfl (oMv tm) (s1 rfl) <| csB (nb hp20) rfl rfl <| csB (nb hp20) rfl rfl <| csB (nb hp20) rfl rfl <| csB (nb hp20) rfl rfl <| cgB rfl rfl rfl (oPkF (nb hp20) tm cB) (s1 rfl) <| cp (oPkF rfl tm tm) (s2 rfl rfl) <| cp (oAs tm) (s1 rfl) <| .nil) (by kernel_rfl) ?_
          exact pJ1 _ (so h) ⟨rfl, trivial⟩ rfl
  · rintro x11 rfl
    replace h := hk1
    refine wRet ?_
    obtain rfl := so h
    exact pR1 (.inl rfl) rfl (.tmp rfl <| .nil)
theorem state_Right.ok {a0 : api_Lattice} {a1 : api_State} {r : Bool} (h : state_Right.f a0 a1 = some r) : FnA Tryz.prog 20 [(kR f_api_Lattice).sig a0, (kR f_api_State).sig a1] (kB.sig r) := by
  refine fnIntro Tryz.func20 rfl (by kernel_rfl) fun H0 w0 => ?_
  unfold state_Right.f at h
  refine wSeq ?_
  refine rg (cp (oBox tm) (s1 rfl) <| cp (oBox tm) (s1 rfl) <| cp (oAs cB) trivial <| .nil) (by kernel_rfl) ?_
  refine pSeq ?_
  refine wSeq ?_
  refine rg (cp (oMkF (Rl := rl1 (kI .i64) kB (fun z0 => state_Right_1.f z0 a0)) rfl b68 (rl1e state_Right_1.ok) (opds_cons tm opds_nil)) (s1 rfl) <| cw (oAlloc (id := 5) (ls := [.d (kFn Tryz.prog (rl1 (kI .i64) kB)) none]) ze114 (fun g => ⟨[.nilFunc], _, rfl, zFn g.H, rfl⟩)) trivial <| cwn (oSt (n := 0) (k := 0) rfl rfl rfl rfl z114 tm (oSome tm)) (s2 rfl rfl) <| .nil) (by kernel_rfl) ?_
  refine pSeq ?_
  refine wSeq ?_
  refine wFrzV 5 (n := 0) (id := 5) rfl rfl rfl ?_
  refine rg (cp (oMkF (Rl := rl1 (kR f_api_Atom) kB (fun z0 => state_Right_2.f z0 (some (fun z0 => state_Right_1.f z0 a0)))) rfl b69 (rl1e state_Right_2.ok) (opds_cons tm opds_nil)) (s1 rfl) <| cp (oAs tm) (s1 rfl) <| .nil) (by kernel_rfl) ?_
  refine pSeq ?_
  refine wSeq ?_
  refine rg (cp (oMkF (Rl := rl1 (kR f_api_Slot) kB (fun z0 => state_Right_3.f z0 (some (fun z0 => state_Right_1.f z0 a0)))) rfl b71 (rl1e state_Right_3.ok) (opds_cons tm opds_nil)) (s1 rfl) <| cp (oAs tm) (s1 rfl) <| .nil) (by kernel_rfl) ?_
  refine pSeq ?_
  obtain ⟨o1, h, hk1⟩ := bd h
  refine wJ1 (fun x3 => x3 = o1) (fun x3 => [(2, .d (sP (kR f_api_Lattice) a0)), (3, .d (sP (kR f_api_State) a1)), (5, .d (sP (kFn Tryz.prog (rl1 (kI .i64) kB)) (some (fun z0 => state_Right_1.f z0 a0)))), (6, .d ((sFun Tryz.prog (rl1 (kR f_api_Atom) kB (fun z0 => state_Right_2.f z0 (some (fun z0 => state_Right_1.f z0 a0))))))), (7, .d ((sFun Tryz.prog (rl1 (kR f_api_Slot) kB (fun z0 => state_Right_3.f z0 (some (fun z0 => state_Right_1.f z0 a0))))))), (8, .d (kB.sig x3))]) (fun x3 => []) ?_ ?_
  · rcases ic h with ⟨hp4, h⟩ | ⟨hp4, h⟩
    · rcases ic h with ⟨hp5, h⟩ | ⟨hp5, h⟩
      · refine rg (cp (oFld (fs := f_api_State) (k := 2) rfl o33_2 tm) (s1 rfl) <| cp (oLd t30 tm) (s1 rfl) <| cp (oLenL u30 tm) (s1 rfl) <| cp (oLe rfl tm (cI (by decide))) (s1 rfl) <| cp (oMv tm) (s1 rfl) <| cgB (decide_eq_true hp4) rfl rfl (oFld (fs := f_api_State) (k := 3) rfl o33_3 tm) (s1 rfl) <| cgB (decide_eq_true hp4) rfl rfl (oLd t31 tm) (s1 rfl) <| cgB (decide_eq_true hp4) rfl rfl (oLenL u31 tm) (s1 rfl) <| cgB (decide_eq_true hp4) rfl rfl (oLe rfl tm (cI (by decide))) (s1 rfl) <| cp (oPkT (decide_eq_true hp4) tm tm) (s2 rfl rfl) <| cp (oMv tm) (s1 rfl) <| cgB (decide_eq_true hp5) rfl rfl (oFld (fs := f_api_State) (k := 4) rfl o33_4 tm) (s1 rfl) <| cgB (decide_eq_true hp5) rfl rfl (oLd t30 tm) (s1 rfl) <| cgB (decide_eq_true hp5) rfl rfl (oLenL u30 tm) (s1 rfl) <| cgB (decide_eq_true hp5) rfl rfl (oLe rfl tm (cI (by decide))) (s1 rfl) <| cp (oPkT (decide_eq_true hp5) tm tm) (s2 rfl rfl) <| cp (oAs tm) (s1 rfl) <| .nil) (by kernel_rfl) ?_
        exact pJ1 _ (so h) ⟨rfl, rfl, rfl, rfl, rfl, rfl, trivial⟩ rfl
      · refine rg (cp (oFld (fs := f_api_State) (k := 2) rfl o33_2 tm) (s1 rfl) <| cp (oLd t30 tm) (s1 rfl) <| cp (oLenL u30 tm) (s1 rfl) <| cp (oLe rfl tm (cI (by decide))) (s1 rfl) <| cp (oMv tm) (s1 rfl) <| cgB (decide_eq_true hp4) rfl rfl (oFld (fs := f_api_State) (k := 3) rfl o33_3 tm) (s1 rfl) <| cgB (decide_eq_true hp4) rfl rfl (oLd t31 tm) (s1 rfl) <| cgB (decide_eq_true hp4) rfl rfl (oLenL u31 tm) (s1 rfl) <| cgB (decide_eq_true hp4) rfl rfl (oLe rfl tm (cI (by decide))) (s1 rfl) <| cp (oPkT (decide_eq_true hp4) tm tm) (s2 rfl rfl) <| cp (oMv tm) (s1 rfl) <| csB (decide_eq_false hp5) rfl rfl <| csB (decide_eq_false hp5) rfl rfl <| csB (decide_eq_false hp5) rfl rfl <| csB (decide_eq_false hp5) rfl rfl <| cp (oPkF (decide_eq_false hp5) tm cB) (s1 rfl) <| cp (oAs tm) (s1 rfl) <| .nil) (by kernel_rfl) ?_
        exact pJ1 _ (so h) ⟨rfl, rfl, rfl, rfl, rfl, rfl, trivial⟩ rfl
    · refine rg (cp (oFld (fs := f_api_State) (k := 2) rfl o33_2 tm) (s1 rfl) <| cp (oLd t30 tm) (s1 rfl) <| cp (oLenL u30 tm) (s1 rfl) <| cp (oLe rfl tm (cI (by decide))) (s1 rfl) <| cp (oMv tm) (s1 rfl) <| csB (decide_eq_false hp4) rfl rfl <| csB (decide_eq_false hp4) rfl rfl <| csB (decide_eq_false hp4) rfl rfl <| csB (decide_eq_false hp4) rfl rfl <| cp (oPkF (decide_eq_false hp4) tm cB) (s1 rfl) <| cp (oMv tm) (s1 rfl) <| csB rfl rfl rfl <| csB rfl rfl rfl <| csB rfl rfl rfl <| csB rfl rfl rfl <| cp (oPkF rfl tm cB) (s1 rfl) <| cp (oAs tm) (s1 rfl) <| .nil) (by kernel_rfl) ?_
      exact pJ1 _ (so h) ⟨rfl, rfl, rfl, rfl, rfl, rfl, trivial⟩ rfl
  · rintro x3 rfl
    replace h := hk1
    obtain ⟨o1, h, hk1⟩ := bd h
    refine wJ1 (fun x19 => x19 = o1) (fun x19 => [(4, .d (kB.sig x19))]) (fun x19 => []) ?_ ?_
    · obtain ⟨y20, hy20, h⟩ := bd h
      rcases ic h with ⟨hp21, h⟩ | ⟨hp21, h⟩
      · obtain ⟨y22, hy22, h⟩ := bd h
        rcases ic h with ⟨hp23, h⟩ | ⟨hp23, h⟩
        · obtain ⟨y24, hy24, h⟩ := bd h
          obtain ⟨y25, hy25, h⟩ := bd h
          rcases ic h with ⟨hp26, h⟩ | ⟨hp26, h⟩
          · rcases ic h with ⟨hp27, h⟩ | ⟨hp27, h⟩
            · obtain ⟨y28, hy28, h⟩ := bd h
              rcases ic h with ⟨hp29, h⟩ | ⟨hp29, h⟩
              · obtain ⟨y30, hy30, h⟩ := bd h
                rcases ic h with ⟨hp31, h⟩ | ⟨hp31, h⟩
                · obtain ⟨y32, hy32, h⟩ := bd h
                  refine rg (cp (oLd t25 tm) (s1 rfl) <| cp (oFld (fs := f_api_State) (k := 1) rfl o33_1 tm) (s1 rfl) <| cp (oLd t29 tm) (s1 rfl) <| cp (oCall rfl (code_Right.ok hy20) b73 (opds_cons tm (opds_cons tm opds_nil))) (s2 rfl rfl) <| cp (oMv tm) (s1 rfl) <| cgB hp21 rfl rfl (oFld (fs := f_api_State) (k := 0) rfl o33_0 tm) (s1 rfl) <| cgB hp21 rfl rfl (oFld (fs := f_api_Atom) (k := 0) rfl o28_0 tm) (s1 rfl) <| cgB hp21 rfl rfl (oLd t3 tm) (s1 rfl) <| cgB hp21 rfl rfl (oCall rfl (state_place.ok hy22) b72 (opds_cons tm opds_nil)) (s1 rfl) <| cp (oPkT hp21 tm tm) (s2 rfl rfl) <| cp (oMv tm) (s1 rfl) <| cgB hp23 rfl rfl (oLd t114 tm) (s1 rfl) <| cgB hp23 rfl rfl (oFld (fs := f_api_State) (k := 0) rfl o33_0 tm) (s1 rfl) <| cgB hp23 rfl rfl (oFld (fs := f_api_Atom) (k := 1) rfl o28_1 tm) (s1 rfl) <| cgB hp23 rfl rfl (oLd t3 tm) (s1 rfl) <| cgB hp23 rfl rfl (oCallV rfl (rl1i hy25) (oGot hy24 tm) (opds_cons tm opds_nil)) (s2 rfl rfl) <| cp (oPkT hp23 tm tm) (s2 rfl rfl) <| cp (oMv tm) (s1 rfl) <| cgB hp26 rfl rfl (oMv tm) (s1 rfl) <| cp (oPkT hp26 tm tm) (s2 rfl rfl) <| cp (oMv tm) (s1 rfl) <| cgB hp27 rfl rfl (oFld (fs := f_api_State) (k := 2) rfl o33_2 tm) (s1 rfl) <| cgB hp27 rfl rfl (oLd t30 tm) (s1 rfl) <| cgB hp27 rfl rfl (oMv tm) (s1 rfl) <| cgB hp27 rfl rfl (oCall rfl (slices_ContainsFunc_api_Atom_api_Atom.ok hy28) b74 (opds_cons tm (opds_cons tm opds_nil))) (s2 rfl rfl) <| cgB hp27 rfl rfl (oNot tm) (s1 rfl) <| cp (oPkT hp27 tm tm) (s2 rfl rfl) <| cp (oMv tm) (s1 rfl) <| cgB hp29 rfl rfl (oFld (fs := f_api_State) (k := 3) rfl o33_3 tm) (s1 rfl) <| cgB hp29 rfl rfl (oLd t31 tm) (s1 rfl) <| cgB hp29 rfl rfl (oMv tm) (s1 rfl) <| cgB hp29 rfl rfl (oCall rfl (slices_ContainsFunc_api_Slot_api_Slot.ok hy30) b75 (opds_cons tm (opds_cons tm opds_nil))) (s2 rfl rfl) <| cgB hp29 rfl rfl (oNot tm) (s1 rfl) <| cp (oPkT hp29 tm tm) (s2 rfl rfl) <| cp (oMv tm) (s1 rfl) <| cgB hp31 rfl rfl (oFld (fs := f_api_State) (k := 4) rfl o33_4 tm) (s1 rfl) <| cgB hp31 rfl rfl (oLd t30 tm) (s1 rfl) <| cgB hp31 rfl rfl (oMv tm) (s1 rfl) <| cgB hp31 rfl rfl (oCall rfl (slices_ContainsFunc_api_Atom_api_Atom.ok hy32) b74 (opds_cons tm (opds_cons tm opds_nil))) (s2 rfl rfl) <| cgB hp31 rfl rfl (oNot tm) (s1 rfl) <| cp (oPkT hp31 tm tm) (s2 rfl rfl) <| cp (oAs tm) (s1 rfl) <| .nil) (by kernel_rfl) ?_
                  exact pJ1 _ (so h) ⟨rfl, trivial⟩ rfl
                · refine rg (cp (oLd t25 tm) (s1 rfl) <| cp (oFld (fs := f_api_State) (k := 1) rfl o33_1 tm) (s1 rfl) <| cp (oLd t29 tm) (s1 rfl) <| cp (oCall rfl (code_Right.ok hy20) b73 (opds_cons tm (opds_cons tm opds_nil))) (s2 rfl rfl) <| cp (oMv tm) (s1 rfl) <| cgB hp21 rfl rfl (oFld (fs := f_api_State) (k := 0) rfl o33_0 tm) (s1 rfl) <| cgB hp21 rfl rfl (oFld (fs := f_api_Atom) (k := 0) rfl o28_0 tm) (s1 rfl) <| cgB hp21 rfl rfl (oLd t3 tm) (s1 rfl) <| cgB hp21 rfl rfl (oCall rfl (state_place.ok hy22) b72 (opds_cons tm opds_nil)) (s1 rfl) <| cp (oPkT hp21 tm tm) (s2 rfl rfl) <| cp (oMv tm) (s1 rfl) <| cgB hp23 rfl rfl (oLd t114 tm) (s1 rfl) <| cgB hp23 rfl rfl (oFld (fs := f_api_State) (k := 0) rfl o33_0 tm) (s1 rfl) <| cgB hp23 rfl rfl (oFld (fs := f_api_Atom) (k := 1) rfl o28_1 tm) (s1 rfl) <| cgB hp23 rfl rfl (oLd t3 tm) (s1 rfl) <| cgB hp23 rfl rfl (oCallV rfl (rl1i hy25) (oGot hy24 tm) (opds_cons tm opds_nil)) (s2 rfl rfl) <| cp (oPkT hp23 tm tm) (s2 rfl rfl) <| cp (oMv tm) (s1 rfl) <| cgB hp26 rfl rfl (oMv tm) (s1 rfl) <| cp (oPkT hp26 tm tm) (s2 rfl rfl) <| cp (oMv tm) (s1 rfl) <| cgB hp27 rfl rfl (oFld (fs := f_api_State) (k := 2) rfl o33_2 tm) (s1 rfl) <| cgB hp27 rfl rfl (oLd t30 tm) (s1 rfl) <| cgB hp27 rfl rfl (oMv tm) (s1 rfl) <| cgB hp27 rfl rfl (oCall rfl (slices_ContainsFunc_api_Atom_api_Atom.ok hy28) b74 (opds_cons tm (opds_cons tm opds_nil))) (s2 rfl rfl) <| cgB hp27 rfl rfl (oNot tm) (s1 rfl) <| cp (oPkT hp27 tm tm) (s2 rfl rfl) <| cp (oMv tm) (s1 rfl) <| cgB hp29 rfl rfl (oFld (fs := f_api_State) (k := 3) rfl o33_3 tm) (s1 rfl) <| cgB hp29 rfl rfl (oLd t31 tm) (s1 rfl) <| cgB hp29 rfl rfl (oMv tm) (s1 rfl) <| cgB hp29 rfl rfl (oCall rfl (slices_ContainsFunc_api_Slot_api_Slot.ok hy30) b75 (opds_cons tm (opds_cons tm opds_nil))) (s2 rfl rfl) <| cgB hp29 rfl rfl (oNot tm) (s1 rfl) <| cp (oPkT hp29 tm tm) (s2 rfl rfl) <| cp (oMv tm) (s1 rfl) <| csB (nb hp31) rfl rfl <| csB (nb hp31) rfl rfl <| csB (nb hp31) rfl rfl <| csB (nb hp31) rfl rfl <| csB (nb hp31) rfl rfl <| cp (oPkF (nb hp31) tm cB) (s1 rfl) <| cp (oAs tm) (s1 rfl) <| .nil) (by kernel_rfl) ?_
                  exact pJ1 _ (so h) ⟨rfl, trivial⟩ rfl
              · refine rg (cp (oLd t25 tm) (s1 rfl) <| cp (oFld (fs := f_api_State) (k := 1) rfl o33_1 tm) (s1 rfl) <| cp (oLd t29 tm) (s1 rfl) <| cp (oCall rfl (code_Right.ok hy20) b73 (opds_cons tm (opds_cons tm opds_nil))) (s2 rfl rfl) <| cp (oMv tm) (s1 rfl) <| cgB hp21 rfl rfl (oFld (fs := f_api_State) (k := 0) rfl o33_0 tm) (s1 rfl) <| cgB hp21 rfl rfl (oFld (fs := f_api_Atom) (k := 0) rfl o28_0 tm) (s1 rfl) <| cgB hp21 rfl rfl (oLd t3 tm) (s1 rfl) <| cgB hp21 rfl rfl (oCall rfl (state_place.ok hy22) b72 (opds_cons tm opds_nil)) (s1 rfl) <| cp (oPkT hp21 tm tm) (s2 rfl rfl) <| cp (oMv tm) (s1 rfl) <| cgB hp23 rfl rfl (oLd t114 tm) (s1 rfl) <| cgB hp23 rfl rfl (oFld (fs := f_api_State) (k := 0) rfl o33_0 tm) (s1 rfl) <| cgB hp23 rfl rfl (oFld (fs := f_api_Atom) (k := 1) rfl o28_1 tm) (s1 rfl) <| cgB hp23 rfl rfl (oLd t3 tm) (s1 rfl) <| cgB hp23 rfl rfl (oCallV rfl (rl1i hy25) (oGot hy24 tm) (opds_cons tm opds_nil)) (s2 rfl rfl) <| cp (oPkT hp23 tm tm) (s2 rfl rfl) <| cp (oMv tm) (s1 rfl) <| cgB hp26 rfl rfl (oMv tm) (s1 rfl) <| cp (oPkT hp26 tm tm) (s2 rfl rfl) <| cp (oMv tm) (s1 rfl) <| cgB hp27 rfl rfl (oFld (fs := f_api_State) (k := 2) rfl o33_2 tm) (s1 rfl) <| cgB hp27 rfl rfl (oLd t30 tm) (s1 rfl) <| cgB hp27 rfl rfl (oMv tm) (s1 rfl) <| cgB hp27 rfl rfl (oCall rfl (slices_ContainsFunc_api_Atom_api_Atom.ok hy28) b74 (opds_cons tm (opds_cons tm opds_nil))) (s2 rfl rfl) <| cgB hp27 rfl rfl (oNot tm) (s1 rfl) <| cp (oPkT hp27 tm tm) (s2 rfl rfl) <| cp (oMv tm) (s1 rfl) <| csB (nb hp29) rfl rfl <| csB (nb hp29) rfl rfl <| csB (nb hp29) rfl rfl <| csB (nb hp29) rfl rfl <| csB (nb hp29) rfl rfl <| cp (oPkF (nb hp29) tm cB) (s1 rfl) <| cp (oMv tm) (s1 rfl) <| csB rfl rfl rfl <| csB rfl rfl rfl <| csB rfl rfl rfl <| csB rfl rfl rfl <| csB rfl rfl rfl <| cp (oPkF rfl tm cB) (s1 rfl) <| cp (oAs tm) (s1 rfl) <| .nil) (by kernel_rfl) ?_
                exact pJ1 _ (so h) ⟨rfl, trivial⟩ rfl
            · refine rg (cp (oLd t25 tm) (s1 rfl) <| cp (oFld (fs := f_api_State) (k := 1) rfl o33_1 tm) (s1 rfl) <| cp (oLd t29 tm) (s1 rfl) <| cp (oCall rfl (code_Right.ok hy20) b73 (opds_cons tm (opds_cons tm opds_nil))) (s2 rfl rfl) <| cp (oMv tm) (s1 rfl) <| cgB hp21 rfl rfl (oFld (fs := f_api_State) (k := 0) rfl o33_0 tm) (s1 rfl) <| cgB hp21 rfl rfl (oFld (fs := f_api_Atom) (k := 0) rfl o28_0 tm) (s1 rfl) <| cgB hp21 rfl rfl (oLd t3 tm) (s1 rfl) <| cgB hp21 rfl rfl (oCall rfl (state_place.ok hy22) b72 (opds_cons tm opds_nil)) (s1 rfl) <| cp (oPkT hp21 tm tm) (s2 rfl rfl) <| cp (oMv tm) (s1 rfl) <| cgB hp23 rfl rfl (oLd t114 tm) (s1 rfl) <| cgB hp23 rfl rfl (oFld (fs := f_api_State) (k := 0) rfl o33_0 tm) (s1 rfl) <| cgB hp23 rfl rfl (oFld (fs := f_api_Atom) (k := 1) rfl o28_1 tm) (s1 rfl) <| cgB hp23 rfl rfl (oLd t3 tm) (s1 rfl) <| cgB hp23 rfl rfl (oCallV rfl (rl1i hy25) (oGot hy24 tm) (opds_cons tm opds_nil)) (s2 rfl rfl) <| cp (oPkT hp23 tm tm) (s2 rfl rfl) <| cp (oMv tm) (s1 rfl) <| cgB hp26 rfl rfl (oMv tm) (s1 rfl) <| cp (oPkT hp26 tm tm) (s2 rfl rfl) <| cp (oMv tm) (s1 rfl) <| csB (nb hp27) rfl rfl <| csB (nb hp27) rfl rfl <| csB (nb hp27) rfl rfl <| csB (nb hp27) rfl rfl <| csB (nb hp27) rfl rfl <| cp (oPkF (nb hp27) tm cB) (s1 rfl) <| cp (oMv tm) (s1 rfl) <| csB rfl rfl rfl <| csB rfl rfl rfl <| csB rfl rfl rfl <| csB rfl rfl rfl <| csB rfl rfl rfl <| cp (oPkF rfl tm cB) (s1 rfl) <| cp (oMv tm) (s1 rfl) <| csB rfl rfl rfl <| csB rfl rfl rfl <| csB rfl rfl rfl <| csB rfl rfl rfl <| csB rfl rfl rfl <| cp (oPkF rfl tm cB) (s1 rfl) <| cp (oAs tm) (s1 rfl) <| .nil) (by kernel_rfl) ?_
              exact pJ1 _ (so h) ⟨rfl, trivial⟩ rfl
          · refine rg (cp (oLd t25 tm) (s1 rfl) <| cp (oFld (fs := f_api_State) (k := 1) rfl o33_1 tm) (s1 rfl) <| cp (oLd t29 tm) (s1 rfl) <| cp (oCall rfl (code_Right.ok hy20) b73 (opds_cons tm (opds_cons tm opds_nil))) (s2 rfl rfl) <| cp (oMv tm) (s1 rfl) <| cgB hp21 rfl rfl (oFld (fs := f_api_State) (k := 0) rfl o33_0 tm) (s1 rfl) <| cgB hp21 rfl rfl (oFld (fs := f_api_Atom) (k := 0) rfl o28_0 tm) (s1 rfl) <| cgB hp21 rfl rfl (oLd t3 tm) (s1 rfl) <| cgB hp21 rfl rfl (oCall rfl (state_place.ok hy22) b72 (opds_cons tm opds_nil)) (s1 rfl) <| cp (oPkT hp21 tm tm) (s2 rfl rfl) <| cp (oMv tm) (s1 rfl) <| cgB hp23 rfl rfl (oLd t114 tm) (s1 rfl) <| cgB hp23 rfl rfl (oFld (fs := f_api_State) (k := 0) rfl o33_0 tm) (s1 rfl) <| cgB hp23 rfl rfl (oFld (fs := f_api_Atom) (k := 1) rfl o28_1 tm) (s1 rfl) <| cgB hp23 rfl rfl (oLd t3 tm) (s1 rfl) <| cgB hp23 rfl rfl (oCallV rfl (rl1i hy25) (oGot hy24 tm) (opds_cons tm opds_nil)) (s2 rfl rfl) <| cp (oPkT hp23 tm tm) (s2 rfl rfl) <| cp (oMv tm) (s1 rfl) <| csB (nb hp26) rfl rfl <| cp (oPkF (nb hp26) tm cB) (s1 rfl) <| cp (oMv tm) (s1 rfl) <| csB rfl rfl rfl <| csB rfl rfl rfl <| csB rfl rfl rfl <| csB rfl rfl rfl <| csB rfl rfl rfl <| cp (oPkF rfl tm cB) (s1 rfl) <| cp (oMv tm) (s1 rfl) <| csB rfl rfl rfl <| csB rfl rfl rfl <| csB rfl rfl rfl <| csB rfl rfl rfl <| csB rfl rfl rfl <| cp (oPkF rfl tm cB) (s1 rfl) <| cp (oMv tm) (s1 rfl) <| csB rfl rfl rfl <| csB rfl rfl rfl <| csB rfl rfl rfl <| csB rfl rfl rfl <| csB rfl rfl rfl <| cp (oPkF rfl tm cB) (s1 rfl) <| cp (oAs tm) (s1 rfl) <| .nil) (by kernel_rfl) ?_
            exact pJ1 _ (so h) ⟨rfl, trivial⟩ rfl
        · refine rg (cp (oLd t25 tm) (s1 rfl) <| cp (oFld (fs := f_api_State) (k := 1) rfl o33_1 tm) (s1 rfl) <| cp (oLd t29 tm) (s1 rfl) <| cp (oCall rfl (code_Right.ok hy20) b73 (opds_cons tm (opds_cons tm opds_nil))) (s2 rfl rfl) <| cp (oMv tm) (s1 rfl) <| cgB hp21 rfl rfl (oFld (fs := f_api_State) (k := 0) rfl o33_0 tm) (s1 rfl) <| cgB hp21 rfl rfl (oFld (fs := f_api_Atom) (k := 0) rfl o28_0 tm) (s1 rfl) <| cgB hp21 rfl rfl (oLd t3 tm) (s1 rfl) <| cgB hp21 rfl rfl (oCall rfl (state_place.ok hy22) b72 (opds_cons tm opds_nil)) (s1 rfl) <| cp (oPkT hp21 tm tm) (s2 rfl rfl) <| cp (oMv tm) (s1 rfl) <| csB (nb hp23) rfl rfl <| csB (nb hp23) rfl rfl <| csB (nb hp23) rfl rfl <| csB (nb hp23) rfl rfl <| csB (nb hp23) rfl rfl <| cp (oPkF (nb hp23) tm cB) (s1 rfl) <| cp (oMv tm) (s1 rfl) <| csB rfl rfl rfl <| cp (oPkF rfl tm cB) (s1 rfl) <| cp (oMv tm) (s1 rfl) <| csB rfl rfl rfl <| csB rfl rfl rfl <| csB rfl rfl rfl <| csB rfl rfl rfl <| csB rfl rfl rfl <| cp (oPkF rfl tm cB) (s1 rfl) <| cp (oMv tm) (s1 rfl) <| csB rfl rfl rfl <| csB rfl rfl rfl <| csB rfl rfl rfl <| csB rfl rfl rfl <| csB rfl rfl rfl <| cp (oPkF rfl tm cB) (s1 rfl) <| cp (oMv tm) (s1 rfl) <| csB rfl rfl rfl <| csB rfl rfl rfl <| csB rfl rfl rfl <| csB rfl rfl rfl <| csB rfl rfl rfl <| cp (oPkF rfl tm cB) (s1 rfl) <| cp (oAs tm) (s1 rfl) <| .nil) (by kernel_rfl) ?_
          exact pJ1 _ (so h) ⟨rfl, trivial⟩ rfl
      · refine rg (cp (oLd t25 tm) (s1 rfl) <| cp (oFld (fs := f_api_State) (k := 1) rfl o33_1 tm) (s1 rfl) <| cp (oLd t29 tm) (s1 rfl) <| cp (oCall rfl (code_Right.ok hy20) b73 (opds_cons tm (opds_cons tm opds_nil))) (s2 rfl rfl) <| cp (oMv tm) (s1 rfl) <| csB (nb hp21) rfl rfl <| csB (nb hp21) rfl rfl <| csB (nb hp21) rfl rfl <| csB (nb hp21) rfl rfl <| cp (oPkF (nb hp21) tm cB) (s1 rfl) <| cp (oMv tm) (s1 rfl) <| csB rfl rfl rfl <| csB rfl rfl rfl <| csB rfl rfl rfl <| csB rfl rfl rfl <| csB rfl rfl rfl <| cp (oPkF rfl tm cB) (s1 rfl) <| cp (oMv tm) (s1 rfl) <| csB rfl rfl rfl <| cp (oPkF rfl tm cB) (s1 rfl) <| cp (oMv tm) (s1 rfl) <| csB rfl rfl rfl <| csB rfl rfl rfl <| csB rfl rfl rfl <| csB rfl rfl rfl <| csB rfl rfl rfl <| cp (oPkF rfl tm cB) (s1 rfl) <| cp (oMv tm) (s1 rfl) <| csB rfl rfl rfl <| csB rfl rfl rfl <| csB rfl rfl rfl <| csB rfl rfl rfl <| csB rfl rfl rfl <| cp (oPkF rfl tm cB) (s1 rfl) <| cp (oMv tm) (s1 rfl) <| csB rfl rfl rfl <| csB rfl rfl rfl <| csB rfl rfl rfl <| csB rfl rfl rfl <| csB rfl rfl rfl <| cp (oPkF rfl tm cB) (s1 rfl) <| cp (oAs tm) (s1 rfl) <| .nil) (by kernel_rfl) ?_
        exact pJ1 _ (so h) ⟨rfl, trivial⟩ rfl
    · rintro x19 rfl
      replace h := hk1
      refine wRet ?_
      obtain rfl := so h
      exact pR1 (.inl rfl) rfl (.tmp rfl <| .nil)
theorem state_row_api_Atom_atom.ok {a0 : state_reader} {a1 : Str} {a2 : Int} {r : state_reader × (List api_Atom)} (h : state_row_api_Atom_atom.f a0 a1 a2 = some r) : FnS Tryz.prog 119 [.p 70000 0, .d (kS.sig a1), .d ((kI .i64).sig a2), .f [70000] (sBnd 117)] [.box 70000 174 [.d (kL kS) a0.l_.Names, .d (kL (kI .u32)) a0.l_.Up, .d (kL (kR f_api_Tok)) a0.toks_, .d (kI .i64) a0.i_, .d (kI .i64) a0.bad_]] [70000] (.d ((kL (kR f_api_Atom)).sig r.2)) [.box 70000 174 [.d (kL kS) r.1.l_.Names, .d (kL (kI .u32)) r.1.l_.Up, .d (kL (kR f_api_Tok)) r.1.toks_, .d (kI .i64) r.1.i_, .d (kI .i64) r.1.bad_]] := by
  refine fnIntroS Tryz.func119 rfl (by kernel_rfl) fun X H0 w0 pv => ?_
  unfold state_row_api_Atom_atom.f at h
  refine wSeq ?_
  refine rg (cp (oAs cV) trivial <| .nil) (by kernel_rfl) ?_
  refine pSeq ?_
  refine wSeq ?_
  obtain ⟨y1, hy1, h⟩ := bd h
  refine rg (cp (oMv tm) (s1 rfl) <| cp (oMv tm) (s1 rfl) <| cm (oCallS (rest := []) (R' := [.box 70000 174 [.d (kL kS) y1.l_.Names, .d (kL (kI .u32)) y1.l_.Up, .d (kL (kR f_api_Tok)) y1.toks_, .d (kI .i64) y1.i_, .d (kI .i64) y1.bad_]]) (out' := .d (tup [])) [(70000, 70000)] [] [0] [] [0] rfl (state_reader_must.ok hy1) b116 (oE1 tm (oE1 (cI (by decide)) (oE1 tm oE0))) rfl rfl rfl rfl rfl rfl rfl rfl) (s2 rfl rfl) <| .nil) (by kernel_rfl) ?_
  refine pSeq ?_
  refine wSeq ?_
  refine rg (cp (oAs cV) trivial <| .nil) (by kernel_rfl) ?_
  refine pSeq ?_
  refine wSeq ?_
  refine wSeq ?_
  obtain ⟨y2, hy2, h⟩ := bd h
  refine rg (cp (oMv tm) (s1 rfl) <| cm (oCallS (rest := []) (R' := [.box 70000 174 [.d (kL kS) y2.1.l_.Names, .d (kL (kI .u32)) y2.1.l_.Up, .d (kL (kR f_api_Tok)) y2.1.toks_, .d (kI .i64) y2.1.i_, .d (kI .i64) y2.1.bad_]]) (out' := .d (kB.sig y2.2)) [(70000, 70000)] [] [0] [] [0] rfl (state_reader_is.ok hy2) b214 (oE1 tm (oE1 (cI (by decide)) (oE1 (cS (by decide)) oE0))) rfl rfl rfl rfl rfl rfl rfl rfl) (s1 rfl) <| .nil) (by kernel_rfl) ?_
  refine pSeq ?_
  rcases ic h with ⟨hp3, h⟩ | ⟨hp3, h⟩
  · refine wBT hp3 tm (s1 rfl) ?_
    refine wSeq ?_
    refine rg (cp (oMv tm) (s1 rfl) <| cp (oNilP tm) (s1 rfl) <| cp (oFldP o174_2 tm) (s1 rfl) <| cr (oLdB (n := 0) (k := 3) rfl rfl rfl t3 tm) (s1 rfl) <| cp (oAdd tm (cI (by decide))) (s1 rfl) <| cp (oNilP tm) (s1 rfl) <| cp (oFldP o174_2 tm) (s1 rfl) <| cwn (oSt (n := 0) (k := 3) rfl rfl rfl rfl z3 tm tm) (s2 rfl rfl) <| .nil) (by kernel_rfl) ?_
    refine pSeq ?_
    refine wSeq ?_
    refine rg (cp (oMv tm) (s1 rfl) <| cp (oAs tm) (s1 rfl) <| .nil) (by kernel_rfl) ?_
    refine pSeq ?_
    refine wNil (kR f_api_Atom) 28 9008 8 rfl rfl ?_
    refine wFrzR (n := 0) (id := 9008) [8] rfl rfl ⟨rfl, trivial⟩ ?_
    refine wRet ?_
    refine pThenR ?_
    obtain rfl := so h
    exact pS1 [0] rfl rfl (.inl rfl) rfl (.tmp rfl <| .nil)
  · refine wBF hp3 tm (s1 rfl) ?_
    refine wSkip ?_
    refine pSeq ?_
    refine wNil (kR f_api_Atom) 28 1009 9 rfl rfl ?_
    obtain ⟨o1, h, hk1⟩ := bd h
    refine wJ6 (fun x26 x27 x28 x29 x30 x31 => (x26, x27, x28, x29, x30, x31) = o1) (fun x26 x27 x28 x29 x30 x31 => [(9, .v 1009)]) (fun x26 x27 x28 x29 x30 x31 => [.row 1009 28 (kR f_api_Atom) x31, .box 70000 174 [.d (kL kS) x26, .d (kL (kI .u32)) x27, .d (kL (kR f_api_Tok)) x28, .d (kI .i64) x29, .d (kI .i64) x30]]) ?_ ?_
    · refine wBlock (wLoop ?_)
      refine lW (pc6 o1 (fun v20 v21 v22 v23 v24 v25 => [(0, .p 70000 0), (2, .d ((kI .i64).sig a2)), (3, .f [70000] (sBnd 117)), (9, .v 1009)]) (fun v20 v21 v22 v23 v24 v25 => [.row 1009 28 (kR f_api_Atom) v25, .box 70000 174 [.d (kL kS) v20, .d (kL (kI .u32)) v21, .d (kL (kR f_api_Tok)) v22, .d (kI .i64) v23, .d (kI .i64) v24]]) (state_row_api_Atom_atom.l0.partial_correctness a2) ?_ _ _ _ _ _ _ h) ⟨rfl, rfl, rfl, rfl, trivial⟩ rfl
      clear h
      intro f' ih v20 v21 v22 v23 v24 v25 h
      refine wSeq ?_
      refine wSeq ?_
      refine rg (cp (oMv tm) (s1 rfl) <| cp (oNilP tm) (s1 rfl) <| cp (oFldP o174_3 tm) (s1 rfl) <| cr (oLdB (n := 1) (k := 4) rfl rfl rfl t34 tm) (s1 rfl) <| cp (oEq rfl tm (cI (by decide))) (s1 rfl) <| .nil) (by kernel_rfl) ?_
      refine pSeq ?_
      rcases ic h with ⟨hp32, h⟩ | ⟨hp32, h⟩
      · refine wCT hp32 tm (s1 rfl) ?_
        refine wSkip ?_
        refine pSeq ?_
        refine wBlock ?_
        refine wSeq ?_
        refine wSeq ?_
        refine rg (cp (oMv tm) (s1 rfl) <| cr (oLenR (n := 0) u30 rfl tm) (s1 rfl) <| cp (oMv tm) (s1 rfl) <| cp (oEq rfl tm tm) (s2 rfl rfl) <| .nil) (by kernel_rfl) ?_
        refine pSeq ?_
        rcases ic h with ⟨hp33, h⟩ | ⟨hp33, h⟩
        · refine wCT hp33 tm (s1 rfl) ?_
          refine wSeq ?_
          obtain ⟨y34, hy34, h⟩ := bd h
          refine rg (cp (oMv tm) (s1 rfl) <| cm (oCallS (rest := [.row 1009 28 (kR f_api_Atom) v25]) (R' := [.row 1009 28 (kR f_api_Atom) v25, .box 70000 174 [.d (kL kS) y34.l_.Names, .d (kL (kI .u32)) y34.l_.Up, .d (kL (kR f_api_Tok)) y34.toks_, .d (kI .i64) y34.i_, .d (kI .i64) y34.bad_]]) (out' := .d (tup [])) [(70000, 70000)] [] [1] [0] [1, 0] rfl (state_reader_fail.ok hy34) b215 (oE1 tm (oE1 (cI (by decide)) oE0)) rfl rfl rfl rfl rfl rfl rfl rfl) (s1 rfl) <| .nil) (by kernel_rfl) ?_
          refine pSeq ?_
          refine wExit ?_
          refine pThenX ?_
          refine pBlkO rfl ?_
          refine pThenX ?_
          refine pBlkX ?_
          exact pJ6 _ _ _ _ _ _ (so h) ⟨rfl, trivial⟩ rfl
        · refine wCF hp33 tm (s1 rfl) ?_
          refine wSkip ?_
          refine pSeq ?_
          refine wSeq ?_
          obtain ⟨y35, hy35, h⟩ := bd h
          obtain ⟨hc36, h⟩ := ib h
          refine rg (cp (oMv tm) (s1 rfl) <| cp (oMv tm) (s1 rfl) <| cm (oCallB1 (ins := []) (kn := 70000) (rest := [.row 1009 28 (kR f_api_Atom) v25]) (R' := [.row 1009 28 (kR f_api_Atom) v25, .box 70000 174 [.d (kL kS) y35.1.l_.Names, .d (kL (kI .u32)) y35.1.l_.Up, .d (kL (kR f_api_Tok)) y35.1.toks_, .d (kI .i64) y35.1.i_, .d (kI .i64) y35.1.bad_]]) (out' := .d ((kR f_api_Atom).sig y35.2)) [(70000, 70000)] [] [1] [0] [1, 0] rfl tm (state_reader_atom.ok hy35) rfl rfl b117 oE0 rfl rfl rfl rfl rfl rfl rfl rfl) (s1 rfl) <| cp (oLit (d := (kR f_api_Atom)) el30 (by decide) rfl rfl rfl (e1 tm e0)) (s1 rfl) <| cw (oApp (n := 0) (id' := 38) el30 (by decide) rfl (by decide) hc36 tm tm) (s2 rfl rfl) <| cp (oAs tm) (s1 rfl) <| .nil) (by kernel_rfl) ?_
          refine pSeq ?_
          refine wSeq ?_
          refine wSeq ?_
          obtain ⟨y37, hy37, h⟩ := bd h
          refine rg (cp (oMv tm) (s1 rfl) <| cm (oCallS (rest := [.row 38 28 (kR f_api_Atom) (v25 ++ ([y35.2] : List api_Atom))]) (R' := [.row 38 28 (kR f_api_Atom) (v25 ++ ([y35.2] : List api_Atom)), .box 70000 174 [.d (kL kS) y37.1.l_.Names, .d (kL (kI .u32)) y37.1.l_.Up, .d (kL (kR f_api_Tok)) y37.1.toks_, .d (kI .i64) y37.1.i_, .d (kI .i64) y37.1.bad_]]) (out' := .d (kB.sig y37.2)) [(70000, 70000)] [] [1] [0] [1, 0] rfl (state_reader_is.ok hy37) b214 (oE1 tm (oE1 (cI (by decide)) (oE1 (cS (by decide)) oE0))) rfl rfl rfl rfl rfl rfl rfl rfl) (s1 rfl) <| cp (oNot tm) (s1 rfl) <| .nil) (by kernel_rfl) ?_
          refine pSeq ?_
          rcases ic h with ⟨hp38, h⟩ | ⟨hp38, h⟩
          · refine wBT hp38 tm (s1 rfl) ?_
            refine wSeq ?_
            obtain ⟨y39, hy39, h⟩ := bd h
            refine rg (cp (oMv tm) (s1 rfl) <| cm (oCallS (rest := [.row 38 28 (kR f_api_Atom) (v25 ++ ([y35.2] : List api_Atom))]) (R' := [.row 38 28 (kR f_api_Atom) (v25 ++ ([y35.2] : List api_Atom)), .box 70000 174 [.d (kL kS) y39.l_.Names, .d (kL (kI .u32)) y39.l_.Up, .d (kL (kR f_api_Tok)) y39.toks_, .d (kI .i64) y39.i_, .d (kI .i64) y39.bad_]]) (out' := .d (tup [])) [(70000, 70000)] [] [1] [0] [1, 0] rfl (state_reader_must.ok hy39) b116 (oE1 tm (oE1 (cI (by decide)) (oE1 (cS (by decide)) oE0))) rfl rfl rfl rfl rfl rfl rfl rfl) (s1 rfl) <| .nil) (by kernel_rfl) ?_
            refine pSeq ?_
            refine wExit ?_
            refine pThenX ?_
            refine pBlkO rfl ?_
            refine pThenX ?_
            refine pBlkX ?_
            refine pSub (Γ' := [(9, .v 38)]) ⟨rfl, trivial⟩ ?_
            refine pRen 38 1009 rfl ?_
            exact pJ6 _ _ _ _ _ _ (so h) ⟨rfl, trivial⟩ rfl
          · refine wBF hp38 tm (s1 rfl) ?_
            refine wSkip ?_
            refine pSeq ?_
            refine rg (cp (oMv tm) (s1 rfl) <| cp (oNilP tm) (s1 rfl) <| cp (oFldP o174_2 tm) (s1 rfl) <| cr (oLdB (n := 1) (k := 3) rfl rfl rfl t3 tm) (s1 rfl) <| cp (oAdd tm (cI (by decide))) (s1 rfl) <| cp (oNilP tm) (s1 rfl) <| cp (oFldP o174_2 tm) (s1 rfl) <| cwn (oSt (n := 1) (k := 3) rfl rfl rfl rfl z3 tm tm) (s2 rfl rfl) <| .nil) (by kernel_rfl) ?_
            refine pBlkN ?_
            refine pSub (Γ' := [(0, .p 70000 0), (2, .d ((kI .i64).sig a2)), (3, .f [70000] (sBnd 117)), (9, .v 38)]) ⟨rfl, rfl, rfl, rfl, trivial⟩ ?_
            refine pRen 38 1009 rfl ?_
            exact pLoop (lW (ih _ _ _ _ _ _ h) ⟨rfl, rfl, rfl, rfl, trivial⟩ rfl)
      · refine wCF hp32 tm (s1 rfl) ?_
        refine wExit ?_
        refine pThenX ?_
        refine pThenX ?_
        refine pBlkX ?_
        exact pJ6 _ _ _ _ _ _ (so h) ⟨rfl, trivial⟩ rfl
    · rintro x26 x27 x28 x29 x30 x31 rfl
      replace h := hk1
      refine wSeq ?_
      refine rg (cp (oMv tm) (s1 rfl) <| cp (oAs tm) (s1 rfl) <| .nil) (by kernel_rfl) ?_
      refine pSeq ?_
      refine wFrzR (n := 0) (id := 1009) [8] rfl rfl ⟨rfl, trivial⟩ ?_
      refine wRet ?_
      obtain rfl := so h
      exact pS1 [0] rfl rfl (.inl rfl) rfl (.tmp rfl <| .nil)
theorem state_row_api_Slot_slot.ok {a0 : state_reader} {a1 : Str} {a2 : Int} {r : state_reader × (List api_Slot)} (h : state_row_api_Slot_slot.f a0 a1 a2 = some r) : FnS Tryz.prog 120 [.p 70000 0, .d (kS.sig a1), .d ((kI .i64).sig a2), .f [70000] (sBnd 121)] [.box 70000 174 [.d (kL kS) a0.l_.Names, .d (kL (kI .u32)) a0.l_.Up, .d (kL (kR f_api_Tok)) a0.toks_, .d (kI .i64) a0.i_, .d (kI .i64) a0.bad_]] [70000] (.d ((kL (kR f_api_Slot)).sig r.2)) [.box 70000 174 [.d (kL kS) r.1.l_.Names, .d (kL (kI .u32)) r.1.l_.Up, .d (kL (kR f_api_Tok)) r.1.toks_, .d (kI .i64) r.1.i_, .d (kI .i64) r.1.bad_]] := by
  refine fnIntroS Tryz.func120 rfl (by kernel_rfl) fun X H0 w0 pv => ?_
  unfold state_row_api_Slot_slot.f at h
  refine wSeq ?_
  refine rg (cp (oAs cV) trivial <| .nil) (by kernel_rfl) ?_
  refine pSeq ?_
  refine wSeq ?_
  obtain ⟨y1, hy1, h⟩ := bd h
  refine rg (cp (oMv tm) (s1 rfl) <| cp (oMv tm) (s1 rfl) <| cm (oCallS (rest := []) (R' := [.box 70000 174 [.d (kL kS) y1.l_.Names, .d (kL (kI .u32)) y1.l_.Up, .d (kL (kR f_api_Tok)) y1.toks_, .d (kI .i64) y1.i_, .d (kI .i64) y1.bad_]]) (out' := .d (tup [])) [(70000, 70000)] [] [0] [] [0] rfl (state_reader_must.ok hy1) b116 (oE1 tm (oE1 (cI (by decide)) (oE1 tm oE0))) rfl rfl rfl rfl rfl rfl rfl rfl) (s2 rfl rfl) <| .nil) (by kernel_rfl) ?_
  refine pSeq ?_
  refine wSeq ?_
  refine rg (cp (oAs cV) trivial <| .nil) (by kernel_rfl) ?_
  refine pSeq ?_
  refine wSeq ?_
  refine wSeq ?_
  obtain ⟨y2, hy2, h⟩ := bd h
  refine rg (cp (oMv tm) (s1 rfl) <| cm (oCallS (rest := []) (R' := [.box 70000 174 [.d (kL kS) y2.1.l_.Names, .d (kL (kI .u32)) y2.1.l_.Up, .d (kL (kR f_api_Tok)) y2.1.toks_, .d (kI .i64) y2.1.i_, .d (kI .i64) y2.1.bad_]]) (out' := .d (kB.sig y2.2)) [(70000, 70000)] [] [0] [] [0] rfl (state_reader_is.ok hy2) b214 (oE1 tm (oE1 (cI (by decide)) (oE1 (cS (by decide)) oE0))) rfl rfl rfl rfl rfl rfl rfl rfl) (s1 rfl) <| .nil) (by kernel_rfl) ?_
  refine pSeq ?_
  rcases ic h with ⟨hp3, h⟩ | ⟨hp3, h⟩
  · refine wBT hp3 tm (s1 rfl) ?_
    refine wSeq ?_
    refine rg (cp (oMv tm) (s1 rfl) <| cp (oNilP tm) (s1 rfl) <| cp (oFldP o174_2 tm) (s1 rfl) <| cr (oLdB (n := 0) (k := 3) rfl rfl rfl t3 tm) (s1 rfl) <| cp (oAdd tm (cI (by decide))) (s1 rfl) <| cp (oNilP tm) (s1 rfl) <| cp (oFldP o174_2 tm) (s1 rfl) <| cwn (oSt (n := 0) (k := 3) rfl rfl rfl rfl z3 tm tm) (s2 rfl rfl) <| .nil) (by kernel_rfl) ?_
    refine pSeq ?_
    refine wSeq ?_
    refine rg (cp (oMv tm) (s1 rfl) <| cp (oAs tm) (s1 rfl) <| .nil) (by kernel_rfl) ?_
    refine pSeq ?_
    refine wNil (kR f_api_Slot) 101 9008 8 rfl rfl ?_
    refine wFrzR (n := 0) (id := 9008) [8] rfl rfl ⟨rfl, trivial⟩ ?_
    refine wRet ?_
    refine pThenR ?_
    obtain rfl := so h
    exact pS1 [0] rfl rfl (.inl rfl) rfl (.tmp rfl <| .nil)
  · refine wBF hp3 tm (s1 rfl) ?_
    refine wSkip ?_
    refine pSeq ?_
    refine wNil (kR f_api_Slot) 101 1009 9 rfl rfl ?_
    obtain ⟨o1, h, hk1⟩ := bd h
    refine wJ6 (fun x26 x27 x28 x29 x30 x31 => (x26, x27, x28, x29, x30, x31) = o1) (fun x26 x27 x28 x29 x30 x31 => [(9, .v 1009)]) (fun x26 x27 x28 x29 x30 x31 => [.row 1009 101 (kR f_api_Slot) x31, .box 70000 174 [.d (kL kS) x26, .d (kL (kI .u32)) x27, .d (kL (kR f_api_Tok)) x28, .d (kI .i64) x29, .d (kI .i64) x30]]) ?_ ?_
    · refine wBlock (wLoop ?_)
      refine lW (pc6 o1 (fun v20 v21 v22 v23 v24 v25 => [(0, .p 70000 0), (2, .d ((kI .i64).sig a2)), (3, .f [70000] (sBnd 121)), (9, .v 1009)]) (fun v20 v21 v22 v23 v24 v25 => [.row 1009 101 (kR f_api_Slot) v25, .box 70000 174 [.d (kL kS) v20, .d (kL (kI .u32)) v21, .d (kL (kR f_api_Tok)) v22, .d (kI .i64) v23, .d (kI .i64) v24]]) (state_row_api_Slot_slot.l0.partial_correctness a2) ?_ _ _ _ _ _ _ h) ⟨rfl, rfl, rfl, rfl, trivial⟩ rfl
      clear h
      intro f' ih v20 v21 v22 v23 v24 v25 h
      refine wSeq ?_
      refine wSeq ?_
      refine rg (cp (oMv tm) (s1 rfl) <| cp (oNilP tm) (s1 rfl) <| cp (oFldP o174_3 tm) (s1 rfl) <| cr (oLdB (n := 1) (k := 4) rfl rfl rfl t34 tm) (s1 rfl) <| cp (oEq rfl tm (cI (by decide))) (s1 rfl) <| .nil) (by kernel_rfl) ?_
      refine pSeq ?_
      rcases ic h with ⟨hp32, h⟩ | ⟨hp32, h⟩
      · refine wCT hp32 tm (s1 rfl) ?_
        refine wSkip ?_
        refine pSeq ?_
        refine wBlock ?_
        refine wSeq ?_
        refine wSeq ?_
        refine rg (cp (oMv tm) (s1 rfl) <| cr (oLenR (n := 0) u31 rfl tm) (s1 rfl) <| cp (oMv tm) (s1 rfl) <| cp (oEq rfl tm tm) (s2 rfl rfl) <| .nil) (by kernel_rfl) ?_
        refine pSeq ?_
        rcases ic h with ⟨hp33, h⟩ | ⟨hp33, h⟩
        · refine wCT hp33 tm (s1 rfl) ?_
          refine wSeq ?_
          obtain ⟨y34, hy34, h⟩ := bd h
          refine rg (cp (oMv tm) (s1 rfl) <| cm (oCallS (rest := [.row 1009 101 (kR f_api_Slot) v25]) (R' := [.row 1009 101 (kR f_api_Slot) v25, .box 70000 174 [.d (kL kS) y34.l_.Names, .d (kL (kI .u32)) y34.l_.Up, .d (kL (kR f_api_Tok)) y34.toks_, .d (kI .i64) y34.i_, .d (kI .i64) y34.bad_]]) (out' := .d (tup [])) [(70000, 70000)] [] [1] [0] [1, 0] rfl (state_reader_fail.ok hy34) b215 (oE1 tm (oE1 (cI (by decide)) oE0)) rfl rfl rfl rfl rfl rfl rfl rfl) (s1 rfl) <| .nil) (by kernel_rfl) ?_
          refine pSeq ?_
          refine wExit ?_
          refine pThenX ?_
          refine pBlkO rfl ?_
          refine pThenX ?_
          refine pBlkX ?_
          exact pJ6 _ _ _ _ _ _ (so h) ⟨rfl, trivial⟩ rfl
        · refine wCF hp33 tm (s1 rfl) ?_
          refine wSkip ?_
          refine pSeq ?_
          refine wSeq ?_
          obtain ⟨y35, hy35, h⟩ := bd h
          obtain ⟨hc36, h⟩ := ib h
          refine rg (cp (oMv tm) (s1 rfl) <| cp (oMv tm) (s1 rfl) <| cm (oCallB1 (ins := []) (kn := 70000) (rest := [.row 1009 101 (kR f_api_Slot) v25]) (R' := [.row 1009 101 (kR f_api_Slot) v25, .box 70000 174 [.d (kL kS) y35.1.l_.Names, .d (kL (kI .u32)) y35.1.l_.Up, .d (kL (kR f_api_Tok)) y35.1.toks_, .d (kI .i64) y35.1.i_, .d (kI .i64) y35.1.bad_]]) (out' := .d ((kR f_api_Slot).sig y35.2)) [(70000, 70000)] [] [1] [0] [1, 0] rfl tm (state_reader_slot.ok hy35) rfl rfl b121 oE0 rfl rfl rfl rfl rfl rfl rfl rfl) (s1 rfl) <| cp (oLit (d := (kR f_api_Slot)) el31 (by decide) rfl rfl rfl (e1 tm e0)) (s1 rfl) <| cw (oApp (n := 0) (id' := 38) el31 (by decide) rfl (by decide) hc36 tm tm) (s2 rfl rfl) <| cp (oAs tm) (s1 rfl) <| .nil) (by kernel_rfl) ?_
          refine pSeq ?_
          refine wSeq ?_
          refine wSeq ?_
          obtain ⟨y37, hy37, h⟩ := bd h
          refine rg (cp (oMv tm) (s1 rfl) <| cm (oCallS (rest := [.row 38 101 (kR f_api_Slot) (v25 ++ ([y35.2] : List api_Slot))]) (R' := [.row 38 101 (kR f_api_Slot) (v25 ++ ([y35.2] : List api_Slot)), .box 70000 174 [.d (kL kS) y37.1.l_.Names, .d (kL (kI .u32)) y37.1.l_.Up, .d (kL (kR f_api_Tok)) y37.1.toks_, .d (kI .i64) y37.1.i_, .d (kI .i64) y37.1.bad_]]) (out' := .d (kB.sig y37.2)) [(70000, 70000)] [] [1] [0] [1, 0] rfl (state_reader_is.ok hy37) b214 (oE1 tm (oE1 (cI (by decide)) (oE1 (cS (by decide)) oE0))) rfl rfl rfl rfl rfl rfl rfl rfl) (s1 rfl) <| cp (oNot tm) (s1 rfl) <| .nil) (by kernel_rfl) ?_
          refine pSeq ?_
          rcases ic h with ⟨hp38, h⟩ | ⟨hp38, h⟩
          · refine wBT hp38 tm (s1 rfl) ?_
            refine wSeq ?_
            obtain ⟨y39, hy39, h⟩ := bd h
            refine rg (cp (oMv tm) (s1 rfl) <| cm (oCallS (rest := [.row 38 101 (kR f_api_Slot) (v25 ++ ([y35.2] : List api_Slot))]) (R' := [.row 38 101 (kR f_api_Slot) (v25 ++ ([y35.2] : List api_Slot)), .box 70000 174 [.d (kL kS) y39.l_.Names, .d (kL (kI .u32)) y39.l_.Up, .d (kL (kR f_api_Tok)) y39.toks_, .d (kI .i64) y39.i_, .d (kI .i64) y39.bad_]]) (out' := .d (tup [])) [(70000, 70000)] [] [1] [0] [1, 0] rfl (state_reader_must.ok hy39) b116 (oE1 tm (oE1 (cI (by decide)) (oE1 (cS (by decide)) oE0))) rfl rfl rfl rfl rfl rfl rfl rfl) (s1 rfl) <| .nil) (by kernel_rfl) ?_
            refine pSeq ?_
            refine wExit ?_
            refine pThenX ?_
            refine pBlkO rfl ?_
            refine pThenX ?_
            refine pBlkX ?_
            refine pSub (Γ' := [(9, .v 38)]) ⟨rfl, trivial⟩ ?_
            refine pRen 38 1009 rfl ?_
            exact pJ6 _ _ _ _ _ _ (so h) ⟨rfl, trivial⟩ rfl
          · refine wBF hp38 tm (s1 rfl) ?_
            refine wSkip ?_
            refine pSeq ?_
            refine rg (cp (oMv tm) (s1 rfl) <| cp (oNilP tm) (s1 rfl) <| cp (oFldP o174_2 tm) (s1 rfl) <| cr (oLdB (n := 1) (k := 3) rfl rfl rfl t3 tm) (s1 rfl) <| cp (oAdd tm (cI (by decide))) (s1 rfl) <| cp (oNilP tm) (s1 rfl) <| cp (oFldP o174_2 tm) (s1 rfl) <| cwn (oSt (n := 1) (k := 3) rfl rfl rfl rfl z3 tm tm) (s2 rfl rfl) <| .nil) (by kernel_rfl) ?_
            refine pBlkN ?_
            refine pSub (Γ' := [(0, .p 70000 0), (2, .d ((kI .i64).sig a2)), (3, .f [70000] (sBnd 121)), (9, .v 38)]) ⟨rfl, rfl, rfl, rfl, trivial⟩ ?_
            refine pRen 38 1009 rfl ?_
            exact pLoop (lW (ih _ _ _ _ _ _ h) ⟨rfl, rfl, rfl, rfl, trivial⟩ rfl)
      · refine wCF hp32 tm (s1 rfl) ?_
        refine wExit ?_
        refine pThenX ?_
        refine pThenX ?_
        refine pBlkX ?_
        exact pJ6 _ _ _ _ _ _ (so h) ⟨rfl, trivial⟩ rfl
    · rintro x26 x27 x28 x29 x30 x31 rfl
      replace h := hk1
      refine wSeq ?_
      refine rg (cp (oMv tm) (s1 rfl) <| cp (oAs tm) (s1 rfl) <| .nil) (by kernel_rfl) ?_
      refine pSeq ?_
      refine wFrzR (n := 0) (id := 1009) [8] rfl rfl ⟨rfl, trivial⟩ ?_
      refine wRet ?_
      obtain rfl := so h
      exact pS1 [0] rfl rfl (.inl rfl) rfl (.tmp rfl <| .nil)
theorem state_From.ok {a0 : api_Lattice} {a1 : List api_Tok} {a2 : Int} {r : api_State × Int × Int} (h : state_From.f a0 a1 a2 = some r) : FnA Tryz.prog 51 [(kR f_api_Lattice).sig a0, (kL (kR f_api_Tok)).sig a1, (kI .i64).sig a2] (tup [(kR f_api_State).sig r.1, (kI .i64).sig r.2.1, (kI .i64).sig r.2.2]) := by
  refine fnIntro Tryz.func51 rfl (by kernel_rfl) fun H0 w0 => ?_
  unfold state_From.f at h
  refine wSeq ?_
  refine rg (cp (oBox tm) (s1 rfl) <| cw (oAlloc (id := 6) (ls := [.d (kI .i64) 0, .d (kI .i64) 0, .d (kL (kR f_api_Instr)) [], .d (kL (kR f_api_Atom)) [], .d (kL (kR f_api_Slot)) [], .d (kL (kR f_api_Atom)) []]) ze33 (fun g => ⟨[(.int .i64 0)], _, rfl, zI_i64 g.H, ⟨[(.int .i64 0)], _, rfl, zI_i64 g.H, ⟨[(.slice none 0 0)], _, rfl, zL g.H, ⟨[(.slice none 0 0)], _, rfl, zL g.H, ⟨[(.slice none 0 0)], _, rfl, zL g.H, ⟨[(.slice none 0 0)], _, rfl, zL g.H, rfl⟩⟩⟩⟩⟩⟩)) trivial <| cp (oAs (cI (by decide))) trivial <| cp (oAs (cI (by decide))) trivial <| .nil) (by kernel_rfl) ?_
  refine pSeq ?_
  refine wSeq ?_
  refine wSeq ?_
  obtain ⟨y1, hy1, h⟩ := bd h
  refine rg (cp (oLd t25 tm) (s1 rfl) <| cp (oCall rfl (lattice_Check.ok hy1) b49 (opds_cons tm opds_nil)) (s1 rfl) <| cp (oAs tm) (s1 rfl) <| .nil) (by kernel_rfl) ?_
  refine pSeq ?_
  refine wSeq ?_
  refine rg (cp (oMv tm) (s1 rfl) <| cp (oNe rfl tm (cI (by decide))) (s1 rfl) <| .nil) (by kernel_rfl) ?_
  refine pSeq ?_
  rcases ic h with ⟨hp2, h⟩ | ⟨hp2, h⟩
  · refine wNT hp2 tm (s1 rfl) ?_
    refine wSkip ?_
    refine pSeq ?_
    refine wSeq ?_
    obtain ⟨o1, h, hk1⟩ := bd h
    refine wJ1 (fun x6 => x6 = o1) (fun x6 => [(1, .d ((kL (kR f_api_Tok)).sig a1)), (2, .d ((kI .i64).sig a2)), (3, .d (sP (kR f_api_Lattice) a0)), (6, .p 6 0), (35, .d (kB.sig x6))]) (fun x6 => [.box 6 33 [.d (kI .i64) 0, .d (kI .i64) 0, .d (kL (kR f_api_Instr)) [], .d (kL (kR f_api_Atom)) [], .d (kL (kR f_api_Slot)) [], .d (kL (kR f_api_Atom)) []]]) ?_ ?_
    · rcases ic h with ⟨hp7, h⟩ | ⟨hp7, h⟩
      · refine rg (cp (oMv tm) (s1 rfl) <| cp (oLt rfl tm (cI (by decide))) (s1 rfl) <| cp (oMv tm) (s1 rfl) <| csB (decide_eq_true hp7) rfl rfl <| csB (decide_eq_true hp7) rfl rfl <| csB (decide_eq_true hp7) rfl rfl <| csB (decide_eq_true hp7) rfl rfl <| cp (oPkT (decide_eq_true hp7) tm cB) (s1 rfl) <| cp (oMv tm) (s1 rfl) <| csB rfl rfl rfl <| csB rfl rfl rfl <| csB rfl rfl rfl <| csB rfl rfl rfl <| csB rfl rfl rfl <| csB rfl rfl rfl <| csB rfl rfl rfl <| csB rfl rfl rfl <| cp (oPkT rfl tm cB) (s1 rfl) <| .nil) (by kernel_rfl) ?_
        exact pJ1 _ (so h) ⟨rfl, rfl, rfl, rfl, rfl, trivial⟩ rfl
      · rcases ic h with ⟨hp8, h⟩ | ⟨hp8, h⟩
        · refine rg (cp (oMv tm) (s1 rfl) <| cp (oLt rfl tm (cI (by decide))) (s1 rfl) <| cp (oMv tm) (s1 rfl) <| cgB (decide_eq_false hp7) rfl rfl (oMv tm) (s1 rfl) <| cgB (decide_eq_false hp7) rfl rfl (oMv tm) (s1 rfl) <| cgB (decide_eq_false hp7) rfl rfl (oLenL u89 tm) (s1 rfl) <| cgB (decide_eq_false hp7) rfl rfl (oGe rfl tm tm) (s2 rfl rfl) <| cp (oPkF (decide_eq_false hp7) tm tm) (s2 rfl rfl) <| cp (oMv tm) (s1 rfl) <| csB (decide_eq_true hp8) rfl rfl <| csB (decide_eq_true hp8) rfl rfl <| csB (decide_eq_true hp8) rfl rfl <| csB (decide_eq_true hp8) rfl rfl <| csB (decide_eq_true hp8) rfl rfl <| csB (decide_eq_true hp8) rfl rfl <| csB (decide_eq_true hp8) rfl rfl <| csB (decide_eq_true hp8) rfl rfl <| cp (oPkT (decide_eq_true hp8) tm cB) (s1 rfl) <| .nil) (by kernel_rfl) ?_
          exact pJ1 _ (so h) ⟨rfl, rfl, rfl, rfl, rfl, trivial⟩ rfl
        · obtain ⟨y9, hy9, h⟩ := bd h
          refine rg (cp (oMv tm) (s1 rfl) <| cp (oLt rfl tm (cI (by decide))) (s1 rfl) <| cp (oMv tm) (s1 rfl) <| cgB (decide_eq_false hp7) rfl rfl (oMv tm) (s1 rfl) <| cgB (decide_eq_false hp7) rfl rfl (oMv tm) (s1 rfl) <| cgB (decide_eq_false hp7) rfl rfl (oLenL u89 tm) (s1 rfl) <| cgB (decide_eq_false hp7) rfl rfl (oGe rfl tm tm) (s2 rfl rfl) <| cp (oPkF (decide_eq_false hp7) tm tm) (s2 rfl rfl) <| cp (oMv tm) (s1 rfl) <| cgB (decide_eq_false hp8) rfl rfl (oMv tm) (s1 rfl) <| cgB (decide_eq_false hp8) rfl rfl (oMv tm) (s1 rfl) <| cgB (decide_eq_false hp8) rfl rfl (oLenL u89 tm) (s1 rfl) <| cgB (decide_eq_false hp8) rfl rfl (oSub tm (cI (by decide))) (s1 rfl) <| cgB (decide_eq_false hp8) rfl rfl (oIdx u89 z94 hy9 tm tm) (s2 rfl rfl) <| cgB (decide_eq_false hp8) rfl rfl (oFld (fs := f_api_Tok) (k := 0) rfl o94_0 tm) (s1 rfl) <| cgB (decide_eq_false hp8) rfl rfl (oLd t3 tm) (s1 rfl) <| cgB (decide_eq_false hp8) rfl rfl (oNe rfl tm (cI (by decide))) (s1 rfl) <| cp (oPkF (decide_eq_false hp8) tm tm) (s2 rfl rfl) <| .nil) (by kernel_rfl) ?_
          exact pJ1 _ (so h) ⟨rfl, rfl, rfl, rfl, rfl, trivial⟩ rfl
    · rintro x6 rfl
      replace h := hk1
      rcases ic h with ⟨hp10, h⟩ | ⟨hp10, h⟩
      · refine wBT hp10 tm (s1 rfl) ?_
        refine wSeq ?_
        refine rg (cp (oBuild (fs := f_api_State) (u := ⟨(⟨0, 0⟩ : api_Atom), [], [], [], []⟩) rfl ze33 pl33 po33 (.ze (zc := [(.int .i64 0), (.int .i64 0)]) zR_api_Atom (.ze (zc := [(.slice none 0 0)]) zL (.ze (zc := [(.slice none 0 0)]) zL (.ze (zc := [(.slice none 0 0)]) zL (.ze (zc := [(.slice none 0 0)]) zL .nil)))))) trivial <| cwn (oStP (n := 0) (k := 0) (m := 6) (d := (kR f_api_State)) (u := (⟨(⟨0, 0⟩ : api_Atom), [], [], [], []⟩ : api_State)) (lfS (lfC (lfS (lfC lf1 (lfC lf1 lfN))) (lfC lf1 (lfC lf1 (lfC lf1 (lfC lf1 lfN)))))) rfl rfl rfl z33 tm tm) (s2 rfl rfl) <| cp (oAs (cI (by decide))) trivial <| cp (oAs (cI (by decide))) trivial <| .nil) (by kernel_rfl) ?_
        refine pSeq ?_
        refine wRet ?_
        refine pThenR ?_
        obtain rfl := so h
        exact pRn (.inl rfl) rfl rfl (.boxP (n := 0) (d := (kR f_api_State)) (u := (⟨⟨0, 0⟩, [], [], [], []⟩ : api_State)) rfl rfl (lfS (lfC (lfS (lfC lf1 (lfC lf1 lfN))) (lfC lf1 (lfC lf1 (lfC lf1 (lfC lf1 lfN)))))) rfl t33 <| .tmp rfl <| .tmp rfl <| .nil)
      · refine wBF hp10 tm (s1 rfl) ?_
        refine wSkip ?_
        refine pSeq ?_
        refine wSeq ?_
        refine rg (cp (oLd t25 tm) (s1 rfl) <| cp (oMv tm) (s1 rfl) <| cp (oMv tm) (s1 rfl) <| cp (oBuild (fs := f_state_reader) (u := ⟨a0, a1, a2, 0⟩) rfl ze174 pl174 po174 (.op (zc := [(.slice none 0 0), (.slice none 0 0)]) tm rfl (.op (zc := [(.slice none 0 0)]) tm rfl (.op (zc := [(.int .i64 0)]) tm rfl (.ze (zc := [(.int .i64 0)]) zI_i64 .nil))))) (s3 rfl rfl rfl) <| cw (oBoxP (id := 41) (d := (kR f_state_reader)) (ls := [.d (kL kS) a0.Names, .d (kL (kI .u32)) a0.Up, .d (kL (kR f_api_Tok)) a1, .d (kI .i64) a2, .d (kI .i64) 0]) (lfS (lfC (lfS (lfC lf1 (lfC lf1 lfN))) (lfC lf1 (lfC lf1 (lfC lf1 lfN))))) rfl tm) (s1 rfl) <| cp (oAs tm) (s1 rfl) <| .nil) (by kernel_rfl) ?_
        refine pSeq ?_
        refine wSeq ?_
        refine rg (cw (oAlloc (id := 11) (ls := [.d (kI .i64) 0, .d (kI .i64) 0, .d (kL (kR f_api_Instr)) [], .d (kL (kR f_api_Atom)) [], .d (kL (kR f_api_Slot)) [], .d (kL (kR f_api_Atom)) []]) ze33 (fun g => ⟨[(.int .i64 0)], _, rfl, zI_i64 g.H, ⟨[(.int .i64 0)], _, rfl, zI_i64 g.H, ⟨[(.slice none 0 0)], _, rfl, zL g.H, ⟨[(.slice none 0 0)], _, rfl, zL g.H, ⟨[(.slice none 0 0)], _, rfl, zL g.H, ⟨[(.slice none 0 0)], _, rfl, zL g.H, rfl⟩⟩⟩⟩⟩⟩)) trivial <| .nil) (by kernel_rfl) ?_
        refine pSeq ?_
        refine wSeq ?_
        obtain ⟨y11, hy11, h⟩ := bd h
        refine rg (cp (oMv tm) (s1 rfl) <| cm (oCallS (rest := [.box 11 33 [.d (kI .i64) 0, .d (kI .i64) 0, .d (kL (kR f_api_Instr)) [], .d (kL (kR f_api_Atom)) [], .d (kL (kR f_api_Slot)) [], .d (kL (kR f_api_Atom)) []], .box 6 33 [.d (kI .i64) 0, .d (kI .i64) 0, .d (kL (kR f_api_Instr)) [], .d (kL (kR f_api_Atom)) [], .d (kL (kR f_api_Slot)) [], .d (kL (kR f_api_Atom)) []]]) (R' := [.box 11 33 [.d (kI .i64) 0, .d (kI .i64) 0, .d (kL (kR f_api_Instr)) [], .d (kL (kR f_api_Atom)) [], .d (kL (kR f_api_Slot)) [], .d (kL (kR f_api_Atom)) []], .box 41 174 [.d (kL kS) y11.l_.Names, .d (kL (kI .u32)) y11.l_.Up, .d (kL (kR f_api_Tok)) y11.toks_, .d (kI .i64) y11.i_, .d (kI .i64) y11.bad_], .box 6 33 [.d (kI .i64) 0, .d (kI .i64) 0, .d (kL (kR f_api_Instr)) [], .d (kL (kR f_api_Atom)) [], .d (kL (kR f_api_Slot)) [], .d (kL (kR f_api_Atom)) []]]) (out' := .d (tup [])) [(70000, 41)] [] [1] [0, 2] [1, 0, 2] rfl (state_reader_must.ok hy11) b116 (oE1 tm (oE1 (cI (by decide)) (oE1 (cS (by decide)) oE0))) rfl rfl rfl rfl rfl rfl rfl rfl) (s1 rfl) <| .nil) (by kernel_rfl) ?_
        refine pSeq ?_
        refine wSeq ?_
        obtain ⟨y12, hy12, h⟩ := bd h
        refine rg (cp (oMv tm) (s1 rfl) <| cm (oCallS (rest := [.box 11 33 [.d (kI .i64) 0, .d (kI .i64) 0, .d (kL (kR f_api_Instr)) [], .d (kL (kR f_api_Atom)) [], .d (kL (kR f_api_Slot)) [], .d (kL (kR f_api_Atom)) []], .box 6 33 [.d (kI .i64) 0, .d (kI .i64) 0, .d (kL (kR f_api_Instr)) [], .d (kL (kR f_api_Atom)) [], .d (kL (kR f_api_Slot)) [], .d (kL (kR f_api_Atom)) []]]) (R' := [.box 11 33 [.d (kI .i64) 0, .d (kI .i64) 0, .d (kL (kR f_api_Instr)) [], .d (kL (kR f_api_Atom)) [], .d (kL (kR f_api_Slot)) [], .d (kL (kR f_api_Atom)) []], .box 41 174 [.d (kL kS) y12.1.l_.Names, .d (kL (kI .u32)) y12.1.l_.Up, .d (kL (kR f_api_Tok)) y12.1.toks_, .d (kI .i64) y12.1.i_, .d (kI .i64) y12.1.bad_], .box 6 33 [.d (kI .i64) 0, .d (kI .i64) 0, .d (kL (kR f_api_Instr)) [], .d (kL (kR f_api_Atom)) [], .d (kL (kR f_api_Slot)) [], .d (kL (kR f_api_Atom)) []]]) (out' := .d ((kR f_api_Atom).sig y12.2)) [(70000, 41)] [] [1] [0, 2] [1, 0, 2] rfl (state_reader_atom.ok hy12) b117 (oE1 tm oE0) rfl rfl rfl rfl rfl rfl rfl rfl) (s1 rfl) <| cp (oFldP o33_0 tm) (s1 rfl) <| cwn (oStP (n := 0) (k := 0) (m := 2) (d := (kR f_api_Atom)) (u := y12.2) (lfS (lfC lf1 (lfC lf1 lfN))) rfl rfl rfl z28 tm tm) (s2 rfl rfl) <| .nil) (by kernel_rfl) ?_
        refine pSeq ?_
        refine wSeq ?_
        obtain ⟨y13, hy13, h⟩ := bd h
        refine rg (cp (oMv tm) (s1 rfl) <| cm (oCallS (rest := [.box 11 33 [.d (kI .i64) y12.2.V, .d (kI .i64) y12.2.L, .d (kL (kR f_api_Instr)) [], .d (kL (kR f_api_Atom)) [], .d (kL (kR f_api_Slot)) [], .d (kL (kR f_api_Atom)) []], .box 6 33 [.d (kI .i64) 0, .d (kI .i64) 0, .d (kL (kR f_api_Instr)) [], .d (kL (kR f_api_Atom)) [], .d (kL (kR f_api_Slot)) [], .d (kL (kR f_api_Atom)) []]]) (R' := [.box 11 33 [.d (kI .i64) y12.2.V, .d (kI .i64) y12.2.L, .d (kL (kR f_api_Instr)) [], .d (kL (kR f_api_Atom)) [], .d (kL (kR f_api_Slot)) [], .d (kL (kR f_api_Atom)) []], .box 41 174 [.d (kL kS) y13.l_.Names, .d (kL (kI .u32)) y13.l_.Up, .d (kL (kR f_api_Tok)) y13.toks_, .d (kI .i64) y13.i_, .d (kI .i64) y13.bad_], .box 6 33 [.d (kI .i64) 0, .d (kI .i64) 0, .d (kL (kR f_api_Instr)) [], .d (kL (kR f_api_Atom)) [], .d (kL (kR f_api_Slot)) [], .d (kL (kR f_api_Atom)) []]]) (out' := .d (tup [])) [(70000, 41)] [] [1] [0, 2] [1, 0, 2] rfl (state_reader_must.ok hy13) b116 (oE1 tm (oE1 (cI (by decide)) (oE1 (cS (by decide)) oE0))) rfl rfl rfl rfl rfl rfl rfl rfl) (s1 rfl) <| .nil) (by kernel_rfl) ?_
        refine pSeq ?_
        refine wSeq ?_
        obtain ⟨y14, hy14, h⟩ := bd h
        refine rg (cp (oMv tm) (s1 rfl) <| cm (oCallS (rest := [.box 11 33 [.d (kI .i64) y12.2.V, .d (kI .i64) y12.2.L, .d (kL (kR f_api_Instr)) [], .d (kL (kR f_api_Atom)) [], .d (kL (kR f_api_Slot)) [], .d (kL (kR f_api_Atom)) []], .box 6 33 [.d (kI .i64) 0, .d (kI .i64) 0, .d (kL (kR f_api_Instr)) [], .d (kL (kR f_api_Atom)) [], .d (kL (kR f_api_Slot)) [], .d (kL (kR f_api_Atom)) []]]) (R' := [.box 11 33 [.d (kI .i64) y12.2.V, .d (kI .i64) y12.2.L, .d (kL (kR f_api_Instr)) [], .d (kL (kR f_api_Atom)) [], .d (kL (kR f_api_Slot)) [], .d (kL (kR f_api_Atom)) []], .box 41 174 [.d (kL kS) y14.1.l_.Names, .d (kL (kI .u32)) y14.1.l_.Up, .d (kL (kR f_api_Tok)) y14.1.toks_, .d (kI .i64) y14.1.i_, .d (kI .i64) y14.1.bad_], .box 6 33 [.d (kI .i64) 0, .d (kI .i64) 0, .d (kL (kR f_api_Instr)) [], .d (kL (kR f_api_Atom)) [], .d (kL (kR f_api_Slot)) [], .d (kL (kR f_api_Atom)) []]]) (out' := .d ((kL (kR f_api_Instr)).sig y14.2)) [(70000, 41)] [] [1] [0, 2] [1, 0, 2] rfl (state_reader_program.ok hy14) b118 (oE1 tm oE0) rfl rfl rfl rfl rfl rfl rfl rfl) (s1 rfl) <| cp (oFldP o33_1 tm) (s1 rfl) <| cwn (oSt (n := 0) (k := 2) rfl rfl rfl rfl z29 tm tm) (s2 rfl rfl) <| .nil) (by kernel_rfl) ?_
        refine pSeq ?_
        refine wSeq ?_
        obtain ⟨y15, hy15, h⟩ := bd h
        refine rg (cp (oMv tm) (s1 rfl) <| cp (oMv tm) (s1 rfl) <| cp (oMkB tm) (s1 rfl) <| cm (oCallS (rest := [.box 11 33 [.d (kI .i64) y12.2.V, .d (kI .i64) y12.2.L, .d (kL (kR f_api_Instr)) y14.2, .d (kL (kR f_api_Atom)) [], .d (kL (kR f_api_Slot)) [], .d (kL (kR f_api_Atom)) []], .box 6 33 [.d (kI .i64) 0, .d (kI .i64) 0, .d (kL (kR f_api_Instr)) [], .d (kL (kR f_api_Atom)) [], .d (kL (kR f_api_Slot)) [], .d (kL (kR f_api_Atom)) []]]) (R' := [.box 11 33 [.d (kI .i64) y12.2.V, .d (kI .i64) y12.2.L, .d (kL (kR f_api_Instr)) y14.2, .d (kL (kR f_api_Atom)) [], .d (kL (kR f_api_Slot)) [], .d (kL (kR f_api_Atom)) []], .box 41 174 [.d (kL kS) y15.1.l_.Names, .d (kL (kI .u32)) y15.1.l_.Up, .d (kL (kR f_api_Tok)) y15.1.toks_, .d (kI .i64) y15.1.i_, .d (kI .i64) y15.1.bad_], .box 6 33 [.d (kI .i64) 0, .d (kI .i64) 0, .d (kL (kR f_api_Instr)) [], .d (kL (kR f_api_Atom)) [], .d (kL (kR f_api_Slot)) [], .d (kL (kR f_api_Atom)) []]]) (out' := .d ((kL (kR f_api_Atom)).sig y15.2)) [(70000, 41)] [] [1] [0, 2] [1, 0, 2] rfl (state_row_api_Atom_atom.ok hy15) b119 (oE1 tm (oE1 (cS (by decide)) (oE1 (cI (by decide)) (oE1 tm oE0)))) rfl rfl rfl rfl rfl rfl rfl rfl) (s2 rfl rfl) <| cp (oFldP o33_2 tm) (s1 rfl) <| cwn (oSt (n := 0) (k := 3) rfl rfl rfl rfl z30 tm tm) (s2 rfl rfl) <| .nil) (by kernel_rfl) ?_
        refine pSeq ?_
        refine wSeq ?_
        obtain ⟨y16, hy16, h⟩ := bd h
        refine rg (cp (oMv tm) (s1 rfl) <| cp (oMv tm) (s1 rfl) <| cp (oMkB tm) (s1 rfl) <| cm (oCallS (rest := [.box 11 33 [.d (kI .i64) y12.2.V, .d (kI .i64) y12.2.L, .d (kL (kR f_api_Instr)) y14.2, .d (kL (kR f_api_Atom)) y15.2, .d (kL (kR f_api_Slot)) [], .d (kL (kR f_api_Atom)) []], .box 6 33 [.d (kI .i64) 0, .d (kI .i64) 0, .d (kL (kR f_api_Instr)) [], .d (kL (kR f_api_Atom)) [], .d (kL (kR f_api_Slot)) [], .d (kL (kR f_api_Atom)) []]]) (R' := [.box 11 33 [.d (kI .i64) y12.2.V, .d (kI .i64) y12.2.L, .d (kL (kR f_api_Instr)) y14.2, .d (kL (kR f_api_Atom)) y15.2, .d (kL (kR f_api_Slot)) [], .d (kL (kR f_api_Atom)) []], .box 41 174 [.d (kL kS) y16.1.l_.Names, .d (kL (kI .u32)) y16.1.l_.Up, .d (kL (kR f_api_Tok)) y16.1.toks_, .d (kI .i64) y16.1.i_, .d (kI .i64) y16.1.bad_], .box 6 33 [.d (kI .i64) 0, .d (kI .i64) 0, .d (kL (kR f_api_Instr)) [], .d (kL (kR f_api_Atom)) [], .d (kL (kR f_api_Slot)) [], .d (kL (kR f_api_Atom)) []]]) (out' := .d ((kL (kR f_api_Slot)).sig y16.2)) [(70000, 41)] [] [1] [0, 2] [1, 0, 2] rfl (state_row_api_Slot_slot.ok hy16) b120 (oE1 tm (oE1 (cS (by decide)) (oE1 (cI (by decide)) (oE1 tm oE0)))) rfl rfl rfl rfl rfl rfl rfl rfl) (s2 rfl rfl) <| cp (oFldP o33_3 tm) (s1 rfl) <| cwn (oSt (n := 0) (k := 4) rfl rfl rfl rfl z31 tm tm) (s2 rfl rfl) <| .nil) (by kernel_rfl) ?_
        refine pSeq ?_
        refine wSeq ?_
        obtain ⟨y17, hy17, h⟩ := bd h
        refine rg (cp (oMv tm) (s1 rfl) <| cp (oMv tm) (s1 rfl) <| cp (oMkB tm) (s1 rfl) <| cm (oCallS (rest := [.box 11 33 [.d (kI .i64) y12.2.V, .d (kI .i64) y12.2.L, .d (kL (kR f_api_Instr)) y14.2, .d (kL (kR f_api_Atom)) y15.2, .d (kL (kR f_api_Slot)) y16.2, .d (kL (kR f_api_Atom)) []], .box 6 33 [.d (kI .i64) 0, .d (kI .i64) 0, .d (kL (kR f_api_Instr)) [], .d (kL (kR f_api_Atom)) [], .d (kL (kR f_api_Slot)) [], .d (kL (kR f_api_Atom)) []]]) (R' := [.box 11 33 [.d (kI .i64) y12.2.V, .d (kI .i64) y12.2.L, .d (kL (kR f_api_Instr)) y14.2, .d (kL (kR f_api_Atom)) y15.2, .d (kL (kR f_api_Slot)) y16.2, .d (kL (kR f_api_Atom)) []], .box 41 174 [.d (kL kS) y17.1.l_.Names, .d (kL (kI .u32)) y17.1.l_.Up, .d (kL (kR f_api_Tok)) y17.1.toks_, .d (kI .i64) y17.1.i_, .d (kI .i64) y17.1.bad_], .box 6 33 [.d (kI .i64) 0, .d (kI .i64) 0, .d (kL (kR f_api_Instr)) [], .d (kL (kR f_api_Atom)) [], .d (kL (kR f_api_Slot)) [], .d (kL (kR f_api_Atom)) []]]) (out' := .d ((kL (kR f_api_Atom)).sig y17.2)) [(70000, 41)] [] [1] [0, 2] [1, 0, 2] rfl (state_row_api_Atom_atom.ok hy17) b119 (oE1 tm (oE1 (cS (by decide)) (oE1 (cI (by decide)) (oE1 tm oE0)))) rfl rfl rfl rfl rfl rfl rfl rfl) (s2 rfl rfl) <| cp (oFldP o33_4 tm) (s1 rfl) <| cwn (oSt (n := 0) (k := 5) rfl rfl rfl rfl z30 tm tm) (s2 rfl rfl) <| .nil) (by kernel_rfl) ?_
        refine pSeq ?_
        refine wSeq ?_
        refine wBlock ?_
        refine wSeq ?_
        refine rg (cp (oMv tm) (s1 rfl) <| cp (oNilP tm) (s1 rfl) <| cp (oFldP o174_3 tm) (s1 rfl) <| cr (oLdB (n := 1) (k := 4) rfl rfl rfl t34 tm) (s1 rfl) <| cp (oNe rfl tm (cI (by decide))) (s1 rfl) <| cp (oAs tm) (s1 rfl) <| .nil) (by kernel_rfl) ?_
        refine pSeq ?_
        rcases ic h with ⟨hp18, h⟩ | ⟨hp18, h⟩
        · refine wNT hp18 tm (s1 rfl) ?_
          refine wSeq ?_
          obtain ⟨y19, hy19, h⟩ := bd h
          refine rg (cp (oLd t25 tm) (s1 rfl) <| cr (oLdP (n := 0) (k := 0) (m := 6) (d := (kR f_api_State)) (u := (⟨y12.2, y14.2, y15.2, y16.2, y17.2⟩ : api_State)) (lfS (lfC (lfS (lfC lf1 (lfC lf1 lfN))) (lfC lf1 (lfC lf1 (lfC lf1 (lfC lf1 lfN)))))) rfl rfl rfl t33 tm) (s1 rfl) <| cp (oCall rfl (state_Right.ok hy19) b20 (opds_cons tm (opds_cons tm opds_nil))) (s2 rfl rfl) <| cp (oNot tm) (s1 rfl) <| cp (oAs tm) (s1 rfl) <| .nil) (by kernel_rfl) ?_
          refine pSeq ?_
          rcases ic h with ⟨hp20, h⟩ | ⟨hp20, h⟩
          · refine wBT hp20 tm (s1 rfl) ?_
            refine wSeq ?_
            refine rg (cp (oBuild (fs := f_api_State) (u := ⟨(⟨0, 0⟩ : api_Atom), [], [], [], []⟩) rfl ze33 pl33 po33 (.ze (zc := [(.int .i64 0), (.int .i64 0)]) zR_api_Atom (.ze (zc := [(.slice none 0 0)]) zL (.ze (zc := [(.slice none 0 0)]) zL (.ze (zc := [(.slice none 0 0)]) zL (.ze (zc := [(.slice none 0 0)]) zL .nil)))))) trivial <| cp (oMv tm) (s1 rfl) <| cwn (oStP (n := 2) (k := 0) (m := 6) (d := (kR f_api_State)) (u := (⟨(⟨0, 0⟩ : api_Atom), [], [], [], []⟩ : api_State)) (lfS (lfC (lfS (lfC lf1 (lfC lf1 lfN))) (lfC lf1 (lfC lf1 (lfC lf1 (lfC lf1 lfN)))))) rfl rfl rfl z33 tm tm) (s2 rfl rfl) <| cp (oAs tm) (s1 rfl) <| cp (oAs (cI (by decide))) trivial <| .nil) (by kernel_rfl) ?_
            refine pSeq ?_
            refine wRet ?_
            refine pBlkR ?_
            refine pThenR ?_
            obtain rfl := so h
            exact pRn (.inl rfl) rfl rfl (.boxP (n := 2) (d := (kR f_api_State)) (u := (⟨⟨0, 0⟩, [], [], [], []⟩ : api_State)) rfl rfl (lfS (lfC (lfS (lfC lf1 (lfC lf1 lfN))) (lfC lf1 (lfC lf1 (lfC lf1 (lfC lf1 lfN)))))) rfl t33 <| .tmp rfl <| .tmp rfl <| .nil)
          · refine wBF hp20 tm (s1 rfl) ?_
            refine wSkip ?_
            refine pBlkN ?_
            refine pSeq ?_
            refine wSeq ?_
            refine wFrzP 10 (n := 1) (id := 41) (d := (kR f_state_reader)) (u := y17.1) rfl (lfS (lfC (lfS (lfC lf1 (lfC lf1 lfN))) (lfC lf1 (lfC lf1 (lfC lf1 lfN))))) rfl rfl ?_
            refine rgD hm (cr (oLdP (n := 0) (k := 0) (m := 6) (d := (kR f_api_State)) (u := (⟨y12.2, y14.2, y15.2, y16.2, y17.2⟩ : api_State)) (lfS (lfC (lfS (lfC lf1 (lfC lf1 lfN))) (lfC lf1 (lfC lf1 (lfC lf1 (lfC lf1 lfN)))))) rfl rfl rfl t33 tm) (s1 rfl) <| cp (oMv tm) (s1 rfl) <| cp (oNilS tm) (s1 rfl) <| cp (oFld (fs := f_state_reader) (k := 2) rfl o174_2 tm) (s1 rfl) <| cp (oLd t3 tm) (s1 rfl) <| cwn (oStP (n := 1) (k := 0) (m := 6) (d := (kR f_api_State)) (u := (⟨y12.2, y14.2, y15.2, y16.2, y17.2⟩ : api_State)) (lfS (lfC (lfS (lfC lf1 (lfC lf1 lfN))) (lfC lf1 (lfC lf1 (lfC lf1 (lfC lf1 lfN)))))) rfl rfl rfl z33 tm tm) (s2 rfl rfl) <| cp (oAs tm) (s1 rfl) <| cp (oAs (cI (by decide))) trivial <| .nil) (by kernel_rfl) (by kernel_rfl) ?_
            refine pSeq ?_
            refine wRet ?_
            obtain rfl := so h
            exact pRn (.inl rfl) rfl rfl (.boxP (n := 1) (d := (kR f_api_State)) (u := (⟨y12.2, y14.2, y15.2, y16.2, y17.2⟩ : api_State)) rfl rfl (lfS (lfC (lfS (lfC lf1 (lfC lf1 lfN))) (lfC lf1 (lfC lf1 (lfC lf1 (lfC lf1 lfN)))))) rfl t33 <| .tmp rfl <| .tmp rfl <| .nil)
        · refine wNF hp18 tm (s1 rfl) ?_
          refine wSeq ?_
          refine wFrzP 10 (n := 1) (id := 41) (d := (kR f_state_reader)) (u := y17.1) rfl (lfS (lfC (lfS (lfC lf1 (lfC lf1 lfN))) (lfC lf1 (lfC lf1 (lfC lf1 lfN))))) rfl rfl ?_
          refine rgD hm (cp (oBuild (fs := f_api_State) (u := ⟨(⟨0, 0⟩ : api_Atom), [], [], [], []⟩) rfl ze33 pl33 po33 (.ze (zc := [(.int .i64 0), (.int .i64 0)]) zR_api_Atom (.ze (zc := [(.slice none 0 0)]) zL (.ze (zc := [(.slice none 0 0)]) zL (.ze (zc := [(.slice none 0 0)]) zL (.ze (zc := [(.slice none 0 0)]) zL .nil)))))) trivial <| cp (oMv tm) (s1 rfl) <| cp (oNilS tm) (s1 rfl) <| cp (oFld (fs := f_state_reader) (k := 2) rfl o174_2 tm) (s1 rfl) <| cp (oLd t3 tm) (s1 rfl) <| cp (oMv tm) (s1 rfl) <| cp (oNilS tm) (s1 rfl) <| cp (oFld (fs := f_state_reader) (k := 3) rfl o174_3 tm) (s1 rfl) <| cp (oLd t34 tm) (s1 rfl) <| cwn (oStP (n := 1) (k := 0) (m := 6) (d := (kR f_api_State)) (u := (⟨(⟨0, 0⟩ : api_Atom), [], [], [], []⟩ : api_State)) (lfS (lfC (lfS (lfC lf1 (lfC lf1 lfN))) (lfC lf1 (lfC lf1 (lfC lf1 (lfC lf1 lfN)))))) rfl rfl rfl z33 tm tm) (s2 rfl rfl) <| cp (oAs tm) (s1 rfl) <| cp (oAs tm) (s1 rfl) <| .nil) (by kernel_rfl) (by kernel_rfl) ?_
          refine pSeq ?_
          refine wRet ?_
          refine pBlkR ?_
          refine pThenR ?_
          obtain rfl := so h
          exact pRn (.inl rfl) rfl rfl (.boxP (n := 1) (d := (kR f_api_State)) (u := (⟨⟨0, 0⟩, [], [], [], []⟩ : api_State)) rfl rfl (lfS (lfC (lfS (lfC lf1 (lfC lf1 lfN))) (lfC lf1 (lfC lf1 (lfC lf1 (lfC lf1 lfN)))))) rfl t33 <| .tmp rfl <| .tmp rfl <| .nil)
  · refine wNF hp2 tm (s1 rfl) ?_
    refine wSeq ?_
    refine rg (cp (oBuild (fs := f_api_State) (u := ⟨(⟨0, 0⟩ : api_Atom), [], [], [], []⟩) rfl ze33 pl33 po33 (.ze (zc := [(.int .i64 0), (.int .i64 0)]) zR_api_Atom (.ze (zc := [(.slice none 0 0)]) zL (.ze (zc := [(.slice none 0 0)]) zL (.ze (zc := [(.slice none 0 0)]) zL (.ze (zc := [(.slice none 0 0)]) zL .nil)))))) trivial <| cp (oMv tm) (s1 rfl) <| cwn (oStP (n := 0) (k := 0) (m := 6) (d := (kR f_api_State)) (u := (⟨(⟨0, 0⟩ : api_Atom), [], [], [], []⟩ : api_State)) (lfS (lfC (lfS (lfC lf1 (lfC lf1 lfN))) (lfC lf1 (lfC lf1 (lfC lf1 (lfC lf1 lfN)))))) rfl rfl rfl z33 tm tm) (s2 rfl rfl) <| cp (oAs (cI (by decide))) trivial <| cp (oAs tm) (s1 rfl) <| .nil) (by kernel_rfl) ?_
    refine pSeq ?_
    refine wRet ?_
    refine pThenR ?_
    obtain rfl := so h
    exact pRn (.inl rfl) rfl rfl (.boxP (n := 0) (d := (kR f_api_State)) (u := (⟨⟨0, 0⟩, [], [], [], []⟩ : api_State)) rfl rfl (lfS (lfC (lfS (lfC lf1 (lfC lf1 lfN))) (lfC lf1 (lfC lf1 (lfC lf1 (lfC lf1 lfN)))))) rfl t33 <| .tmp rfl <| .tmp rfl <| .nil)
theorem state_Parse.ok {a0 : api_Lattice} {a1 : Str} {r : api_State × Int × Int} (h : state_Parse.f a0 a1 = some r) : FnA Tryz.prog 12 [(kR f_api_Lattice).sig a0, kS.sig a1] (tup [(kR f_api_State).sig r.1, (kI .i64).sig r.2.1, (kI .i64).sig r.2.2]) := by
  refine fnIntro Tryz.func12 rfl (by kernel_rfl) fun H0 w0 => ?_
  unfold state_Parse.f at h
  refine wSeq ?_
  refine rg (cp (oBox tm) (s1 rfl) <| cw (oAlloc (id := 4) (ls := [.d (kI .i64) 0, .d (kI .i64) 0, .d (kL (kR f_api_Instr)) [], .d (kL (kR f_api_Atom)) [], .d (kL (kR f_api_Slot)) [], .d (kL (kR f_api_Atom)) []]) ze33 (fun g => ⟨[(.int .i64 0)], _, rfl, zI_i64 g.H, ⟨[(.int .i64 0)], _, rfl, zI_i64 g.H, ⟨[(.slice none 0 0)], _, rfl, zL g.H, ⟨[(.slice none 0 0)], _, rfl, zL g.H, ⟨[(.slice none 0 0)], _, rfl, zL g.H, ⟨[(.slice none 0 0)], _, rfl, zL g.H, rfl⟩⟩⟩⟩⟩⟩)) trivial <| cp (oAs (cI (by decide))) trivial <| cp (oAs (cI (by decide))) trivial <| .nil) (by kernel_rfl) ?_
  refine pSeq ?_
  refine wSeq ?_
  refine wSeq ?_
  obtain ⟨y1, hy1, h⟩ := bd h
  refine rg (cp (oLd t25 tm) (s1 rfl) <| cp (oCall rfl (lattice_Check.ok hy1) b49 (opds_cons tm opds_nil)) (s1 rfl) <| cp (oAs tm) (s1 rfl) <| .nil) (by kernel_rfl) ?_
  refine pSeq ?_
  refine wSeq ?_
  refine rg (cp (oMv tm) (s1 rfl) <| cp (oNe rfl tm (cI (by decide))) (s1 rfl) <| .nil) (by kernel_rfl) ?_
  refine pSeq ?_
  rcases ic h with ⟨hp2, h⟩ | ⟨hp2, h⟩
  · refine wNT hp2 tm (s1 rfl) ?_
    refine wSkip ?_
    refine pSeq ?_
    refine wSeq ?_
    obtain ⟨y3, hy3, h⟩ := bd h
    refine rg (cp (oMv tm) (s1 rfl) <| cp (oCall rfl (lex_Lex.ok hy3) b50 (opds_cons tm opds_nil)) (s1 rfl) <| cp (oMv tm) (s1 rfl) <| cp (oExt (k := 0) rfl tm) (s1 rfl) <| cp (oExt (k := 1) rfl tm) (s1 rfl) <| cp (oExt (k := 2) rfl tm) (s1 rfl) <| cp (oAs tm) (s1 rfl) <| cp (oAs tm) (s1 rfl) <| cp (oAs tm) (s1 rfl) <| .nil) (by kernel_rfl) ?_
    refine pSeq ?_
    refine wSeq ?_
    refine wSeq ?_
    refine rg (cp (oMv tm) (s1 rfl) <| cp (oNe rfl tm (cI (by decide))) (s1 rfl) <| .nil) (by kernel_rfl) ?_
    refine pSeq ?_
    rcases ic h with ⟨hp4, h⟩ | ⟨hp4, h⟩
    · refine wNT hp4 tm (s1 rfl) ?_
      refine wSkip ?_
      refine pSeq ?_
      refine wSeq ?_
      obtain ⟨y5, hy5, h⟩ := bd h
      refine rg (cp (oLd t25 tm) (s1 rfl) <| cp (oMv tm) (s1 rfl) <| cp (oCall rfl (state_From.ok hy5) b51 (opds_cons tm (opds_cons tm (opds_cons (cI (by decide)) opds_nil)))) (s2 rfl rfl) <| cp (oMv tm) (s1 rfl) <| cp (oExt (k := 0) rfl tm) (s1 rfl) <| cp (oExt (k := 1) rfl tm) (s1 rfl) <| cp (oExt (k := 2) rfl tm) (s1 rfl) <| cw (oAlloc (id := 11) (ls := [.d (kI .i64) 0, .d (kI .i64) 0, .d (kL (kR f_api_Instr)) [], .d (kL (kR f_api_Atom)) [], .d (kL (kR f_api_Slot)) [], .d (kL (kR f_api_Atom)) []]) ze33 (fun g => ⟨[(.int .i64 0)], _, rfl, zI_i64 g.H, ⟨[(.int .i64 0)], _, rfl, zI_i64 g.H, ⟨[(.slice none 0 0)], _, rfl, zL g.H, ⟨[(.slice none 0 0)], _, rfl, zL g.H, ⟨[(.slice none 0 0)], _, rfl, zL g.H, ⟨[(.slice none 0 0)], _, rfl, zL g.H, rfl⟩⟩⟩⟩⟩⟩)) trivial <| cwn (oStP (n := 0) (k := 0) (m := 6) (d := (kR f_api_State)) (u := y5.1) (lfS (lfC (lfS (lfC lf1 (lfC lf1 lfN))) (lfC lf1 (lfC lf1 (lfC lf1 (lfC lf1 lfN)))))) rfl rfl rfl z33 tm tm) (s2 rfl rfl) <| cp (oAs tm) (s1 rfl) <| cp (oAs tm) (s1 rfl) <| .nil) (by kernel_rfl) ?_
      refine pSeq ?_
      refine wSeq ?_
      refine wBlock ?_
      refine wSeq ?_
      refine rg (cp (oMv tm) (s1 rfl) <| cp (oNe rfl tm (cI (by decide))) (s1 rfl) <| cp (oAs tm) (s1 rfl) <| .nil) (by kernel_rfl) ?_
      refine pSeq ?_
      rcases ic h with ⟨hp6, h⟩ | ⟨hp6, h⟩
      · refine wNT hp6 tm (s1 rfl) ?_
        refine wSeq ?_
        obtain ⟨y7, hy7, h⟩ := bd h
        refine rg (cp (oMv tm) (s1 rfl) <| cp (oMv tm) (s1 rfl) <| cp (oIdx u89 z94 hy7 tm tm) (s2 rfl rfl) <| cp (oFld (fs := f_api_Tok) (k := 0) rfl o94_0 tm) (s1 rfl) <| cp (oLd t3 tm) (s1 rfl) <| cp (oNe rfl tm (cI (by decide))) (s1 rfl) <| cp (oAs tm) (s1 rfl) <| .nil) (by kernel_rfl) ?_
        refine pSeq ?_
        rcases ic h with ⟨hp8, h⟩ | ⟨hp8, h⟩
        · refine wNT hp8 tm (s1 rfl) ?_
          refine wSkip ?_
          refine pBlkN ?_
          refine pSeq ?_
          refine wSeq ?_
          refine rg (cr (oLdP (n := 0) (k := 0) (m := 6) (d := (kR f_api_State)) (u := y5.1) (lfS (lfC (lfS (lfC lf1 (lfC lf1 lfN))) (lfC lf1 (lfC lf1 (lfC lf1 (lfC lf1 lfN)))))) rfl rfl rfl t33 tm) (s1 rfl) <| cwn (oStP (n := 1) (k := 0) (m := 6) (d := (kR f_api_State)) (u := y5.1) (lfS (lfC (lfS (lfC lf1 (lfC lf1 lfN))) (lfC lf1 (lfC lf1 (lfC lf1 (lfC lf1 lfN)))))) rfl rfl rfl z33 tm tm) (s2 rfl rfl) <| cp (oAs (cI (by decide))) trivial <| cp (oAs (cI (by decide))) trivial <| .nil) (by kernel_rfl) ?_
          refine pSeq ?_
          refine wRet ?_
          obtain rfl := so h
          exact pRn (.inl rfl) rfl rfl (.boxP (n := 1) (d := (kR f_api_State)) (u := y5.1) rfl rfl (lfS (lfC (lfS (lfC lf1 (lfC lf1 lfN))) (lfC lf1 (lfC lf1 (lfC lf1 (lfC lf1 lfN)))))) rfl t33 <| .tmp rfl <| .tmp rfl <| .nil)
        · refine wNF hp8 tm (s1 rfl) ?_
          refine wSeq ?_
          obtain ⟨y9, hy9, h⟩ := bd h
          refine rgD hm (cp (oBuild (fs := f_api_State) (u := ⟨(⟨0, 0⟩ : api_Atom), [], [], [], []⟩) rfl ze33 pl33 po33 (.ze (zc := [(.int .i64 0), (.int .i64 0)]) zR_api_Atom (.ze (zc := [(.slice none 0 0)]) zL (.ze (zc := [(.slice none 0 0)]) zL (.ze (zc := [(.slice none 0 0)]) zL (.ze (zc := [(.slice none 0 0)]) zL .nil)))))) trivial <| cp (oMv tm) (s1 rfl) <| cp (oMv tm) (s1 rfl) <| cp (oIdx u89 z94 hy9 tm tm) (s2 rfl rfl) <| cp (oFld (fs := f_api_Tok) (k := 2) rfl o94_2 tm) (s1 rfl) <| cp (oLd t3 tm) (s1 rfl) <| cwn (oStP (n := 1) (k := 0) (m := 6) (d := (kR f_api_State)) (u := (⟨(⟨0, 0⟩ : api_Atom), [], [], [], []⟩ : api_State)) (lfS (lfC (lfS (lfC lf1 (lfC lf1 lfN))) (lfC lf1 (lfC lf1 (lfC lf1 (lfC lf1 lfN)))))) rfl rfl rfl z33 tm tm) (s2 rfl rfl) <| cp (oAs tm) (s1 rfl) <| cp (oAs (cI (by decide))) trivial <| .nil) (by kernel_rfl) (by kernel_rfl) ?_
          refine pSeq ?_
          refine wRet ?_
          refine pBlkR ?_
          refine pThenR ?_
          obtain rfl := so h
          exact pRn (.inl rfl) rfl rfl (.boxP (n := 1) (d := (kR f_api_State)) (u := (⟨⟨0, 0⟩, [], [], [], []⟩ : api_State)) rfl rfl (lfS (lfC (lfS (lfC lf1 (lfC lf1 lfN))) (lfC lf1 (lfC lf1 (lfC lf1 (lfC lf1 lfN)))))) rfl t33 <| .tmp rfl <| .tmp rfl <| .nil)
      · refine wNF hp6 tm (s1 rfl) ?_
        refine wSeq ?_
        obtain ⟨y10, hy10, h⟩ := bd h
        refine rgD hm (cp (oBuild (fs := f_api_State) (u := ⟨(⟨0, 0⟩ : api_Atom), [], [], [], []⟩) rfl ze33 pl33 po33 (.ze (zc := [(.int .i64 0), (.int .i64 0)]) zR_api_Atom (.ze (zc := [(.slice none 0 0)]) zL (.ze (zc := [(.slice none 0 0)]) zL (.ze (zc := [(.slice none 0 0)]) zL (.ze (zc := [(.slice none 0 0)]) zL .nil)))))) trivial <| cp (oMv tm) (s1 rfl) <| cp (oMv tm) (s1 rfl) <| cp (oIdx u89 z94 hy10 tm tm) (s2 rfl rfl) <| cp (oFld (fs := f_api_Tok) (k := 2) rfl o94_2 tm) (s1 rfl) <| cp (oLd t3 tm) (s1 rfl) <| cp (oMv tm) (s1 rfl) <| cwn (oStP (n := 1) (k := 0) (m := 6) (d := (kR f_api_State)) (u := (⟨(⟨0, 0⟩ : api_Atom), [], [], [], []⟩ : api_State)) (lfS (lfC (lfS (lfC lf1 (lfC lf1 lfN))) (lfC lf1 (lfC lf1 (lfC lf1 (lfC lf1 lfN)))))) rfl rfl rfl z33 tm tm) (s2 rfl rfl) <| cp (oAs tm) (s1 rfl) <| cp (oAs tm) (s1 rfl) <| .nil) (by kernel_rfl) (by kernel_rfl) ?_
        refine pSeq ?_
        refine wRet ?_
        refine pBlkR ?_
        refine pThenR ?_
        obtain rfl := so h
        exact pRn (.inl rfl) rfl rfl (.boxP (n := 1) (d := (kR f_api_State)) (u := (⟨⟨0, 0⟩, [], [], [], []⟩ : api_State)) rfl rfl (lfS (lfC (lfS (lfC lf1 (lfC lf1 lfN))) (lfC lf1 (lfC lf1 (lfC lf1 (lfC lf1 lfN)))))) rfl t33 <| .tmp rfl <| .tmp rfl <| .nil)
    · refine wNF hp4 tm (s1 rfl) ?_
      refine wSeq ?_
      refine rg (cp (oBuild (fs := f_api_State) (u := ⟨(⟨0, 0⟩ : api_Atom), [], [], [], []⟩) rfl ze33 pl33 po33 (.ze (zc := [(.int .i64 0), (.int .i64 0)]) zR_api_Atom (.ze (zc := [(.slice none 0 0)]) zL (.ze (zc := [(.slice none 0 0)]) zL (.ze (zc := [(.slice none 0 0)]) zL (.ze (zc := [(.slice none 0 0)]) zL .nil)))))) trivial <| cp (oMv tm) (s1 rfl) <| cp (oMv tm) (s1 rfl) <| cwn (oStP (n := 0) (k := 0) (m := 6) (d := (kR f_api_State)) (u := (⟨(⟨0, 0⟩ : api_Atom), [], [], [], []⟩ : api_State)) (lfS (lfC (lfS (lfC lf1 (lfC lf1 lfN))) (lfC lf1 (lfC lf1 (lfC lf1 (lfC lf1 lfN)))))) rfl rfl rfl z33 tm tm) (s2 rfl rfl) <| cp (oAs tm) (s1 rfl) <| cp (oAs tm) (s1 rfl) <| .nil) (by kernel_rfl) ?_
      refine pSeq ?_
      refine wRet ?_
      refine pThenR ?_
      obtain rfl := so h
      exact pRn (.inl rfl) rfl rfl (.boxP (n := 0) (d := (kR f_api_State)) (u := (⟨⟨0, 0⟩, [], [], [], []⟩ : api_State)) rfl rfl (lfS (lfC (lfS (lfC lf1 (lfC lf1 lfN))) (lfC lf1 (lfC lf1 (lfC lf1 (lfC lf1 lfN)))))) rfl t33 <| .tmp rfl <| .tmp rfl <| .nil)
  · refine wNF hp2 tm (s1 rfl) ?_
    refine wSeq ?_
    refine rg (cp (oBuild (fs := f_api_State) (u := ⟨(⟨0, 0⟩ : api_Atom), [], [], [], []⟩) rfl ze33 pl33 po33 (.ze (zc := [(.int .i64 0), (.int .i64 0)]) zR_api_Atom (.ze (zc := [(.slice none 0 0)]) zL (.ze (zc := [(.slice none 0 0)]) zL (.ze (zc := [(.slice none 0 0)]) zL (.ze (zc := [(.slice none 0 0)]) zL .nil)))))) trivial <| cp (oMv tm) (s1 rfl) <| cwn (oStP (n := 0) (k := 0) (m := 6) (d := (kR f_api_State)) (u := (⟨(⟨0, 0⟩ : api_Atom), [], [], [], []⟩ : api_State)) (lfS (lfC (lfS (lfC lf1 (lfC lf1 lfN))) (lfC lf1 (lfC lf1 (lfC lf1 (lfC lf1 lfN)))))) rfl rfl rfl z33 tm tm) (s2 rfl rfl) <| cp (oAs (cI (by decide))) trivial <| cp (oAs tm) (s1 rfl) <| .nil) (by kernel_rfl) ?_
    refine pSeq ?_
    refine wRet ?_
    refine pThenR ?_
    obtain rfl := so h
    exact pRn (.inl rfl) rfl rfl (.boxP (n := 0) (d := (kR f_api_State)) (u := (⟨⟨0, 0⟩, [], [], [], []⟩ : api_State)) rfl rfl (lfS (lfC (lfS (lfC lf1 (lfC lf1 lfN))) (lfC lf1 (lfC lf1 (lfC lf1 (lfC lf1 lfN)))))) rfl t33 <| .tmp rfl <| .tmp rfl <| .nil)
theorem reticentref01_Name.ok {a0 : Str} {r : Bool} (h : reticentref01_Name.f a0 = some r) : FnA Tryz.prog 134 [kS.sig a0] (kB.sig r) := by
  refine fnIntro Tryz.func134 rfl (by kernel_rfl) fun H0 w0 => ?_
  unfold reticentref01_Name.f at h
  refine wSeq ?_
  refine rg (cp (oAs cB) trivial <| .nil) (by kernel_rfl) ?_
  refine pSeq ?_
  refine wSeq ?_
  refine wSeq ?_
  refine rg (cp (oAs (cI (by decide))) trivial <| .nil) (by kernel_rfl) ?_
  refine pSeq ?_
  obtain ⟨o1, h, hk1⟩ := bd h
  refine wK0 (.inr () = o1) ([(0, .d (kS.sig a0))]) ([]) ?_ ?_
  · refine wBlock (wLoop ?_)
    refine lW (pc1 o1 (fun v19 => [(0, .d (kS.sig a0)), (3, .d ((kI .i64).sig v19))]) (fun v19 => []) (reticentref01_Name.l0.partial_correctness a0) ?_ _ h) ⟨rfl, rfl, trivial⟩ rfl
    clear h
    intro f' ih v19 h
    refine wSeq ?_
    refine wSeq ?_
    refine rg (cp (oMv tm) (s1 rfl) <| cp (oMv tm) (s1 rfl) <| cp (oLenS u9 tm) (s1 rfl) <| cp (oLt rfl tm tm) (s2 rfl rfl) <| .nil) (by kernel_rfl) ?_
    refine pSeq ?_
    rcases ic h with ⟨hp20, h⟩ | ⟨hp20, h⟩
    · refine wCT hp20 tm (s1 rfl) ?_
      refine wSkip ?_
      refine pSeq ?_
      refine wSeq ?_
      refine wBlock ?_
      obtain ⟨o2, h, hk2⟩ := bd h
      refine wJ1 (fun x24 => x24 = o2) (fun x24 => [(0, .d (kS.sig a0)), (3, .d ((kI .i64).sig v19)), (19, .d (kB.sig x24))]) (fun x24 => []) ?_ ?_
      · obtain ⟨hc25, h⟩ := ib h
        rcases ic h with ⟨hp26, h⟩ | ⟨hp26, h⟩
        · refine rg (cp (oMv tm) (s1 rfl) <| cp (oMv tm) (s1 rfl) <| cp (oIdxS u9 hc25.1 hc25.2 tm tm) (s2 rfl rfl) <| cp (oLt rfl tm (cI (by decide))) (s1 rfl) <| cp (oMv tm) (s1 rfl) <| csB (decide_eq_true hp26) rfl rfl <| csB (decide_eq_true hp26) rfl rfl <| csB (decide_eq_true hp26) rfl rfl <| csB (decide_eq_true hp26) rfl rfl <| cp (oPkT (decide_eq_true hp26) tm cB) (s1 rfl) <| .nil) (by kernel_rfl) ?_
          exact pJ1 _ (so h) ⟨rfl, rfl, rfl, trivial⟩ rfl
        · obtain ⟨hc27, h⟩ := ib h
          refine rg (cp (oMv tm) (s1 rfl) <| cp (oMv tm) (s1 rfl) <| cp (oIdxS u9 hc25.1 hc25.2 tm tm) (s2 rfl rfl) <| cp (oLt rfl tm (cI (by decide))) (s1 rfl) <| cp (oMv tm) (s1 rfl) <| cgB (decide_eq_false hp26) rfl rfl (oMv tm) (s1 rfl) <| cgB (decide_eq_false hp26) rfl rfl (oMv tm) (s1 rfl) <| cgB (decide_eq_false hp26) rfl rfl (oIdxS u9 hc27.1 hc27.2 tm tm) (s2 rfl rfl) <| cgB (decide_eq_false hp26) rfl rfl (oGt rfl tm (cI (by decide))) (s1 rfl) <| cp (oPkF (decide_eq_false hp26) tm tm) (s2 rfl rfl) <| .nil) (by kernel_rfl) ?_
          exact pJ1 _ (so h) ⟨rfl, rfl, rfl, trivial⟩ rfl
      · rintro x24 rfl
        replace h := hk2
        rcases ic h with ⟨hp28, h⟩ | ⟨hp28, h⟩
        · refine wBT hp28 tm (s1 rfl) ?_
          refine wSeq ?_
          refine rg (cp (oAs cB) trivial <| .nil) (by kernel_rfl) ?_
          refine pSeq ?_
          refine wRet ?_
          refine pBlkR ?_
          refine pThenR ?_
          refine pThenR ?_
          refine pBlkR ?_
          refine pThenR ?_
          obtain rfl := so h
          replace h := hk1
          refine pThenR ?_
          obtain rfl := so h
          exact pR1 (.inl rfl) rfl (.tmp rfl <| .nil)
        · refine wBF hp28 tm (s1 rfl) ?_
          refine wSkip ?_
          refine pBlkN ?_
          refine pSeq ?_
          refine rg (cp (oMv tm) (s1 rfl) <| cp (oAdd tm (cI (by decide))) (s1 rfl) <| cp (oAs tm) (s1 rfl) <| .nil) (by kernel_rfl) ?_
          exact pLoop (lW (ih _ h) ⟨rfl, rfl, trivial⟩ rfl)
    · refine wCF hp20 tm (s1 rfl) ?_
      refine wExit ?_
      refine pThenX ?_
      refine pThenX ?_
      refine pBlkX ?_
      exact pJ0 (so h) ⟨rfl, trivial⟩ rfl
  · rintro rfl
    replace h := hk1
    refine pSeq ?_
    obtain ⟨o1, h, hk1⟩ := bd h
    refine wJ1 (fun x30 => x30 = o1) (fun x30 => [(2, .d (kB.sig x30))]) (fun x30 => []) ?_ ?_
    · rcases ic h with ⟨hp31, h⟩ | ⟨hp31, h⟩
      · refine rg (cp (oMv tm) (s1 rfl) <| cp (oLenS u9 tm) (s1 rfl) <| cp (oGt rfl tm (cI (by decide))) (s1 rfl) <| cp (oMv tm) (s1 rfl) <| cgB (decide_eq_true hp31) rfl rfl (oMv tm) (s1 rfl) <| cgB (decide_eq_true hp31) rfl rfl (oLenS u9 tm) (s1 rfl) <| cgB (decide_eq_true hp31) rfl rfl (oLe rfl tm (cI (by decide))) (s1 rfl) <| cp (oPkT (decide_eq_true hp31) tm tm) (s2 rfl rfl) <| cp (oAs tm) (s1 rfl) <| .nil) (by kernel_rfl) ?_
        exact pJ1 _ (so h) ⟨rfl, trivial⟩ rfl
      · refine rg (cp (oMv tm) (s1 rfl) <| cp (oLenS u9 tm) (s1 rfl) <| cp (oGt rfl tm (cI (by decide))) (s1 rfl) <| cp (oMv tm) (s1 rfl) <| csB (decide_eq_false hp31) rfl rfl <| csB (decide_eq_false hp31) rfl rfl <| csB (decide_eq_false hp31) rfl rfl <| cp (oPkF (decide_eq_false hp31) tm cB) (s1 rfl) <| cp (oAs tm) (s1 rfl) <| .nil) (by kernel_rfl) ?_
        exact pJ1 _ (so h) ⟨rfl, trivial⟩ rfl
    · rintro x30 rfl
      replace h := hk1
      refine wRet ?_
      obtain rfl := so h
      exact pR1 (.inl rfl) rfl (.tmp rfl <| .nil)
theorem reticentref01_high.ok {a0 : Int} {a1 : Int} {r : Bool} (h : reticentref01_high.f a0 a1 = some r) : FnA Tryz.prog 135 [(kI .u32).sig a0, (kI .i64).sig a1] (kB.sig r) := by
  refine fnIntro Tryz.func135 rfl (by kernel_rfl) fun H0 w0 => ?_
  unfold reticentref01_high.f at h
  refine wSeq ?_
  refine rg (cp (oAs cB) trivial <| .nil) (by kernel_rfl) ?_
  refine pSeq ?_
  refine wSeq ?_
  refine wSeq ?_
  refine rg (cp (oAs (cI (by decide))) trivial <| .nil) (by kernel_rfl) ?_
  refine pSeq ?_
  obtain ⟨o1, h, hk1⟩ := bd h
  refine wK1 (fun x5 => x5 = o1) (fun x5 => [(0, .d ((kI .u32).sig x5))]) (fun x5 => []) ?_ ?_
  · refine wBlock (wLoop ?_)
    refine lW (pc2 o1 (fun v3 v4 => [(0, .d ((kI .u32).sig v3)), (1, .d ((kI .i64).sig a1)), (5, .d ((kI .i64).sig v4))]) (fun v3 v4 => []) (reticentref01_high.l0.partial_correctness a1) ?_ _ _ h) ⟨rfl, rfl, rfl, trivial⟩ rfl
    clear h
    intro f' ih v3 v4 h
    refine wSeq ?_
    refine wSeq ?_
    refine rg (cp (oMv tm) (s1 rfl) <| cp (oMv tm) (s1 rfl) <| cp (oLt rfl tm tm) (s2 rfl rfl) <| .nil) (by kernel_rfl) ?_
    refine pSeq ?_
    rcases ic h with ⟨hp6, h⟩ | ⟨hp6, h⟩
    · refine wCT hp6 tm (s1 rfl) ?_
      refine wSkip ?_
      refine pSeq ?_
      refine wSeq ?_
      refine wBlock ?_
      refine rg (cp (oMv tm) (s1 rfl) <| cp (oQuo (by decide) tm (cI (by decide))) (s1 rfl) <| cp (oAs tm) (s1 rfl) <| .nil) (by kernel_rfl) ?_
      refine pBlkN ?_
      refine pSeq ?_
      refine rg (cp (oMv tm) (s1 rfl) <| cp (oAdd tm (cI (by decide))) (s1 rfl) <| cp (oAs tm) (s1 rfl) <| .nil) (by kernel_rfl) ?_
      exact pLoop (lW (ih _ _ h) ⟨rfl, rfl, rfl, trivial⟩ rfl)
    · refine wCF hp6 tm (s1 rfl) ?_
      refine wExit ?_
      refine pThenX ?_
      refine pThenX ?_
      refine pBlkX ?_
      exact pJ1 _ (so h) ⟨rfl, trivial⟩ rfl
  · rintro x5 rfl
    replace h := hk1
    refine pSeq ?_
    refine wSeq ?_
    refine rg (cp (oMv tm) (s1 rfl) <| cp (oGt rfl tm (cI (by decide))) (s1 rfl) <| cp (oAs tm) (s1 rfl) <| .nil) (by kernel_rfl) ?_
    refine pSeq ?_
    refine wRet ?_
    obtain rfl := so h
    exact pR1 (.inl rfl) rfl (.tmp rfl <| .nil)
theorem reticentref01_may.ok {a0 : api_Lattice} {r : Bool} (h : reticentref01_may.f a0 = some r) : FnA Tryz.prog 60 [(kR f_api_Lattice).sig a0] (kB.sig r) := by
  refine fnIntro Tryz.func60 rfl (by kernel_rfl) fun H0 w0 => ?_
  unfold reticentref01_may.f at h
  refine wSeq ?_
  refine rg (cp (oBox tm) (s1 rfl) <| cp (oAs cB) trivial <| .nil) (by kernel_rfl) ?_
  refine pSeq ?_
  refine wSeq ?_
  obtain ⟨o1, h, hk1⟩ := bd h
  refine wJ1 (fun x3 => x3 = o1) (fun x3 => [(1, .d (sP (kR f_api_Lattice) a0)), (25, .d (kB.sig x3))]) (fun x3 => []) ?_ ?_
  · rcases ic h with ⟨hp4, h⟩ | ⟨hp4, h⟩
    · refine rg (cp (oFld (fs := f_api_Lattice) (k := 1) rfl o25_1 tm) (s1 rfl) <| cp (oLd t23 tm) (s1 rfl) <| cp (oLenL u23 tm) (s1 rfl) <| cp (oLt rfl tm (cI (by decide))) (s1 rfl) <| cp (oMv tm) (s1 rfl) <| csB (decide_eq_true hp4) rfl rfl <| csB (decide_eq_true hp4) rfl rfl <| csB (decide_eq_true hp4) rfl rfl <| csB (decide_eq_true hp4) rfl rfl <| cp (oPkT (decide_eq_true hp4) tm cB) (s1 rfl) <| cp (oMv tm) (s1 rfl) <| csB rfl rfl rfl <| csB rfl rfl rfl <| csB rfl rfl rfl <| csB rfl rfl rfl <| csB rfl rfl rfl <| csB rfl rfl rfl <| csB rfl rfl rfl <| cp (oPkT rfl tm cB) (s1 rfl) <| .nil) (by kernel_rfl) ?_
      exact pJ1 _ (so h) ⟨rfl, rfl, trivial⟩ rfl
    · rcases ic h with ⟨hp5, h⟩ | ⟨hp5, h⟩
      · refine rg (cp (oFld (fs := f_api_Lattice) (k := 1) rfl o25_1 tm) (s1 rfl) <| cp (oLd t23 tm) (s1 rfl) <| cp (oLenL u23 tm) (s1 rfl) <| cp (oLt rfl tm (cI (by decide))) (s1 rfl) <| cp (oMv tm) (s1 rfl) <| cgB (decide_eq_false hp4) rfl rfl (oFld (fs := f_api_Lattice) (k := 1) rfl o25_1 tm) (s1 rfl) <| cgB (decide_eq_false hp4) rfl rfl (oLd t23 tm) (s1 rfl) <| cgB (decide_eq_false hp4) rfl rfl (oLenL u23 tm) (s1 rfl) <| cgB (decide_eq_false hp4) rfl rfl (oGt rfl tm (cI (by decide))) (s1 rfl) <| cp (oPkF (decide_eq_false hp4) tm tm) (s2 rfl rfl) <| cp (oMv tm) (s1 rfl) <| csB (decide_eq_true hp5) rfl rfl <| csB (decide_eq_true hp5) rfl rfl <| csB (decide_eq_true hp5) rfl rfl <| csB (decide_eq_true hp5) rfl rfl <| csB (decide_eq_true hp5) rfl rfl <| csB (decide_eq_true hp5) rfl rfl <| csB (decide_eq_true hp5) rfl rfl <| cp (oPkT (decide_eq_true hp5) tm cB) (s1 rfl) <| .nil) (by kernel_rfl) ?_
        exact pJ1 _ (so h) ⟨rfl, rfl, trivial⟩ rfl
      · refine rg (cp (oFld (fs := f_api_Lattice) (k := 1) rfl o25_1 tm) (s1 rfl) <| cp (oLd t23 tm) (s1 rfl) <| cp (oLenL u23 tm) (s1 rfl) <| cp (oLt rfl tm (cI (by decide))) (s1 rfl) <| cp (oMv tm) (s1 rfl) <| cgB (decide_eq_false hp4) rfl rfl (oFld (fs := f_api_Lattice) (k := 1) rfl o25_1 tm) (s1 rfl) <| cgB (decide_eq_false hp4) rfl rfl (oLd t23 tm) (s1 rfl) <| cgB (decide_eq_false hp4) rfl rfl (oLenL u23 tm) (s1 rfl) <| cgB (decide_eq_false hp4) rfl rfl (oGt rfl tm (cI (by decide))) (s1 rfl) <| cp (oPkF (decide_eq_false hp4) tm tm) (s2 rfl rfl) <| cp (oMv tm) (s1 rfl) <| cgB (decide_eq_false hp5) rfl rfl (oFld (fs := f_api_Lattice) (k := 0) rfl o25_0 tm) (s1 rfl) <| cgB (decide_eq_false hp5) rfl rfl (oLd t22 tm) (s1 rfl) <| cgB (decide_eq_false hp5) rfl rfl (oLenL u22 tm) (s1 rfl) <| cgB (decide_eq_false hp5) rfl rfl (oFld (fs := f_api_Lattice) (k := 1) rfl o25_1 tm) (s1 rfl) <| cgB (decide_eq_false hp5) rfl rfl (oLd t23 tm) (s1 rfl) <| cgB (decide_eq_false hp5) rfl rfl (oLenL u23 tm) (s1 rfl) <| cgB (decide_eq_false hp5) rfl rfl (oNe rfl tm tm) (s2 rfl rfl) <| cp (oPkF (decide_eq_false hp5) tm tm) (s2 rfl rfl) <| .nil) (by kernel_rfl) ?_
        exact pJ1 _ (so h) ⟨rfl, rfl, trivial⟩ rfl
  · rintro x3 rfl
    replace h := hk1
    rcases ic h with ⟨hp6, h⟩ | ⟨hp6, h⟩
    · refine wBT hp6 tm (s1 rfl) ?_
      refine wSeq ?_
      refine rg (cp (oAs cB) trivial <| .nil) (by kernel_rfl) ?_
      refine pSeq ?_
      refine wRet ?_
      refine pThenR ?_
      obtain rfl := so h
      exact pR1 (.inl rfl) rfl (.tmp rfl <| .nil)
    · refine wBF hp6 tm (s1 rfl) ?_
      refine wSkip ?_
      refine pSeq ?_
      refine wSeq ?_
      refine wSeq ?_
      refine rg (cp (oFld (fs := f_api_Lattice) (k := 0) rfl o25_0 tm) (s1 rfl) <| cp (oLd t22 tm) (s1 rfl) <| cp (oLenL u22 tm) (s1 rfl) <| cp (oMv (cI (by decide))) trivial <| .nil) (by kernel_rfl) ?_
      refine pSeq ?_
      obtain ⟨o1, h, hk1⟩ := bd h
      refine wK0 (.inr () = o1) ([]) ([]) ?_ ?_
      · refine wBlock (wLoop ?_)
        refine lW (pc1 o1 (fun v53 => [(1, .d (sP (kR f_api_Lattice) a0)), (27, .d ((kL kS).sig a0.Names)), (28, .d ((kI .i64).sig (a0.Names.length : Int))), (29, .d ((kI .i64).sig v53))]) (fun v53 => []) (reticentref01_may.l2.partial_correctness a0) ?_ _ h) ⟨rfl, rfl, rfl, rfl, trivial⟩ rfl
        clear h
        intro f' ih v53 h
        refine wSeq ?_
        refine rg (cp (oLt rfl tm tm) (s2 rfl rfl) <| .nil) (by kernel_rfl) ?_
        refine pSeq ?_
        refine wSeq ?_
        rcases ic h with ⟨hp54, h⟩ | ⟨hp54, h⟩
        · refine wCT hp54 tm (s1 rfl) ?_
          refine wSkip ?_
          refine pSeq ?_
          refine wSeq ?_
          refine wBlock ?_
          refine wSeq ?_
          obtain ⟨y55, hy55, h⟩ := bd h
          refine rg (cp (oMv tm) (s1 rfl) <| cp (oIdx u22 z9 hy55 tm tm) (s2 rfl rfl) <| cp (oLd t9 tm) (s1 rfl) <| cp (oAs tm) (s1 rfl) <| cp (oAs tm) (s1 rfl) <| .nil) (by kernel_rfl) ?_
          refine pSeq ?_
          refine wSeq ?_
          obtain ⟨o2, h, hk2⟩ := bd h
          refine wJ1 (fun x60 => x60 = o2) (fun x60 => [(1, .d (sP (kR f_api_Lattice) a0)), (3, .d ((kI .i64).sig v53)), (4, .d (kS.sig y55)), (27, .d ((kL kS).sig a0.Names)), (28, .d ((kI .i64).sig (a0.Names.length : Int))), (29, .d ((kI .i64).sig v53)), (47, .d (kB.sig x60))]) (fun x60 => []) ?_ ?_
          · obtain ⟨y61, hy61, h⟩ := bd h
            rcases ic h with ⟨hp62, h⟩ | ⟨hp62, h⟩
            · refine rgD hm (cp (oMv tm) (s1 rfl) <| cp (oCall rfl (reticentref01_Name.ok hy61) b134 (opds_cons tm opds_nil)) (s1 rfl) <| cp (oNot tm) (s1 rfl) <| cp (oMv tm) (s1 rfl) <| csB hp62 rfl rfl <| csB hp62 rfl rfl <| csB hp62 rfl rfl <| csB hp62 rfl rfl <| csB hp62 rfl rfl <| csB hp62 rfl rfl <| csB hp62 rfl rfl <| csB hp62 rfl rfl <| csB hp62 rfl rfl <| cp (oPkT hp62 tm cB) (s1 rfl) <| .nil) (by kernel_rfl) (by kernel_rfl) ?_
              exact pJ1 _ (so h) ⟨rfl, rfl, rfl, rfl, rfl, rfl, rfl, trivial⟩ rfl
            · obtain ⟨y63, hy63, h⟩ := bd h
              obtain ⟨y64, hy64, h⟩ := bd h
              refine rgD hm (cp (oMv tm) (s1 rfl) <| cp (oCall rfl (reticentref01_Name.ok hy61) b134 (opds_cons tm opds_nil)) (s1 rfl) <| cp (oNot tm) (s1 rfl) <| cp (oMv tm) (s1 rfl) <| cgB (nb hp62) rfl rfl (oFld (fs := f_api_Lattice) (k := 1) rfl o25_1 tm) (s1 rfl) <| cgB (nb hp62) rfl rfl (oLd t23 tm) (s1 rfl) <| cgB (nb hp62) rfl rfl (oMv tm) (s1 rfl) <| cgB (nb hp62) rfl rfl (oIdx u23 z99 hy63 tm tm) (s2 rfl rfl) <| cgB (nb hp62) rfl rfl (oLd t99 tm) (s1 rfl) <| cgB (nb hp62) rfl rfl (oFld (fs := f_api_Lattice) (k := 1) rfl o25_1 tm) (s1 rfl) <| cgB (nb hp62) rfl rfl (oLd t23 tm) (s1 rfl) <| cgB (nb hp62) rfl rfl (oLenL u23 tm) (s1 rfl) <| cgB (nb hp62) rfl rfl (oCall rfl (reticentref01_high.ok hy64) b135 (opds_cons tm (opds_cons tm opds_nil))) (s2 rfl rfl) <| cp (oPkF (nb hp62) tm tm) (s2 rfl rfl) <| .nil) (by kernel_rfl) (by kernel_rfl) ?_
              exact pJ1 _ (so h) ⟨rfl, rfl, rfl, rfl, rfl, rfl, rfl, trivial⟩ rfl
          · rintro x60 rfl
            replace h := hk2
            rcases ic h with ⟨hp65, h⟩ | ⟨hp65, h⟩
            · refine wBT hp65 tm (s1 rfl) ?_
              refine wSeq ?_
              refine rg (cp (oAs cB) trivial <| .nil) (by kernel_rfl) ?_
              refine pSeq ?_
              refine wRet ?_
              refine pThenR ?_
              refine pBlkR ?_
              refine pThenR ?_
              refine pThenR ?_
              refine pBlkR ?_
              refine pThenR ?_
              obtain rfl := so h
              replace h := hk1
              refine pThenR ?_
              obtain rfl := so h
              exact pR1 (.inl rfl) rfl (.tmp rfl <| .nil)
            · refine wBF hp65 tm (s1 rfl) ?_
              refine wSkip ?_
              refine pSeq ?_
              refine wSeq ?_
              obtain ⟨hc66, h⟩ := ib h
              refine rg (cp (oFld (fs := f_api_Lattice) (k := 0) rfl o25_0 tm) (s1 rfl) <| cp (oLd t22 tm) (s1 rfl) <| cp (oMv tm) (s1 rfl) <| cp (oCutHi u22 z9 hc66.1 hc66.2 tm tm) (s2 rfl rfl) <| cp (oLenL u22 tm) (s1 rfl) <| cp (oMv (cI (by decide))) trivial <| .nil) (by kernel_rfl) ?_
              refine pSeq ?_
              obtain ⟨o2, h, hk2⟩ := bd h
              refine wK0 (.inr () = o2) ([(1, .d (sP (kR f_api_Lattice) a0)), (27, .d ((kL kS).sig a0.Names)), (28, .d ((kI .i64).sig (a0.Names.length : Int))), (29, .d ((kI .i64).sig v53))]) ([]) ?_ ?_
              · refine wBlock (wLoop ?_)
                refine lW (pc1 o2 (fun v73 => [(1, .d (sP (kR f_api_Lattice) a0)), (4, .d (kS.sig y55)), (27, .d ((kL kS).sig a0.Names)), (28, .d ((kI .i64).sig (a0.Names.length : Int))), (29, .d ((kI .i64).sig v53)), (51, .d ((kL kS).sig (lCut a0.Names 0 v53))), (52, .d ((kI .i64).sig ((lCut a0.Names 0 v53).length : Int))), (53, .d ((kI .i64).sig v73))]) (fun v73 => []) (reticentref01_may.l3.partial_correctness a0 v53 y55) ?_ _ h) ⟨rfl, rfl, rfl, rfl, rfl, rfl, rfl, rfl, trivial⟩ rfl
                clear h
                intro f' ih v73 h
                refine wSeq ?_
                refine rg (cp (oLt rfl tm tm) (s2 rfl rfl) <| .nil) (by kernel_rfl) ?_
                refine pSeq ?_
                refine wSeq ?_
                rcases ic h with ⟨hp74, h⟩ | ⟨hp74, h⟩
                · refine wCT hp74 tm (s1 rfl) ?_
                  refine wSkip ?_
                  refine pSeq ?_
                  refine wSeq ?_
                  refine wBlock ?_
                  refine wSeq ?_
                  obtain ⟨y75, hy75, h⟩ := bd h
                  refine rg (cp (oIdx u22 z9 hy75 tm tm) (s2 rfl rfl) <| cp (oLd t9 tm) (s1 rfl) <| cp (oAs tm) (s1 rfl) <| .nil) (by kernel_rfl) ?_
                  refine pSeq ?_
                  refine wSeq ?_
                  refine rg (cp (oMv tm) (s1 rfl) <| cp (oMv tm) (s1 rfl) <| cp (oSEq rfl tm tm) (s2 rfl rfl) <| .nil) (by kernel_rfl) ?_
                  refine pSeq ?_
                  rcases ic h with ⟨hp76, h⟩ | ⟨hp76, h⟩
                  · refine wCT hp76 tm (s1 rfl) ?_
                    refine wSeq ?_
                    refine rg (cp (oAs cB) trivial <| .nil) (by kernel_rfl) ?_
                    refine pSeq ?_
                    refine wRet ?_
                    refine pBlkR ?_
                    refine pThenR ?_
                    refine pThenR ?_
                    refine pBlkR ?_
                    refine pThenR ?_
                    obtain rfl := so h
                    replace h := hk2
                    refine pBlkR ?_
                    refine pThenR ?_
                    refine pThenR ?_
                    refine pBlkR ?_
                    refine pThenR ?_
                    obtain rfl := so h
                    replace h := hk1
                    refine pThenR ?_
                    obtain rfl := so h
                    exact pR1 (.inl rfl) rfl (.tmp rfl <| .nil)
                  · refine wCF hp76 tm (s1 rfl) ?_
                    refine wSkip ?_
                    refine pBlkN ?_
                    refine pSeq ?_
                    refine rg (cp (oAdd tm (cI (by decide))) (s1 rfl) <| cp (oMv tm) (s1 rfl) <| .nil) (by kernel_rfl) ?_
                    exact pLoop (lW (ih _ h) ⟨rfl, rfl, rfl, rfl, rfl, rfl, rfl, rfl, trivial⟩ rfl)
                · refine wCF hp74 tm (s1 rfl) ?_
                  refine wExit ?_
                  refine pThenX ?_
                  refine pThenX ?_
                  refine pBlkX ?_
                  exact pJ0 (so h) ⟨rfl, rfl, rfl, rfl, trivial⟩ rfl
              · rintro rfl
                replace h := hk2
                refine pBlkN ?_
                refine pSeq ?_
                refine rg (cp (oAdd tm (cI (by decide))) (s1 rfl) <| cp (oMv tm) (s1 rfl) <| .nil) (by kernel_rfl) ?_
                exact pLoop (lW (ih _ h) ⟨rfl, rfl, rfl, rfl, trivial⟩ rfl)
        · refine wCF hp54 tm (s1 rfl) ?_
          refine wExit ?_
          refine pThenX ?_
          refine pThenX ?_
          refine pBlkX ?_
          exact pJ0 (so h) trivial rfl
      · rintro rfl
        replace h := hk1
        refine pSeq ?_
        refine wSeq ?_
        refine rg (cp (oAs cB) trivial <| .nil) (by kernel_rfl) ?_
        refine pSeq ?_
        refine wRet ?_
        obtain rfl := so h
        exact pR1 (.inl rfl) rfl (.tmp rfl <| .nil)
theorem reticentref01_Flows.ok {a0 : api_Lattice} {a1 : Int} {a2 : Int} {r : Bool} (h : reticentref01_Flows.f a0 a1 a2 = some r) : FnA Tryz.prog 136 [(kR f_api_Lattice).sig a0, (kI .i64).sig a1, (kI .i64).sig a2] (kB.sig r) := by
  refine fnIntro Tryz.func136 rfl (by kernel_rfl) fun H0 w0 => ?_
  unfold reticentref01_Flows.f at h
  refine wSeq ?_
  refine rg (cp (oBox tm) (s1 rfl) <| cp (oAs cB) trivial <| .nil) (by kernel_rfl) ?_
  refine pSeq ?_
  refine wSeq ?_
  obtain ⟨y1, hy1, h⟩ := bd h
  refine rg (cp (oFld (fs := f_api_Lattice) (k := 1) rfl o25_1 tm) (s1 rfl) <| cp (oLd t23 tm) (s1 rfl) <| cp (oMv tm) (s1 rfl) <| cp (oIdx u23 z99 hy1 tm tm) (s2 rfl rfl) <| cp (oLd t99 tm) (s1 rfl) <| cp (oAs tm) (s1 rfl) <| .nil) (by kernel_rfl) ?_
  refine pSeq ?_
  refine wSeq ?_
  refine wSeq ?_
  refine rg (cp (oAs (cI (by decide))) trivial <| .nil) (by kernel_rfl) ?_
  refine pSeq ?_
  obtain ⟨o1, h, hk1⟩ := bd h
  refine wK1 (fun x6 => x6 = o1) (fun x6 => [(7, .d ((kI .u32).sig x6))]) (fun x6 => []) ?_ ?_
  · refine wBlock (wLoop ?_)
    refine lW (pc2 o1 (fun v4 v5 => [(2, .d ((kI .i64).sig a2)), (7, .d ((kI .u32).sig v4)), (8, .d ((kI .i64).sig v5))]) (fun v4 v5 => []) (reticentref01_Flows.l0.partial_correctness a2) ?_ _ _ h) ⟨rfl, rfl, rfl, trivial⟩ rfl
    clear h
    intro f' ih v4 v5 h
    refine wSeq ?_
    refine wSeq ?_
    refine rg (cp (oMv tm) (s1 rfl) <| cp (oMv tm) (s1 rfl) <| cp (oLt rfl tm tm) (s2 rfl rfl) <| .nil) (by kernel_rfl) ?_
    refine pSeq ?_
    rcases ic h with ⟨hp7, h⟩ | ⟨hp7, h⟩
    · refine wCT hp7 tm (s1 rfl) ?_
      refine wSkip ?_
      refine pSeq ?_
      refine wSeq ?_
      refine wBlock ?_
      refine rg (cp (oMv tm) (s1 rfl) <| cp (oQuo (by decide) tm (cI (by decide))) (s1 rfl) <| cp (oAs tm) (s1 rfl) <| .nil) (by kernel_rfl) ?_
      refine pBlkN ?_
      refine pSeq ?_
      refine rg (cp (oMv tm) (s1 rfl) <| cp (oAdd tm (cI (by decide))) (s1 rfl) <| cp (oAs tm) (s1 rfl) <| .nil) (by kernel_rfl) ?_
      exact pLoop (lW (ih _ _ h) ⟨rfl, rfl, rfl, trivial⟩ rfl)
    · refine wCF hp7 tm (s1 rfl) ?_
      refine wExit ?_
      refine pThenX ?_
      refine pThenX ?_
      refine pBlkX ?_
      exact pJ1 _ (so h) ⟨rfl, trivial⟩ rfl
  · rintro x6 rfl
    replace h := hk1
    refine pSeq ?_
    refine wSeq ?_
    refine rg (cp (oMv tm) (s1 rfl) <| cp (oRem (by decide) tm (cI (by decide))) (s1 rfl) <| cp (oEq rfl tm (cI (by decide))) (s1 rfl) <| cp (oAs tm) (s1 rfl) <| .nil) (by kernel_rfl) ?_
    refine pSeq ?_
    refine wRet ?_
    obtain rfl := so h
    exact pR1 (.inl rfl) rfl (.tmp rfl <| .nil)
end Go.Proofs.YtkmobcaobmchpaaGreatDoor.SR
