import Derived.Test.YtkmobcaobmchpaaDoorShelf
import Derived.Test.YtkmobcaobmchpaaDoorWCKp1
import Derived.Test.YtkmobcaobmchpaaDoorProg
set_option linter.unusedVariables false
set_option maxRecDepth 10000
set_option maxHeartbeats 2000000
namespace Go.Proofs.YtkmobcaobmchpaaDoor.CK
open Go Go.Proofs.YtkmobcaobmchpaaDoor.Ab

theorem code_reader_one.ok {a0 : code_reader} {a1 : Int} {r : code_reader × api_Instr} (h : code_reader_one.f a0 a1 = some r) : FnS Tryd.prog 91 [.p 70000 0, .d ((kI .i64).sig a1)] [.box 70000 138 [.d (kL kS) a0.l_.Names, .d (kL (kI .u32)) a0.l_.Up, .d (kL (kR f_api_Tok)) a0.toks_, .d (kI .i64) a0.i_, .d (kI .i64) a0.bad_]] [70000] (.d ((kR f_api_Instr).sig r.2)) [.box 70000 138 [.d (kL kS) r.1.l_.Names, .d (kL (kI .u32)) r.1.l_.Up, .d (kL (kR f_api_Tok)) r.1.toks_, .d (kI .i64) r.1.i_, .d (kI .i64) r.1.bad_]] := by
  refine fnIntroS Tryd.func91 rfl (by kernel_rfl) fun X H0 w0 pv => ?_
  unfold code_reader_one.f at h
  refine wSeq ?_
  refine rg (cw (oAlloc (id := 4) (ls := [.d (kI .i64) 0, .d (kI .i64) 0, .d (kI .i64) 0]) ze78 (fun g => ⟨[(.int .i64 0)], _, rfl, zI_i64 g.H, ⟨[(.int .i64 0)], _, rfl, zI_i64 g.H, ⟨[(.int .i64 0)], _, rfl, zI_i64 g.H, rfl⟩⟩⟩)) trivial <| .nil) (by kernel_rfl) ?_
  refine pSeq ?_
  refine wSeq ?_
  refine rg (cp (oMv tm) (s1 rfl) <| cp (oNilP tm) (s1 rfl) <| cp (oFldP o138_2 tm) (s1 rfl) <| cr (oLdB (n := 1) (k := 3) rfl rfl rfl t3 tm) (s1 rfl) <| cp (oAs tm) (s1 rfl) <| .nil) (by kernel_rfl) ?_
  refine pSeq ?_
  refine wSeq ?_
  refine rg (cp (oMv tm) (s1 rfl) <| cp (oBuild (fs := f_api_Instr) (u := ⟨a1, 0, 0⟩) rfl ze78 pl78 po78 (.op (zc := [(.int .i64 0)]) tm rfl (.ze (zc := [(.int .i64 0)]) zI_i64 (.ze (zc := [(.int .i64 0)]) zI_i64 .nil)))) (s1 rfl) <| cw (oAlloc (id := 6) (ls := [.d (kI .i64) 0, .d (kI .i64) 0, .d (kI .i64) 0]) ze78 (fun g => ⟨[(.int .i64 0)], _, rfl, zI_i64 g.H, ⟨[(.int .i64 0)], _, rfl, zI_i64 g.H, ⟨[(.int .i64 0)], _, rfl, zI_i64 g.H, rfl⟩⟩⟩)) trivial <| cwn (oStA (n := 0) (fs := f_api_Instr) rfl rfl z78 tm tm) (s2 rfl rfl) <| .nil) (by kernel_rfl) ?_
  refine pSeq ?_
  refine wSeq ?_
  refine wSeq ?_
  refine rg (cp (oMv tm) (s1 rfl) <| cp (oNilP tm) (s1 rfl) <| cp (oFldP o138_2 tm) (s1 rfl) <| cr (oLdB (n := 2) (k := 3) rfl rfl rfl t3 tm) (s1 rfl) <| cp (oAdd tm (cI (by decide))) (s1 rfl) <| cp (oNilP tm) (s1 rfl) <| cp (oFldP o138_2 tm) (s1 rfl) <| cwn (oSt (n := 2) (k := 3) rfl rfl rfl rfl z3 tm tm) (s2 rfl rfl) <| .nil) (by kernel_rfl) ?_
  refine pSeq ?_
  refine wSeq ?_
  obtain ⟨y1, hy1, h⟩ := bd h
  refine rg (cp (oMv tm) (s1 rfl) <| cp (oCall rfl (code_number.ok hy1) b41 (opds_cons tm opds_nil)) (s1 rfl) <| .nil) (by kernel_rfl) ?_
  refine pSeq ?_
  rcases ic h with ⟨hp2, h⟩ | ⟨hp2, h⟩
  · refine wBT hp2 tm (s1 rfl) ?_
    obtain ⟨y3, hy3, h⟩ := bd h
    refine rg (cp (oMv tm) (s1 rfl) <| cm (oCallS (rest := [.box 6 78 [.d (kI .i64) a1, .d (kI .i64) 0, .d (kI .i64) 0], .box 4 78 [.d (kI .i64) 0, .d (kI .i64) 0, .d (kI .i64) 0]]) (R' := [.box 6 78 [.d (kI .i64) a1, .d (kI .i64) 0, .d (kI .i64) 0], .box 4 78 [.d (kI .i64) 0, .d (kI .i64) 0, .d (kI .i64) 0], .box 70000 138 [.d (kL kS) y3.1.l_.Names, .d (kL (kI .u32)) y3.1.l_.Up, .d (kL (kR f_api_Tok)) y3.1.toks_, .d (kI .i64) y3.1.i_, .d (kI .i64) y3.1.bad_]]) (out' := .d ((kI .i64).sig y3.2)) [(70000, 70000)] [] [2] [0, 1] [1, 2, 0] rfl (code_reader_number.ok hy3) b125 (oE1 tm oE0) rfl rfl rfl rfl rfl rfl rfl rfl) (s1 rfl) <| cp (oFldP o78_1 tm) (s1 rfl) <| cwn (oSt (n := 0) (k := 1) rfl rfl rfl rfl z3 tm tm) (s2 rfl rfl) <| .nil) (by kernel_rfl) ?_
    refine pSeq ?_
    refine wSeq ?_
    obtain ⟨o1, h, hk1⟩ := bd h
    refine wJ1 (fun x5 => x5 = o1) (fun x5 => [(0, .p 70000 0), (4, .p 4 0), (5, .d ((kI .i64).sig a0.i_)), (6, .p 6 0), (33, .d (kB.sig x5))]) (fun x5 => [.box 6 78 [.d (kI .i64) a1, .d (kI .i64) y3.2, .d (kI .i64) 0], .box 4 78 [.d (kI .i64) 0, .d (kI .i64) 0, .d (kI .i64) 0], .box 70000 138 [.d (kL kS) y3.1.l_.Names, .d (kL (kI .u32)) y3.1.l_.Up, .d (kL (kR f_api_Tok)) y3.1.toks_, .d (kI .i64) y3.1.i_, .d (kI .i64) y3.1.bad_]]) ?_ ?_
    · rcases ic h with ⟨hp6, h⟩ | ⟨hp6, h⟩
      · refine rg (cp (oMv tm) (s1 rfl) <| cp (oEq rfl tm (cI (by decide))) (s1 rfl) <| cp (oMv tm) (s1 rfl) <| cgB (decide_eq_true hp6) rfl rfl (oMv tm) (s1 rfl) <| cgB (decide_eq_true hp6) rfl rfl (oNilP tm) (s1 rfl) <| cgB (decide_eq_true hp6) rfl rfl (oFldP o138_3 tm) (s1 rfl) <| crgB (decide_eq_true hp6) rfl rfl (oLdB (n := 2) (k := 4) rfl rfl rfl t27 tm) (s1 rfl) <| cgB (decide_eq_true hp6) rfl rfl (oEq rfl tm (cI (by decide))) (s1 rfl) <| cp (oPkT (decide_eq_true hp6) tm tm) (s2 rfl rfl) <| .nil) (by kernel_rfl) ?_
        exact pJ1 _ (so h) ⟨rfl, rfl, rfl, rfl, rfl, trivial⟩ rfl
      · refine rg (cp (oMv tm) (s1 rfl) <| cp (oEq rfl tm (cI (by decide))) (s1 rfl) <| cp (oMv tm) (s1 rfl) <| csB (decide_eq_false hp6) rfl rfl <| csB (decide_eq_false hp6) rfl rfl <| csB (decide_eq_false hp6) rfl rfl <| csB (decide_eq_false hp6) rfl rfl <| csB (decide_eq_false hp6) rfl rfl <| cp (oPkF (decide_eq_false hp6) tm cB) (s1 rfl) <| .nil) (by kernel_rfl) ?_
        exact pJ1 _ (so h) ⟨rfl, rfl, rfl, rfl, rfl, trivial⟩ rfl
    · rintro x5 rfl
      replace h := hk1
      rcases ic h with ⟨hp7, h⟩ | ⟨hp7, h⟩
      · refine wBT hp7 tm (s1 rfl) ?_
        obtain ⟨y8, hy8, h⟩ := bd h
        refine rg (cp (oMv tm) (s1 rfl) <| cm (oCallS (rest := [.box 6 78 [.d (kI .i64) a1, .d (kI .i64) y3.2, .d (kI .i64) 0], .box 4 78 [.d (kI .i64) 0, .d (kI .i64) 0, .d (kI .i64) 0]]) (R' := [.box 6 78 [.d (kI .i64) a1, .d (kI .i64) y3.2, .d (kI .i64) 0], .box 4 78 [.d (kI .i64) 0, .d (kI .i64) 0, .d (kI .i64) 0], .box 70000 138 [.d (kL kS) y8.1.l_.Names, .d (kL (kI .u32)) y8.1.l_.Up, .d (kL (kR f_api_Tok)) y8.1.toks_, .d (kI .i64) y8.1.i_, .d (kI .i64) y8.1.bad_]]) (out' := .d ((kI .i64).sig y8.2)) [(70000, 70000)] [] [2] [0, 1] [1, 2, 0] rfl (code_reader_label.ok hy8) b126 (oE1 tm oE0) rfl rfl rfl rfl rfl rfl rfl rfl) (s1 rfl) <| cp (oFldP o78_2 tm) (s1 rfl) <| cwn (oSt (n := 0) (k := 2) rfl rfl rfl rfl z3 tm tm) (s2 rfl rfl) <| .nil) (by kernel_rfl) ?_
        refine pSeq ?_
        refine wSeq ?_
        obtain ⟨y9, hy9, h⟩ := bd h
        refine rg (cp (oMv tm) (s1 rfl) <| cm (oCallS (rest := [.box 6 78 [.d (kI .i64) a1, .d (kI .i64) y3.2, .d (kI .i64) y8.2], .box 4 78 [.d (kI .i64) 0, .d (kI .i64) 0, .d (kI .i64) 0]]) (R' := [.box 6 78 [.d (kI .i64) a1, .d (kI .i64) y3.2, .d (kI .i64) y8.2], .box 4 78 [.d (kI .i64) 0, .d (kI .i64) 0, .d (kI .i64) 0], .box 70000 138 [.d (kL kS) y9.l_.Names, .d (kL (kI .u32)) y9.l_.Up, .d (kL (kR f_api_Tok)) y9.toks_, .d (kI .i64) y9.i_, .d (kI .i64) y9.bad_]]) (out' := .d (tup [])) [(70000, 70000)] [] [2] [0, 1] [1, 2, 0] rfl (code_reader_mark.ok hy9) b127 (oE1 tm (oE1 (cS (by decide)) oE0)) rfl rfl rfl rfl rfl rfl rfl rfl) (s1 rfl) <| .nil) (by kernel_rfl) ?_
        refine pSeq ?_
        refine wSeq ?_
        obtain ⟨o1, h, hk1⟩ := bd h
        refine wJ1 (fun x12 => x12 = o1) (fun x12 => [(0, .p 70000 0), (4, .p 4 0), (5, .d ((kI .i64).sig a0.i_)), (6, .p 6 0), (54, .d (kB.sig x12))]) (fun x12 => [.box 6 78 [.d (kI .i64) a1, .d (kI .i64) y3.2, .d (kI .i64) y8.2], .box 4 78 [.d (kI .i64) 0, .d (kI .i64) 0, .d (kI .i64) 0], .box 70000 138 [.d (kL kS) y9.l_.Names, .d (kL (kI .u32)) y9.l_.Up, .d (kL (kR f_api_Tok)) y9.toks_, .d (kI .i64) y9.i_, .d (kI .i64) y9.bad_]]) ?_ ?_
        · rcases ic h with ⟨hp13, h⟩ | ⟨hp13, h⟩
          · obtain ⟨y14, hy14, h⟩ := bd h
            refine rgD hm (cp (oMv tm) (s1 rfl) <| cp (oNilP tm) (s1 rfl) <| cp (oFldP o138_3 tm) (s1 rfl) <| cr (oLdB (n := 2) (k := 4) rfl rfl rfl t27 tm) (s1 rfl) <| cp (oEq rfl tm (cI (by decide))) (s1 rfl) <| cp (oMv tm) (s1 rfl) <| cgB (decide_eq_true hp13) rfl rfl (oMv tm) (s1 rfl) <| cgB (decide_eq_true hp13) rfl rfl (oNilP tm) (s1 rfl) <| cgB (decide_eq_true hp13) rfl rfl (oFldP o138_0 tm) (s1 rfl) <| cgB (decide_eq_true hp13) rfl rfl (oFldP o38_1 tm) (s1 rfl) <| crgB (decide_eq_true hp13) rfl rfl (oLdB (n := 2) (k := 1) rfl rfl rfl t36 tm) (s1 rfl) <| cgB (decide_eq_true hp13) rfl rfl (oLenL u36 tm) (s1 rfl) <| crgB (decide_eq_true hp13) rfl rfl (oLdA (n := 0) (fs := f_api_Instr) (u := ⟨a1, y3.2, y8.2⟩) rfl ⟨rfl, rfl, rfl, trivial⟩ t78 tm) (s1 rfl) <| cgB (decide_eq_true hp13) rfl rfl (oCall rfl (code_right.ok hy14) b49 (opds_cons tm (opds_cons tm opds_nil))) (s2 rfl rfl) <| cgB (decide_eq_true hp13) rfl rfl (oNot tm) (s1 rfl) <| cp (oPkT (decide_eq_true hp13) tm tm) (s2 rfl rfl) <| .nil) (by kernel_rfl) (by kernel_rfl) ?_
            exact pJ1 _ (so h) ⟨rfl, rfl, rfl, rfl, rfl, trivial⟩ rfl
          · refine rgD hm (cp (oMv tm) (s1 rfl) <| cp (oNilP tm) (s1 rfl) <| cp (oFldP o138_3 tm) (s1 rfl) <| cr (oLdB (n := 2) (k := 4) rfl rfl rfl t27 tm) (s1 rfl) <| cp (oEq rfl tm (cI (by decide))) (s1 rfl) <| cp (oMv tm) (s1 rfl) <| csB (decide_eq_false hp13) rfl rfl <| csB (decide_eq_false hp13) rfl rfl <| csB (decide_eq_false hp13) rfl rfl <| csB (decide_eq_false hp13) rfl rfl <| csB (decide_eq_false hp13) rfl rfl <| csB (decide_eq_false hp13) rfl rfl <| csB (decide_eq_false hp13) rfl rfl <| csB (decide_eq_false hp13) rfl rfl <| csB (decide_eq_false hp13) rfl rfl <| cp (oPkF (decide_eq_false hp13) tm cB) (s1 rfl) <| .nil) (by kernel_rfl) (by kernel_rfl) ?_
            exact pJ1 _ (so h) ⟨rfl, rfl, rfl, rfl, rfl, trivial⟩ rfl
        · rintro x12 rfl
          replace h := hk1
          rcases ic h with ⟨hp15, h⟩ | ⟨hp15, h⟩
          · refine wBT hp15 tm (s1 rfl) ?_
            refine wSeq ?_
            refine rg (cp (oMv tm) (s1 rfl) <| cp (oMv tm) (s1 rfl) <| cp (oNilP tm) (s1 rfl) <| cp (oFldP o138_2 tm) (s1 rfl) <| cwn (oSt (n := 2) (k := 3) rfl rfl rfl rfl z3 tm tm) (s2 rfl rfl) <| .nil) (by kernel_rfl) ?_
            refine pSeq ?_
            obtain ⟨y16, hy16, h⟩ := bd h
            refine rg (cp (oMv tm) (s1 rfl) <| cm (oCallS (rest := [.box 6 78 [.d (kI .i64) a1, .d (kI .i64) y3.2, .d (kI .i64) y8.2], .box 4 78 [.d (kI .i64) 0, .d (kI .i64) 0, .d (kI .i64) 0]]) (R' := [.box 6 78 [.d (kI .i64) a1, .d (kI .i64) y3.2, .d (kI .i64) y8.2], .box 4 78 [.d (kI .i64) 0, .d (kI .i64) 0, .d (kI .i64) 0], .box 70000 138 [.d (kL kS) y16.l_.Names, .d (kL (kI .u32)) y16.l_.Up, .d (kL (kR f_api_Tok)) y16.toks_, .d (kI .i64) y16.i_, .d (kI .i64) y16.bad_]]) (out' := .d (tup [])) [(70000, 70000)] [] [2] [0, 1] [1, 2, 0] rfl (code_reader_fail.ok hy16) b90 (oE1 tm (oE1 (cI (by decide)) oE0)) rfl rfl rfl rfl rfl rfl rfl rfl) (s1 rfl) <| .nil) (by kernel_rfl) ?_
            refine pSeq ?_
            refine wSeq ?_
            refine rg (cr (oLdA (n := 0) (fs := f_api_Instr) (u := ⟨a1, y3.2, y8.2⟩) rfl ⟨rfl, rfl, rfl, trivial⟩ t78 tm) (s1 rfl) <| cwn (oStA (n := 1) (fs := f_api_Instr) rfl rfl z78 tm tm) (s2 rfl rfl) <| .nil) (by kernel_rfl) ?_
            refine pSeq ?_
            refine wRet ?_
            obtain rfl := so h
            exact pS1 [2] rfl rfl (.inl rfl) rfl (.box (n := 1) (fs := f_api_Instr) (u := ⟨a1, y3.2, y8.2⟩) rfl rfl ⟨rfl, rfl, rfl, trivial⟩ t78 <| .nil)
          · refine wBF hp15 tm (s1 rfl) ?_
            refine wSkip ?_
            refine pSeq ?_
            refine wSeq ?_
            refine rg (cr (oLdA (n := 0) (fs := f_api_Instr) (u := ⟨a1, y3.2, y8.2⟩) rfl ⟨rfl, rfl, rfl, trivial⟩ t78 tm) (s1 rfl) <| cwn (oStA (n := 1) (fs := f_api_Instr) rfl rfl z78 tm tm) (s2 rfl rfl) <| .nil) (by kernel_rfl) ?_
            refine pSeq ?_
            refine wRet ?_
            obtain rfl := so h
            exact pS1 [2] rfl rfl (.inl rfl) rfl (.box (n := 1) (fs := f_api_Instr) (u := ⟨a1, y3.2, y8.2⟩) rfl rfl ⟨rfl, rfl, rfl, trivial⟩ t78 <| .nil)
      · refine wBF hp7 tm (s1 rfl) ?_
        refine wSkip ?_
        refine pSeq ?_
        refine wSeq ?_
        obtain ⟨y17, hy17, h⟩ := bd h
        refine rg (cp (oMv tm) (s1 rfl) <| cm (oCallS (rest := [.box 6 78 [.d (kI .i64) a1, .d (kI .i64) y3.2, .d (kI .i64) 0], .box 4 78 [.d (kI .i64) 0, .d (kI .i64) 0, .d (kI .i64) 0]]) (R' := [.box 6 78 [.d (kI .i64) a1, .d (kI .i64) y3.2, .d (kI .i64) 0], .box 4 78 [.d (kI .i64) 0, .d (kI .i64) 0, .d (kI .i64) 0], .box 70000 138 [.d (kL kS) y17.l_.Names, .d (kL (kI .u32)) y17.l_.Up, .d (kL (kR f_api_Tok)) y17.toks_, .d (kI .i64) y17.i_, .d (kI .i64) y17.bad_]]) (out' := .d (tup [])) [(70000, 70000)] [] [2] [0, 1] [1, 2, 0] rfl (code_reader_mark.ok hy17) b127 (oE1 tm (oE1 (cS (by decide)) oE0)) rfl rfl rfl rfl rfl rfl rfl rfl) (s1 rfl) <| .nil) (by kernel_rfl) ?_
        refine pSeq ?_
        refine wSeq ?_
        obtain ⟨o1, h, hk1⟩ := bd h
        refine wJ1 (fun x20 => x20 = o1) (fun x20 => [(0, .p 70000 0), (4, .p 4 0), (5, .d ((kI .i64).sig a0.i_)), (6, .p 6 0), (54, .d (kB.sig x20))]) (fun x20 => [.box 6 78 [.d (kI .i64) a1, .d (kI .i64) y3.2, .d (kI .i64) 0], .box 4 78 [.d (kI .i64) 0, .d (kI .i64) 0, .d (kI .i64) 0], .box 70000 138 [.d (kL kS) y17.l_.Names, .d (kL (kI .u32)) y17.l_.Up, .d (kL (kR f_api_Tok)) y17.toks_, .d (kI .i64) y17.i_, .d (kI .i64) y17.bad_]]) ?_ ?_
        · rcases ic h with ⟨hp21, h⟩ | ⟨hp21, h⟩
          · obtain ⟨y22, hy22, h⟩ := bd h
            refine rgD hm (cp (oMv tm) (s1 rfl) <| cp (oNilP tm) (s1 rfl) <| cp (oFldP o138_3 tm) (s1 rfl) <| cr (oLdB (n := 2) (k := 4) rfl rfl rfl t27 tm) (s1 rfl) <| cp (oEq rfl tm (cI (by decide))) (s1 rfl) <| cp (oMv tm) (s1 rfl) <| cgB (decide_eq_true hp21) rfl rfl (oMv tm) (s1 rfl) <| cgB (decide_eq_true hp21) rfl rfl (oNilP tm) (s1 rfl) <| cgB (decide_eq_true hp21) rfl rfl (oFldP o138_0 tm) (s1 rfl) <| cgB (decide_eq_true hp21) rfl rfl (oFldP o38_1 tm) (s1 rfl) <| crgB (decide_eq_true hp21) rfl rfl (oLdB (n := 2) (k := 1) rfl rfl rfl t36 tm) (s1 rfl) <| cgB (decide_eq_true hp21) rfl rfl (oLenL u36 tm) (s1 rfl) <| crgB (decide_eq_true hp21) rfl rfl (oLdA (n := 0) (fs := f_api_Instr) (u := ⟨a1, y3.2, 0⟩) rfl ⟨rfl, rfl, rfl, trivial⟩ t78 tm) (s1 rfl) <| cgB (decide_eq_true hp21) rfl rfl (oCall rfl (code_right.ok hy22) b49 (opds_cons tm (opds_cons tm opds_nil))) (s2 rfl rfl) <| cgB (decide_eq_true hp21) rfl rfl (oNot tm) (s1 rfl) <| cp (oPkT (decide_eq_true hp21) tm tm) (s2 rfl rfl) <| .nil) (by kernel_rfl) (by kernel_rfl) ?_
            exact pJ1 _ (so h) ⟨rfl, rfl, rfl, rfl, rfl, trivial⟩ rfl
          · refine rgD hm (cp (oMv tm) (s1 rfl) <| cp (oNilP tm) (s1 rfl) <| cp (oFldP o138_3 tm) (s1 rfl) <| cr (oLdB (n := 2) (k := 4) rfl rfl rfl t27 tm) (s1 rfl) <| cp (oEq rfl tm (cI (by decide))) (s1 rfl) <| cp (oMv tm) (s1 rfl) <| csB (decide_eq_false hp21) rfl rfl <| csB (decide_eq_false hp21) rfl rfl <| csB (decide_eq_false hp21) rfl rfl <| csB (decide_eq_false hp21) rfl rfl <| csB (decide_eq_false hp21) rfl rfl <| csB (decide_eq_false hp21) rfl rfl <| csB (decide_eq_false hp21) rfl rfl <| csB (decide_eq_false hp21) rfl rfl <| csB (decide_eq_false hp21) rfl rfl <| cp (oPkF (decide_eq_false hp21) tm cB) (s1 rfl) <| .nil) (by kernel_rfl) (by kernel_rfl) ?_
            exact pJ1 _ (so h) ⟨rfl, rfl, rfl, rfl, rfl, trivial⟩ rfl
        · rintro x20 rfl
          replace h := hk1
          rcases ic h with ⟨hp23, h⟩ | ⟨hp23, h⟩
          · refine wBT hp23 tm (s1 rfl) ?_
            refine wSeq ?_
            refine rg (cp (oMv tm) (s1 rfl) <| cp (oMv tm) (s1 rfl) <| cp (oNilP tm) (s1 rfl) <| cp (oFldP o138_2 tm) (s1 rfl) <| cwn (oSt (n := 2) (k := 3) rfl rfl rfl rfl z3 tm tm) (s2 rfl rfl) <| .nil) (by kernel_rfl) ?_
            refine pSeq ?_
            obtain ⟨y24, hy24, h⟩ := bd h
            refine rg (cp (oMv tm) (s1 rfl) <| cm (oCallS (rest := [.box 6 78 [.d (kI .i64) a1, .d (kI .i64) y3.2, .d (kI .i64) 0], .box 4 78 [.d (kI .i64) 0, .d (kI .i64) 0, .d (kI .i64) 0]]) (R' := [.box 6 78 [.d (kI .i64) a1, .d (kI .i64) y3.2, .d (kI .i64) 0], .box 4 78 [.d (kI .i64) 0, .d (kI .i64) 0, .d (kI .i64) 0], .box 70000 138 [.d (kL kS) y24.l_.Names, .d (kL (kI .u32)) y24.l_.Up, .d (kL (kR f_api_Tok)) y24.toks_, .d (kI .i64) y24.i_, .d (kI .i64) y24.bad_]]) (out' := .d (tup [])) [(70000, 70000)] [] [2] [0, 1] [1, 2, 0] rfl (code_reader_fail.ok hy24) b90 (oE1 tm (oE1 (cI (by decide)) oE0)) rfl rfl rfl rfl rfl rfl rfl rfl) (s1 rfl) <| .nil) (by kernel_rfl) ?_
            refine pSeq ?_
            refine wSeq ?_
            refine rg (cr (oLdA (n := 0) (fs := f_api_Instr) (u := ⟨a1, y3.2, 0⟩) rfl ⟨rfl, rfl, rfl, trivial⟩ t78 tm) (s1 rfl) <| cwn (oStA (n := 1) (fs := f_api_Instr) rfl rfl z78 tm tm) (s2 rfl rfl) <| .nil) (by kernel_rfl) ?_
            refine pSeq ?_
            refine wRet ?_
            obtain rfl := so h
            exact pS1 [2] rfl rfl (.inl rfl) rfl (.box (n := 1) (fs := f_api_Instr) (u := ⟨a1, y3.2, 0⟩) rfl rfl ⟨rfl, rfl, rfl, trivial⟩ t78 <| .nil)
          · refine wBF hp23 tm (s1 rfl) ?_
            refine wSkip ?_
            refine pSeq ?_
            refine wSeq ?_
            refine rg (cr (oLdA (n := 0) (fs := f_api_Instr) (u := ⟨a1, y3.2, 0⟩) rfl ⟨rfl, rfl, rfl, trivial⟩ t78 tm) (s1 rfl) <| cwn (oStA (n := 1) (fs := f_api_Instr) rfl rfl z78 tm tm) (s2 rfl rfl) <| .nil) (by kernel_rfl) ?_
            refine pSeq ?_
            refine wRet ?_
            obtain rfl := so h
            exact pS1 [2] rfl rfl (.inl rfl) rfl (.box (n := 1) (fs := f_api_Instr) (u := ⟨a1, y3.2, 0⟩) rfl rfl ⟨rfl, rfl, rfl, trivial⟩ t78 <| .nil)
  · refine wBF hp2 tm (s1 rfl) ?_
    refine wSkip ?_
    refine pSeq ?_
    refine wSeq ?_
    obtain ⟨o1, h, hk1⟩ := bd h
    refine wJ1 (fun x26 => x26 = o1) (fun x26 => [(0, .p 70000 0), (4, .p 4 0), (5, .d ((kI .i64).sig a0.i_)), (6, .p 6 0), (33, .d (kB.sig x26))]) (fun x26 => [.box 6 78 [.d (kI .i64) a1, .d (kI .i64) 0, .d (kI .i64) 0], .box 4 78 [.d (kI .i64) 0, .d (kI .i64) 0, .d (kI .i64) 0], .box 70000 138 [.d (kL kS) a0.l_.Names, .d (kL (kI .u32)) a0.l_.Up, .d (kL (kR f_api_Tok)) a0.toks_, .d (kI .i64) (IntKind.i64.wrap (a0.i_ + 1)), .d (kI .i64) a0.bad_]]) ?_ ?_
    · rcases ic h with ⟨hp27, h⟩ | ⟨hp27, h⟩
      · refine rg (cp (oMv tm) (s1 rfl) <| cp (oEq rfl tm (cI (by decide))) (s1 rfl) <| cp (oMv tm) (s1 rfl) <| cgB (decide_eq_true hp27) rfl rfl (oMv tm) (s1 rfl) <| cgB (decide_eq_true hp27) rfl rfl (oNilP tm) (s1 rfl) <| cgB (decide_eq_true hp27) rfl rfl (oFldP o138_3 tm) (s1 rfl) <| crgB (decide_eq_true hp27) rfl rfl (oLdB (n := 2) (k := 4) rfl rfl rfl t27 tm) (s1 rfl) <| cgB (decide_eq_true hp27) rfl rfl (oEq rfl tm (cI (by decide))) (s1 rfl) <| cp (oPkT (decide_eq_true hp27) tm tm) (s2 rfl rfl) <| .nil) (by kernel_rfl) ?_
        exact pJ1 _ (so h) ⟨rfl, rfl, rfl, rfl, rfl, trivial⟩ rfl
      · refine rg (cp (oMv tm) (s1 rfl) <| cp (oEq rfl tm (cI (by decide))) (s1 rfl) <| cp (oMv tm) (s1 rfl) <| csB (decide_eq_false hp27) rfl rfl <| csB (decide_eq_false hp27) rfl rfl <| csB (decide_eq_false hp27) rfl rfl <| csB (decide_eq_false hp27) rfl rfl <| csB (decide_eq_false hp27) rfl rfl <| cp (oPkF (decide_eq_false hp27) tm cB) (s1 rfl) <| .nil) (by kernel_rfl) ?_
        exact pJ1 _ (so h) ⟨rfl, rfl, rfl, rfl, rfl, trivial⟩ rfl
    · rintro x26 rfl
      replace h := hk1
      rcases ic h with ⟨hp28, h⟩ | ⟨hp28, h⟩
      · refine wBT hp28 tm (s1 rfl) ?_
        obtain ⟨y29, hy29, h⟩ := bd h
        refine rg (cp (oMv tm) (s1 rfl) <| cm (oCallS (rest := [.box 6 78 [.d (kI .i64) a1, .d (kI .i64) 0, .d (kI .i64) 0], .box 4 78 [.d (kI .i64) 0, .d (kI .i64) 0, .d (kI .i64) 0]]) (R' := [.box 6 78 [.d (kI .i64) a1, .d (kI .i64) 0, .d (kI .i64) 0], .box 4 78 [.d (kI .i64) 0, .d (kI .i64) 0, .d (kI .i64) 0], .box 70000 138 [.d (kL kS) y29.1.l_.Names, .d (kL (kI .u32)) y29.1.l_.Up, .d (kL (kR f_api_Tok)) y29.1.toks_, .d (kI .i64) y29.1.i_, .d (kI .i64) y29.1.bad_]]) (out' := .d ((kI .i64).sig y29.2)) [(70000, 70000)] [] [2] [0, 1] [1, 2, 0] rfl (code_reader_label.ok hy29) b126 (oE1 tm oE0) rfl rfl rfl rfl rfl rfl rfl rfl) (s1 rfl) <| cp (oFldP o78_2 tm) (s1 rfl) <| cwn (oSt (n := 0) (k := 2) rfl rfl rfl rfl z3 tm tm) (s2 rfl rfl) <| .nil) (by kernel_rfl) ?_
        refine pSeq ?_
        refine wSeq ?_
        obtain ⟨y30, hy30, h⟩ := bd h
        refine rg (cp (oMv tm) (s1 rfl) <| cm (oCallS (rest := [.box 6 78 [.d (kI .i64) a1, .d (kI .i64) 0, .d (kI .i64) y29.2], .box 4 78 [.d (kI .i64) 0, .d (kI .i64) 0, .d (kI .i64) 0]]) (R' := [.box 6 78 [.d (kI .i64) a1, .d (kI .i64) 0, .d (kI .i64) y29.2], .box 4 78 [.d (kI .i64) 0, .d (kI .i64) 0, .d (kI .i64) 0], .box 70000 138 [.d (kL kS) y30.l_.Names, .d (kL (kI .u32)) y30.l_.Up, .d (kL (kR f_api_Tok)) y30.toks_, .d (kI .i64) y30.i_, .d (kI .i64) y30.bad_]]) (out' := .d (tup [])) [(70000, 70000)] [] [2] [0, 1] [1, 2, 0] rfl (code_reader_mark.ok hy30) b127 (oE1 tm (oE1 (cS (by decide)) oE0)) rfl rfl rfl rfl rfl rfl rfl rfl) (s1 rfl) <| .nil) (by kernel_rfl) ?_
        refine pSeq ?_
        refine wSeq ?_
        obtain ⟨o1, h, hk1⟩ := bd h
        refine wJ1 (fun x33 => x33 = o1) (fun x33 => [(0, .p 70000 0), (4, .p 4 0), (5, .d ((kI .i64).sig a0.i_)), (6, .p 6 0), (54, .d (kB.sig x33))]) (fun x33 => [.box 6 78 [.d (kI .i64) a1, .d (kI .i64) 0, .d (kI .i64) y29.2], .box 4 78 [.d (kI .i64) 0, .d (kI .i64) 0, .d (kI .i64) 0], .box 70000 138 [.d (kL kS) y30.l_.Names, .d (kL (kI .u32)) y30.l_.Up, .d (kL (kR f_api_Tok)) y30.toks_, .d (kI .i64) y30.i_, .d (kI .i64) y30.bad_]]) ?_ ?_
        · rcases ic h with ⟨hp34, h⟩ | ⟨hp34, h⟩
          · obtain ⟨y35, hy35, h⟩ := bd h
            refine rgD hm (cp (oMv tm) (s1 rfl) <| cp (oNilP tm) (s1 rfl) <| cp (oFldP o138_3 tm) (s1 rfl) <| cr (oLdB (n := 2) (k := 4) rfl rfl rfl t27 tm) (s1 rfl) <| cp (oEq rfl tm (cI (by decide))) (s1 rfl) <| cp (oMv tm) (s1 rfl) <| cgB (decide_eq_true hp34) rfl rfl (oMv tm) (s1 rfl) <| cgB (decide_eq_true hp34) rfl rfl (oNilP tm) (s1 rfl) <| cgB (decide_eq_true hp34) rfl rfl (oFldP o138_0 tm) (s1 rfl) <| cgB (decide_eq_true hp34) rfl rfl (oFldP o38_1 tm) (s1 rfl) <| crgB (decide_eq_true hp34) rfl rfl (oLdB (n := 2) (k := 1) rfl rfl rfl t36 tm) (s1 rfl) <| cgB (decide_eq_true hp34) rfl rfl (oLenL u36 tm) (s1 rfl) <| crgB (decide_eq_true hp34) rfl rfl (oLdA (n := 0) (fs := f_api_Instr) (u := ⟨a1, 0, y29.2⟩) rfl ⟨rfl, rfl, rfl, trivial⟩ t78 tm) (s1 rfl) <| cgB (decide_eq_true hp34) rfl rfl (oCall rfl (code_right.ok hy35) b49 (opds_cons tm (opds_cons tm opds_nil))) (s2 rfl rfl) <| cgB (decide_eq_true hp34) rfl rfl (oNot tm) (s1 rfl) <| cp (oPkT (decide_eq_true hp34) tm tm) (s2 rfl rfl) <| .nil) (by kernel_rfl) (by kernel_rfl) ?_
            exact pJ1 _ (so h) ⟨rfl, rfl, rfl, rfl, rfl, trivial⟩ rfl
          · refine rgD hm (cp (oMv tm) (s1 rfl) <| cp (oNilP tm) (s1 rfl) <| cp (oFldP o138_3 tm) (s1 rfl) <| cr (oLdB (n := 2) (k := 4) rfl rfl rfl t27 tm) (s1 rfl) <| cp (oEq rfl tm (cI (by decide))) (s1 rfl) <| cp (oMv tm) (s1 rfl) <| csB (decide_eq_false hp34) rfl rfl <| csB (decide_eq_false hp34) rfl rfl <| csB (decide_eq_false hp34) rfl rfl <| csB (decide_eq_false hp34) rfl rfl <| csB (decide_eq_false hp34) rfl rfl <| csB (decide_eq_false hp34) rfl rfl <| csB (decide_eq_false hp34) rfl rfl <| csB (decide_eq_false hp34) rfl rfl <| csB (decide_eq_false hp34) rfl rfl <| cp (oPkF (decide_eq_false hp34) tm cB) (s1 rfl) <| .nil) (by kernel_rfl) (by kernel_rfl) ?_
            exact pJ1 _ (so h) ⟨rfl, rfl, rfl, rfl, rfl, trivial⟩ rfl
        · rintro x33 rfl
          replace h := hk1
          rcases ic h with ⟨hp36, h⟩ | ⟨hp36, h⟩
          · refine wBT hp36 tm (s1 rfl) ?_
            refine wSeq ?_
            refine rg (cp (oMv tm) (s1 rfl) <| cp (oMv tm) (s1 rfl) <| cp (oNilP tm) (s1 rfl) <| cp (oFldP o138_2 tm) (s1 rfl) <| cwn (oSt (n := 2) (k := 3) rfl rfl rfl rfl z3 tm tm) (s2 rfl rfl) <| .nil) (by kernel_rfl) ?_
            refine pSeq ?_
            obtain ⟨y37, hy37, h⟩ := bd h
            refine rg (cp (oMv tm) (s1 rfl) <| cm (oCallS (rest := [.box 6 78 [.d (kI .i64) a1, .d (kI .i64) 0, .d (kI .i64) y29.2], .box 4 78 [.d (kI .i64) 0, .d (kI .i64) 0, .d (kI .i64) 0]]) (R' := [.box 6 78 [.d (kI .i64) a1, .d (kI .i64) 0, .d (kI .i64) y29.2], .box 4 78 [.d (kI .i64) 0, .d (kI .i64) 0, .d (kI .i64) 0], .box 70000 138 [.d (kL kS) y37.l_.Names, .d (kL (kI .u32)) y37.l_.Up, .d (kL (kR f_api_Tok)) y37.toks_, .d (kI .i64) y37.i_, .d (kI .i64) y37.bad_]]) (out' := .d (tup [])) [(70000, 70000)] [] [2] [0, 1] [1, 2, 0] rfl (code_reader_fail.ok hy37) b90 (oE1 tm (oE1 (cI (by decide)) oE0)) rfl rfl rfl rfl rfl rfl rfl rfl) (s1 rfl) <| .nil) (by kernel_rfl) ?_
            refine pSeq ?_
            refine wSeq ?_
            refine rg (cr (oLdA (n := 0) (fs := f_api_Instr) (u := ⟨a1, 0, y29.2⟩) rfl ⟨rfl, rfl, rfl, trivial⟩ t78 tm) (s1 rfl) <| cwn (oStA (n := 1) (fs := f_api_Instr) rfl rfl z78 tm tm) (s2 rfl rfl) <| .nil) (by kernel_rfl) ?_
            refine pSeq ?_
            refine wRet ?_
            obtain rfl := so h
            exact pS1 [2] rfl rfl (.inl rfl) rfl (.box (n := 1) (fs := f_api_Instr) (u := ⟨a1, 0, y29.2⟩) rfl rfl ⟨rfl, rfl, rfl, trivial⟩ t78 <| .nil)
          · refine wBF hp36 tm (s1 rfl) ?_
            refine wSkip ?_
            refine pSeq ?_
            refine wSeq ?_
            refine rg (cr (oLdA (n := 0) (fs := f_api_Instr) (u := ⟨a1, 0, y29.2⟩) rfl ⟨rfl, rfl, rfl, trivial⟩ t78 tm) (s1 rfl) <| cwn (oStA (n := 1) (fs := f_api_Instr) rfl rfl z78 tm tm) (s2 rfl rfl) <| .nil) (by kernel_rfl) ?_
            refine pSeq ?_
            refine wRet ?_
            obtain rfl := so h
            exact pS1 [2] rfl rfl (.inl rfl) rfl (.box (n := 1) (fs := f_api_Instr) (u := ⟨a1, 0, y29.2⟩) rfl rfl ⟨rfl, rfl, rfl, trivial⟩ t78 <| .nil)
      · refine wBF hp28 tm (s1 rfl) ?_
        refine wSkip ?_
        refine pSeq ?_
        refine wSeq ?_
        obtain ⟨y38, hy38, h⟩ := bd h
        refine rg (cp (oMv tm) (s1 rfl) <| cm (oCallS (rest := [.box 6 78 [.d (kI .i64) a1, .d (kI .i64) 0, .d (kI .i64) 0], .box 4 78 [.d (kI .i64) 0, .d (kI .i64) 0, .d (kI .i64) 0]]) (R' := [.box 6 78 [.d (kI .i64) a1, .d (kI .i64) 0, .d (kI .i64) 0], .box 4 78 [.d (kI .i64) 0, .d (kI .i64) 0, .d (kI .i64) 0], .box 70000 138 [.d (kL kS) y38.l_.Names, .d (kL (kI .u32)) y38.l_.Up, .d (kL (kR f_api_Tok)) y38.toks_, .d (kI .i64) y38.i_, .d (kI .i64) y38.bad_]]) (out' := .d (tup [])) [(70000, 70000)] [] [2] [0, 1] [1, 2, 0] rfl (code_reader_mark.ok hy38) b127 (oE1 tm (oE1 (cS (by decide)) oE0)) rfl rfl rfl rfl rfl rfl rfl rfl) (s1 rfl) <| .nil) (by kernel_rfl) ?_
        refine pSeq ?_
        refine wSeq ?_
        obtain ⟨o1, h, hk1⟩ := bd h
        refine wJ1 (fun x41 => x41 = o1) (fun x41 => [(0, .p 70000 0), (4, .p 4 0), (5, .d ((kI .i64).sig a0.i_)), (6, .p 6 0), (54, .d (kB.sig x41))]) (fun x41 => [.box 6 78 [.d (kI .i64) a1, .d (kI .i64) 0, .d (kI .i64) 0], .box 4 78 [.d (kI .i64) 0, .d (kI .i64) 0, .d (kI .i64) 0], .box 70000 138 [.d (kL kS) y38.l_.Names, .d (kL (kI .u32)) y38.l_.Up, .d (kL (kR f_api_Tok)) y38.toks_, .d (kI .i64) y38.i_, .d (kI .i64) y38.bad_]]) ?_ ?_
        · rcases ic h with ⟨hp42, h⟩ | ⟨hp42, h⟩
          · obtain ⟨y43, hy43, h⟩ := bd h
            refine rgD hm (cp (oMv tm) (s1 rfl) <| cp (oNilP tm) (s1 rfl) <| cp (oFldP o138_3 tm) (s1 rfl) <| cr (oLdB (n := 2) (k := 4) rfl rfl rfl t27 tm) (s1 rfl) <| cp (oEq rfl tm (cI (by decide))) (s1 rfl) <| cp (oMv tm) (s1 rfl) <| cgB (decide_eq_true hp42) rfl rfl (oMv tm) (s1 rfl) <| cgB (decide_eq_true hp42) rfl rfl (oNilP tm) (s1 rfl) <| cgB (decide_eq_true hp42) rfl rfl (oFldP o138_0 tm) (s1 rfl) <| cgB (decide_eq_true hp42) rfl rfl (oFldP o38_1 tm) (s1 rfl) <| crgB (decide_eq_true hp42) rfl rfl (oLdB (n := 2) (k := 1) rfl rfl rfl t36 tm) (s1 rfl) <| cgB (decide_eq_true hp42) rfl rfl (oLenL u36 tm) (s1 rfl) <| crgB (decide_eq_true hp42) rfl rfl (oLdA (n := 0) (fs := f_api_Instr) (u := ⟨a1, 0, 0⟩) rfl ⟨rfl, rfl, rfl, trivial⟩ t78 tm) (s1 rfl) <| cgB (decide_eq_true hp42) rfl rfl (oCall rfl (code_right.ok hy43) b49 (opds_cons tm (opds_cons tm opds_nil))) (s2 rfl rfl) <| cgB (decide_eq_true hp42) rfl rfl (oNot tm) (s1 rfl) <| cp (oPkT (decide_eq_true hp42) tm tm) (s2 rfl rfl) <| .nil) (by kernel_rfl) (by kernel_rfl) ?_
            exact pJ1 _ (so h) ⟨rfl, rfl, rfl, rfl, rfl, trivial⟩ rfl
          · refine rgD hm (cp (oMv tm) (s1 rfl) <| cp (oNilP tm) (s1 rfl) <| cp (oFldP o138_3 tm) (s1 rfl) <| cr (oLdB (n := 2) (k := 4) rfl rfl rfl t27 tm) (s1 rfl) <| cp (oEq rfl tm (cI (by decide))) (s1 rfl) <| cp (oMv tm) (s1 rfl) <| csB (decide_eq_false hp42) rfl rfl <| csB (decide_eq_false hp42) rfl rfl <| csB (decide_eq_false hp42) rfl rfl <| csB (decide_eq_false hp42) rfl rfl <| csB (decide_eq_false hp42) rfl rfl <| csB (decide_eq_false hp42) rfl rfl <| csB (decide_eq_false hp42) rfl rfl <| csB (decide_eq_false hp42) rfl rfl <| csB (decide_eq_false hp42) rfl rfl <| cp (oPkF (decide_eq_false hp42) tm cB) (s1 rfl) <| .nil) (by kernel_rfl) (by kernel_rfl) ?_
            exact pJ1 _ (so h) ⟨rfl, rfl, rfl, rfl, rfl, trivial⟩ rfl
        · rintro x41 rfl
          replace h := hk1
          rcases ic h with ⟨hp44, h⟩ | ⟨hp44, h⟩
          · refine wBT hp44 tm (s1 rfl) ?_
            refine wSeq ?_
            refine rg (cp (oMv tm) (s1 rfl) <| cp (oMv tm) (s1 rfl) <| cp (oNilP tm) (s1 rfl) <| cp (oFldP o138_2 tm) (s1 rfl) <| cwn (oSt (n := 2) (k := 3) rfl rfl rfl rfl z3 tm tm) (s2 rfl rfl) <| .nil) (by kernel_rfl) ?_
            refine pSeq ?_
            obtain ⟨y45, hy45, h⟩ := bd h
            refine rg (cp (oMv tm) (s1 rfl) <| cm (oCallS (rest := [.box 6 78 [.d (kI .i64) a1, .d (kI .i64) 0, .d (kI .i64) 0], .box 4 78 [.d (kI .i64) 0, .d (kI .i64) 0, .d (kI .i64) 0]]) (R' := [.box 6 78 [.d (kI .i64) a1, .d (kI .i64) 0, .d (kI .i64) 0], .box 4 78 [.d (kI .i64) 0, .d (kI .i64) 0, .d (kI .i64) 0], .box 70000 138 [.d (kL kS) y45.l_.Names, .d (kL (kI .u32)) y45.l_.Up, .d (kL (kR f_api_Tok)) y45.toks_, .d (kI .i64) y45.i_, .d (kI .i64) y45.bad_]]) (out' := .d (tup [])) [(70000, 70000)] [] [2] [0, 1] [1, 2, 0] rfl (code_reader_fail.ok hy45) b90 (oE1 tm (oE1 (cI (by decide)) oE0)) rfl rfl rfl rfl rfl rfl rfl rfl) (s1 rfl) <| .nil) (by kernel_rfl) ?_
            refine pSeq ?_
            refine wSeq ?_
            refine rg (cr (oLdA (n := 0) (fs := f_api_Instr) (u := ⟨a1, 0, 0⟩) rfl ⟨rfl, rfl, rfl, trivial⟩ t78 tm) (s1 rfl) <| cwn (oStA (n := 1) (fs := f_api_Instr) rfl rfl z78 tm tm) (s2 rfl rfl) <| .nil) (by kernel_rfl) ?_
            refine pSeq ?_
            refine wRet ?_
            obtain rfl := so h
            exact pS1 [2] rfl rfl (.inl rfl) rfl (.box (n := 1) (fs := f_api_Instr) (u := ⟨a1, 0, 0⟩) rfl rfl ⟨rfl, rfl, rfl, trivial⟩ t78 <| .nil)
          · refine wBF hp44 tm (s1 rfl) ?_
            refine wSkip ?_
            refine pSeq ?_
            refine wSeq ?_
            refine rg (cr (oLdA (n := 0) (fs := f_api_Instr) (u := ⟨a1, 0, 0⟩) rfl ⟨rfl, rfl, rfl, trivial⟩ t78 tm) (s1 rfl) <| cwn (oStA (n := 1) (fs := f_api_Instr) rfl rfl z78 tm tm) (s2 rfl rfl) <| .nil) (by kernel_rfl) ?_
            refine pSeq ?_
            refine wRet ?_
            obtain rfl := so h
            exact pS1 [2] rfl rfl (.inl rfl) rfl (.box (n := 1) (fs := f_api_Instr) (u := ⟨a1, 0, 0⟩) rfl rfl ⟨rfl, rfl, rfl, trivial⟩ t78 <| .nil)

theorem code_From.ok {a0 : api_Lattice} {a1 : List api_Tok} {a2 : Int} {r : (List api_Instr) × Int × Int} (h : code_From.f a0 a1 a2 = some r) : FnA Tryd.prog 56 [(kR f_api_Lattice).sig a0, (kL (kR f_api_Tok)).sig a1, (kI .i64).sig a2] (tup [(kL (kR f_api_Instr)).sig r.1, (kI .i64).sig r.2.1, (kI .i64).sig r.2.2]) := by
  refine fnIntro Tryd.func56 rfl (by kernel_rfl) fun H0 w0 => ?_
  unfold code_From.f at h
  refine wSeq ?_
  refine rg (cp (oBox tm) (s1 rfl) <| cp (oAs cV) trivial <| cp (oAs (cI (by decide))) trivial <| cp (oAs (cI (by decide))) trivial <| .nil) (by kernel_rfl) ?_
  refine pSeq ?_
  refine wSeq ?_
  refine wSeq ?_
  obtain ⟨y1, hy1, h⟩ := bd h
  refine rg (cp (oLd t38 tm) (s1 rfl) <| cp (oCall rfl (lattice_Check.ok hy1) b39 (opds_cons tm opds_nil)) (s1 rfl) <| cp (oAs tm) (s1 rfl) <| .nil) (by kernel_rfl) ?_
  refine pSeq ?_
  refine wSeq ?_
  refine rg (cp (oMv tm) (s1 rfl) <| cp (oNe rfl tm (cI (by decide))) (s1 rfl) <| .nil) (by kernel_rfl) ?_
  refine pSeq ?_
  rcases ic h with ⟨hp2, h⟩ | ⟨hp2, h⟩
  · refine wNT hp2 tm (s1 rfl) ?_
    refine wSkip ?_
    refine pSeq ?_
    refine wSeq ?_
    obtain ⟨o1, h, hk1⟩ := bd h
    refine wJ1 (fun x6 => x6 = o1) (fun x6 => [(1, .d ((kL (kR f_api_Tok)).sig a1)), (2, .d ((kI .i64).sig a2)), (3, .d (sP (kR f_api_Lattice) a0)), (35, .d (kB.sig x6))]) (fun x6 => []) ?_ ?_
    · rcases ic h with ⟨hp7, h⟩ | ⟨hp7, h⟩
      · refine rg (cp (oMv tm) (s1 rfl) <| cp (oLt rfl tm (cI (by decide))) (s1 rfl) <| cp (oMv tm) (s1 rfl) <| csB (decide_eq_true hp7) rfl rfl <| csB (decide_eq_true hp7) rfl rfl <| csB (decide_eq_true hp7) rfl rfl <| csB (decide_eq_true hp7) rfl rfl <| cp (oPkT (decide_eq_true hp7) tm cB) (s1 rfl) <| cp (oMv tm) (s1 rfl) <| csB rfl rfl rfl <| csB rfl rfl rfl <| csB rfl rfl rfl <| csB rfl rfl rfl <| csB rfl rfl rfl <| csB rfl rfl rfl <| csB rfl rfl rfl <| csB rfl rfl rfl <| cp (oPkT rfl tm cB) (s1 rfl) <| .nil) (by kernel_rfl) ?_
        exact pJ1 _ (so h) ⟨rfl, rfl, rfl, rfl, trivial⟩ rfl
      · rcases ic h with ⟨hp8, h⟩ | ⟨hp8, h⟩
        · refine rg (cp (oMv tm) (s1 rfl) <| cp (oLt rfl tm (cI (by decide))) (s1 rfl) <| cp (oMv tm) (s1 rfl) <| cgB (decide_eq_false hp7) rfl rfl (oMv tm) (s1 rfl) <| cgB (decide_eq_false hp7) rfl rfl (oMv tm) (s1 rfl) <| cgB (decide_eq_false hp7) rfl rfl (oLenL u88 tm) (s1 rfl) <| cgB (decide_eq_false hp7) rfl rfl (oGe rfl tm tm) (s2 rfl rfl) <| cp (oPkF (decide_eq_false hp7) tm tm) (s2 rfl rfl) <| cp (oMv tm) (s1 rfl) <| csB (decide_eq_true hp8) rfl rfl <| csB (decide_eq_true hp8) rfl rfl <| csB (decide_eq_true hp8) rfl rfl <| csB (decide_eq_true hp8) rfl rfl <| csB (decide_eq_true hp8) rfl rfl <| csB (decide_eq_true hp8) rfl rfl <| csB (decide_eq_true hp8) rfl rfl <| csB (decide_eq_true hp8) rfl rfl <| cp (oPkT (decide_eq_true hp8) tm cB) (s1 rfl) <| .nil) (by kernel_rfl) ?_
          exact pJ1 _ (so h) ⟨rfl, rfl, rfl, rfl, trivial⟩ rfl
        · obtain ⟨y9, hy9, h⟩ := bd h
          refine rg (cp (oMv tm) (s1 rfl) <| cp (oLt rfl tm (cI (by decide))) (s1 rfl) <| cp (oMv tm) (s1 rfl) <| cgB (decide_eq_false hp7) rfl rfl (oMv tm) (s1 rfl) <| cgB (decide_eq_false hp7) rfl rfl (oMv tm) (s1 rfl) <| cgB (decide_eq_false hp7) rfl rfl (oLenL u88 tm) (s1 rfl) <| cgB (decide_eq_false hp7) rfl rfl (oGe rfl tm tm) (s2 rfl rfl) <| cp (oPkF (decide_eq_false hp7) tm tm) (s2 rfl rfl) <| cp (oMv tm) (s1 rfl) <| cgB (decide_eq_false hp8) rfl rfl (oMv tm) (s1 rfl) <| cgB (decide_eq_false hp8) rfl rfl (oMv tm) (s1 rfl) <| cgB (decide_eq_false hp8) rfl rfl (oLenL u88 tm) (s1 rfl) <| cgB (decide_eq_false hp8) rfl rfl (oSub tm (cI (by decide))) (s1 rfl) <| cgB (decide_eq_false hp8) rfl rfl (oIdx u88 z93 hy9 tm tm) (s2 rfl rfl) <| cgB (decide_eq_false hp8) rfl rfl (oFld (fs := f_api_Tok) (k := 0) rfl o93_0 tm) (s1 rfl) <| cgB (decide_eq_false hp8) rfl rfl (oLd t3 tm) (s1 rfl) <| cgB (decide_eq_false hp8) rfl rfl (oNe rfl tm (cI (by decide))) (s1 rfl) <| cp (oPkF (decide_eq_false hp8) tm tm) (s2 rfl rfl) <| .nil) (by kernel_rfl) ?_
          exact pJ1 _ (so h) ⟨rfl, rfl, rfl, rfl, trivial⟩ rfl
    · rintro x6 rfl
      replace h := hk1
      rcases ic h with ⟨hp10, h⟩ | ⟨hp10, h⟩
      · refine wBT hp10 tm (s1 rfl) ?_
        refine wSeq ?_
        refine rg (cp (oAs cV) trivial <| cp (oAs (cI (by decide))) trivial <| cp (oAs (cI (by decide))) trivial <| .nil) (by kernel_rfl) ?_
        refine pSeq ?_
        refine wNil (kR f_api_Instr) 78 9006 6 rfl rfl ?_
        refine wFrzR (n := 0) (id := 9006) [6] rfl rfl ⟨rfl, trivial⟩ ?_
        refine wRet ?_
        refine pThenR ?_
        obtain rfl := so h
        exact pRn (.inl rfl) rfl rfl (.tmp rfl <| .tmp rfl <| .tmp rfl <| .nil)
      · refine wBF hp10 tm (s1 rfl) ?_
        refine wSkip ?_
        refine pSeq ?_
        refine wSeq ?_
        refine rg (cp (oLd t38 tm) (s1 rfl) <| cp (oMv tm) (s1 rfl) <| cp (oMv tm) (s1 rfl) <| cp (oBuild (fs := f_code_reader) (u := ⟨a0, a1, a2, 0⟩) rfl ze138 pl138 po138 (.op (zc := [(.slice none 0 0), (.slice none 0 0)]) tm rfl (.op (zc := [(.slice none 0 0)]) tm rfl (.op (zc := [(.int .i64 0)]) tm rfl (.ze (zc := [(.int .i64 0)]) zI_i64 .nil))))) (s3 rfl rfl rfl) <| cw (oBoxP (id := 40) (d := (kR f_code_reader)) (ls := [.d (kL kS) a0.Names, .d (kL (kI .u32)) a0.Up, .d (kL (kR f_api_Tok)) a1, .d (kI .i64) a2, .d (kI .i64) 0]) (lfS (lfC (lfS (lfC lf1 (lfC lf1 lfN))) (lfC lf1 (lfC lf1 (lfC lf1 lfN))))) rfl tm) (s1 rfl) <| cp (oAs tm) (s1 rfl) <| .nil) (by kernel_rfl) ?_
        refine pSeq ?_
        refine wSeq ?_
        refine rg (cp (oAs cV) trivial <| .nil) (by kernel_rfl) ?_
        refine pSeq ?_
        refine wNil (kR f_api_Instr) 78 1011 11 rfl rfl ?_
        obtain ⟨o1, h, hk1⟩ := bd h
        refine wJ6 (fun x33 x34 x35 x36 x37 x38 => .inr (x33, x34, x35, x36, x37, x38) = o1) (fun x33 x34 x35 x36 x37 x38 => [(10, .p 40 0)]) (fun x33 x34 x35 x36 x37 x38 => [.row 1011 78 (kR f_api_Instr) x38, .box 40 138 [.d (kL kS) x33, .d (kL (kI .u32)) x34, .d (kL (kR f_api_Tok)) x35, .d (kI .i64) x36, .d (kI .i64) x37]]) ?_ ?_
        · refine wBlock (wLoop ?_)
          refine lW (pc6 o1 (fun v27 v28 v29 v30 v31 v32 => [(10, .p 40 0), (11, .v 1011)]) (fun v27 v28 v29 v30 v31 v32 => [.row 1011 78 (kR f_api_Instr) v32, .box 40 138 [.d (kL kS) v27, .d (kL (kI .u32)) v28, .d (kL (kR f_api_Tok)) v29, .d (kI .i64) v30, .d (kI .i64) v31]]) (code_From.l0.partial_correctness) ?_ _ _ _ _ _ _ h) ⟨rfl, rfl, trivial⟩ rfl
          clear h
          intro f' ih v27 v28 v29 v30 v31 v32 h
          refine wSeq ?_
          refine wSeq ?_
          refine rg (cp (oMv tm) (s1 rfl) <| cp (oNilP tm) (s1 rfl) <| cp (oFldP o138_3 tm) (s1 rfl) <| cr (oLdB (n := 1) (k := 4) rfl rfl rfl t27 tm) (s1 rfl) <| cp (oEq rfl tm (cI (by decide))) (s1 rfl) <| .nil) (by kernel_rfl) ?_
          refine pSeq ?_
          rcases ic h with ⟨hp39, h⟩ | ⟨hp39, h⟩
          · refine wCT hp39 tm (s1 rfl) ?_
            refine wSkip ?_
            refine pSeq ?_
            refine wBlock ?_
            refine wSeq ?_
            obtain ⟨y40, hy40, h⟩ := bd h
            obtain ⟨y41, hy41, h⟩ := bd h
            refine rg (cp (oMv tm) (s1 rfl) <| cm (oCallS (rest := [.row 1011 78 (kR f_api_Instr) v32]) (R' := [.row 1011 78 (kR f_api_Instr) v32, .box 40 138 [.d (kL kS) y40.1.l_.Names, .d (kL (kI .u32)) y40.1.l_.Up, .d (kL (kR f_api_Tok)) y40.1.toks_, .d (kI .i64) y40.1.i_, .d (kI .i64) y40.1.bad_]]) (out' := .d ((kR f_api_Tok).sig y40.2)) [(70000, 40)] [] [1] [0] [1, 0] rfl (code_reader_tok.ok hy40) b89 (oE1 tm oE0) rfl rfl rfl rfl rfl rfl rfl rfl) (s1 rfl) <| cp (oCall rfl (code_instruction.ok hy41) b88 (opds_cons tm opds_nil)) (s1 rfl) <| cp (oAs tm) (s1 rfl) <| .nil) (by kernel_rfl) ?_
            refine pSeq ?_
            refine wSeq ?_
            refine wSeq ?_
            refine rg (cp (oMv tm) (s1 rfl) <| cp (oLt rfl tm (cI (by decide))) (s1 rfl) <| .nil) (by kernel_rfl) ?_
            refine pSeq ?_
            rcases ic h with ⟨hp42, h⟩ | ⟨hp42, h⟩
            · refine wCT hp42 tm (s1 rfl) ?_
              refine wSeq ?_
              refine rgD hm (cp (oMv tm) (s1 rfl) <| cp (oMv tm) (s1 rfl) <| cp (oNilP tm) (s1 rfl) <| cp (oFldP o138_2 tm) (s1 rfl) <| cr (oLdB (n := 1) (k := 3) rfl rfl rfl t3 tm) (s1 rfl) <| cp (oAs tm) (s1 rfl) <| cp (oAs tm) (s1 rfl) <| cp (oAs (cI (by decide))) trivial <| .nil) (by kernel_rfl) (by kernel_rfl) ?_
              refine pSeq ?_
              refine wFrzR (n := 0) (id := 1011) [6] rfl rfl ⟨rfl, trivial⟩ ?_
              refine wRet ?_
              refine pThenR ?_
              refine pBlkR ?_
              refine pThenR ?_
              refine pBlkR ?_
              refine pThenR ?_
              obtain rfl := so h
              replace h := hk1
              obtain rfl := so h
              exact pRn (.inl rfl) rfl rfl (.tmp rfl <| .tmp rfl <| .tmp rfl <| .nil)
            · refine wCF hp42 tm (s1 rfl) ?_
              refine wSkip ?_
              refine pSeq ?_
              refine wSeq ?_
              refine wSeq ?_
              refine rg (cp (oMv tm) (s1 rfl) <| cr (oLenR (n := 0) u39 rfl tm) (s1 rfl) <| cp (oEq rfl tm (cI (by decide))) (s1 rfl) <| .nil) (by kernel_rfl) ?_
              refine pSeq ?_
              rcases ic h with ⟨hp43, h⟩ | ⟨hp43, h⟩
              · refine wCT hp43 tm (s1 rfl) ?_
                refine wSeq ?_
                obtain ⟨y44, hy44, h⟩ := bd h
                refine rg (cp (oMv tm) (s1 rfl) <| cm (oCallS (rest := [.row 1011 78 (kR f_api_Instr) v32]) (R' := [.row 1011 78 (kR f_api_Instr) v32, .box 40 138 [.d (kL kS) y44.l_.Names, .d (kL (kI .u32)) y44.l_.Up, .d (kL (kR f_api_Tok)) y44.toks_, .d (kI .i64) y44.i_, .d (kI .i64) y44.bad_]]) (out' := .d (tup [])) [(70000, 40)] [] [1] [0] [1, 0] rfl (code_reader_fail.ok hy44) b90 (oE1 tm (oE1 (cI (by decide)) oE0)) rfl rfl rfl rfl rfl rfl rfl rfl) (s1 rfl) <| .nil) (by kernel_rfl) ?_
                refine pSeq ?_
                refine wExit ?_
                refine pThenX ?_
                refine pBlkO rfl ?_
                refine pThenX ?_
                refine pBlkX ?_
                exact pJ6 _ _ _ _ _ _ (so h) ⟨rfl, trivial⟩ rfl
              · refine wCF hp43 tm (s1 rfl) ?_
                refine wSkip ?_
                refine pSeq ?_
                obtain ⟨y45, hy45, h⟩ := bd h
                obtain ⟨hc46, h⟩ := ib h
                refine rg (cp (oMv tm) (s1 rfl) <| cp (oMv tm) (s1 rfl) <| cp (oMv tm) (s1 rfl) <| cm (oCallS (rest := [.row 1011 78 (kR f_api_Instr) v32]) (R' := [.row 1011 78 (kR f_api_Instr) v32, .box 40 138 [.d (kL kS) y45.1.l_.Names, .d (kL (kI .u32)) y45.1.l_.Up, .d (kL (kR f_api_Tok)) y45.1.toks_, .d (kI .i64) y45.1.i_, .d (kI .i64) y45.1.bad_]]) (out' := .d ((kR f_api_Instr).sig y45.2)) [(70000, 40)] [] [1] [0] [1, 0] rfl (code_reader_one.ok hy45) b91 (oE1 tm (oE1 tm oE0)) rfl rfl rfl rfl rfl rfl rfl rfl) (s2 rfl rfl) <| cp (oLit (d := (kR f_api_Instr)) el39 (by decide) rfl rfl rfl (e1 tm e0)) (s1 rfl) <| cw (oApp (n := 0) (id' := 66) el39 (by decide) rfl (by decide) hc46 tm tm) (s2 rfl rfl) <| cp (oAs tm) (s1 rfl) <| .nil) (by kernel_rfl) ?_
                refine pBlkN ?_
                refine pSub (Γ' := [(10, .p 40 0), (11, .v 66)]) ⟨rfl, rfl, trivial⟩ ?_
                refine pRen 66 1011 rfl ?_
                exact pLoop (lW (ih _ _ _ _ _ _ h) ⟨rfl, rfl, trivial⟩ rfl)
          · refine wCF hp39 tm (s1 rfl) ?_
            refine wExit ?_
            refine pThenX ?_
            refine pThenX ?_
            refine pBlkX ?_
            exact pJ6 _ _ _ _ _ _ (so h) ⟨rfl, trivial⟩ rfl
        · rintro x33 x34 x35 x36 x37 x38 rfl
          replace h := hk1
          refine wSeq ?_
          refine rgD hm (cp (oMv tm) (s1 rfl) <| cp (oNilP tm) (s1 rfl) <| cp (oFldP o138_2 tm) (s1 rfl) <| cr (oLdB (n := 1) (k := 3) rfl rfl rfl t3 tm) (s1 rfl) <| cp (oMv tm) (s1 rfl) <| cp (oNilP tm) (s1 rfl) <| cp (oFldP o138_3 tm) (s1 rfl) <| cr (oLdB (n := 1) (k := 4) rfl rfl rfl t27 tm) (s1 rfl) <| cp (oAs cV) trivial <| cp (oAs tm) (s1 rfl) <| cp (oAs tm) (s1 rfl) <| .nil) (by kernel_rfl) (by kernel_rfl) ?_
          refine pSeq ?_
          refine wNil (kR f_api_Instr) 78 9006 6 rfl rfl ?_
          refine wFrzR (n := 0) (id := 9006) [6] rfl rfl ⟨rfl, trivial⟩ ?_
          refine wRet ?_
          obtain rfl := so h
          exact pRn (.inl rfl) rfl rfl (.tmp rfl <| .tmp rfl <| .tmp rfl <| .nil)
  · refine wNF hp2 tm (s1 rfl) ?_
    refine wSeq ?_
    refine rg (cp (oMv tm) (s1 rfl) <| cp (oAs cV) trivial <| cp (oAs (cI (by decide))) trivial <| cp (oAs tm) (s1 rfl) <| .nil) (by kernel_rfl) ?_
    refine pSeq ?_
    refine wNil (kR f_api_Instr) 78 9006 6 rfl rfl ?_
    refine wFrzR (n := 0) (id := 9006) [6] rfl rfl ⟨rfl, trivial⟩ ?_
    refine wRet ?_
    refine pThenR ?_
    obtain rfl := so h
    exact pRn (.inl rfl) rfl rfl (.tmp rfl <| .tmp rfl <| .tmp rfl <| .nil)

theorem code_Parse.ok {a0 : api_Lattice} {a1 : Str} {r : (List api_Instr) × Int × Int} (h : code_Parse.f a0 a1 = some r) : FnA Tryd.prog 21 [(kR f_api_Lattice).sig a0, kS.sig a1] (tup [(kL (kR f_api_Instr)).sig r.1, (kI .i64).sig r.2.1, (kI .i64).sig r.2.2]) := by
  refine fnIntro Tryd.func21 rfl (by kernel_rfl) fun H0 w0 => ?_
  unfold code_Parse.f at h
  refine wSeq ?_
  refine rg (cp (oBox tm) (s1 rfl) <| cp (oAs cV) trivial <| cp (oAs (cI (by decide))) trivial <| cp (oAs (cI (by decide))) trivial <| .nil) (by kernel_rfl) ?_
  refine pSeq ?_
  refine wSeq ?_
  refine wSeq ?_
  obtain ⟨y1, hy1, h⟩ := bd h
  refine rg (cp (oLd t38 tm) (s1 rfl) <| cp (oCall rfl (lattice_Check.ok hy1) b39 (opds_cons tm opds_nil)) (s1 rfl) <| cp (oAs tm) (s1 rfl) <| .nil) (by kernel_rfl) ?_
  refine pSeq ?_
  refine wSeq ?_
  refine rg (cp (oMv tm) (s1 rfl) <| cp (oNe rfl tm (cI (by decide))) (s1 rfl) <| .nil) (by kernel_rfl) ?_
  refine pSeq ?_
  rcases ic h with ⟨hp2, h⟩ | ⟨hp2, h⟩
  · refine wNT hp2 tm (s1 rfl) ?_
    refine wSkip ?_
    refine pSeq ?_
    refine wSeq ?_
    obtain ⟨y3, hy3, h⟩ := bd h
    refine rg (cp (oMv tm) (s1 rfl) <| cp (oCall rfl (lex_Lex.ok hy3) b55 (opds_cons tm opds_nil)) (s1 rfl) <| cp (oMv tm) (s1 rfl) <| cp (oExt (k := 0) rfl tm) (s1 rfl) <| cp (oExt (k := 1) rfl tm) (s1 rfl) <| cp (oExt (k := 2) rfl tm) (s1 rfl) <| cp (oAs tm) (s1 rfl) <| cp (oAs tm) (s1 rfl) <| cp (oAs tm) (s1 rfl) <| .nil) (by kernel_rfl) ?_
    refine pSeq ?_
    refine wSeq ?_
    refine wSeq ?_
    refine rg (cp (oMv tm) (s1 rfl) <| cp (oNe rfl tm (cI (by decide))) (s1 rfl) <| .nil) (by kernel_rfl) ?_
    refine pSeq ?_
    rcases ic h with ⟨hp4, h⟩ | ⟨hp4, h⟩
    · refine wNT hp4 tm (s1 rfl) ?_
      refine wSkip ?_
      refine pSeq ?_
      refine wSeq ?_
      obtain ⟨y5, hy5, h⟩ := bd h
      refine rg (cp (oLd t38 tm) (s1 rfl) <| cp (oMv tm) (s1 rfl) <| cp (oCall rfl (code_From.ok hy5) b56 (opds_cons tm (opds_cons tm (opds_cons (cI (by decide)) opds_nil)))) (s2 rfl rfl) <| cp (oMv tm) (s1 rfl) <| cp (oExt (k := 0) rfl tm) (s1 rfl) <| cp (oExt (k := 1) rfl tm) (s1 rfl) <| cp (oExt (k := 2) rfl tm) (s1 rfl) <| cp (oAs tm) (s1 rfl) <| cp (oAs tm) (s1 rfl) <| cp (oAs tm) (s1 rfl) <| .nil) (by kernel_rfl) ?_
      refine pSeq ?_
      refine wSeq ?_
      refine wBlock ?_
      refine wSeq ?_
      refine rg (cp (oMv tm) (s1 rfl) <| cp (oNe rfl tm (cI (by decide))) (s1 rfl) <| cp (oAs tm) (s1 rfl) <| .nil) (by kernel_rfl) ?_
      refine pSeq ?_
      rcases ic h with ⟨hp6, h⟩ | ⟨hp6, h⟩
      · refine wNT hp6 tm (s1 rfl) ?_
        refine wSeq ?_
        obtain ⟨y7, hy7, h⟩ := bd h
        refine rg (cp (oMv tm) (s1 rfl) <| cp (oMv tm) (s1 rfl) <| cp (oIdx u88 z93 hy7 tm tm) (s2 rfl rfl) <| cp (oFld (fs := f_api_Tok) (k := 0) rfl o93_0 tm) (s1 rfl) <| cp (oLd t3 tm) (s1 rfl) <| cp (oNe rfl tm (cI (by decide))) (s1 rfl) <| cp (oAs tm) (s1 rfl) <| .nil) (by kernel_rfl) ?_
        refine pSeq ?_
        rcases ic h with ⟨hp8, h⟩ | ⟨hp8, h⟩
        · refine wNT hp8 tm (s1 rfl) ?_
          refine wSkip ?_
          refine pBlkN ?_
          refine pSeq ?_
          refine wSeq ?_
          refine rg (cp (oMv tm) (s1 rfl) <| cp (oAs tm) (s1 rfl) <| cp (oAs (cI (by decide))) trivial <| cp (oAs (cI (by decide))) trivial <| .nil) (by kernel_rfl) ?_
          refine pSeq ?_
          refine wRet ?_
          obtain rfl := so h
          exact pRn (.inl rfl) rfl rfl (.tmp rfl <| .tmp rfl <| .tmp rfl <| .nil)
        · refine wNF hp8 tm (s1 rfl) ?_
          refine wSeq ?_
          obtain ⟨y9, hy9, h⟩ := bd h
          refine rgD hm (cp (oMv tm) (s1 rfl) <| cp (oMv tm) (s1 rfl) <| cp (oIdx u88 z93 hy9 tm tm) (s2 rfl rfl) <| cp (oFld (fs := f_api_Tok) (k := 2) rfl o93_2 tm) (s1 rfl) <| cp (oLd t3 tm) (s1 rfl) <| cp (oAs cV) trivial <| cp (oAs tm) (s1 rfl) <| cp (oAs (cI (by decide))) trivial <| .nil) (by kernel_rfl) (by kernel_rfl) ?_
          refine pSeq ?_
          refine wNil (kR f_api_Instr) 78 9004 4 rfl rfl ?_
          refine wFrzR (n := 0) (id := 9004) [4] rfl rfl ⟨rfl, trivial⟩ ?_
          refine wRet ?_
          refine pBlkR ?_
          refine pThenR ?_
          obtain rfl := so h
          exact pRn (.inl rfl) rfl rfl (.tmp rfl <| .tmp rfl <| .tmp rfl <| .nil)
      · refine wNF hp6 tm (s1 rfl) ?_
        refine wSeq ?_
        obtain ⟨y10, hy10, h⟩ := bd h
        refine rgD hm (cp (oMv tm) (s1 rfl) <| cp (oMv tm) (s1 rfl) <| cp (oIdx u88 z93 hy10 tm tm) (s2 rfl rfl) <| cp (oFld (fs := f_api_Tok) (k := 2) rfl o93_2 tm) (s1 rfl) <| cp (oLd t3 tm) (s1 rfl) <| cp (oMv tm) (s1 rfl) <| cp (oAs cV) trivial <| cp (oAs tm) (s1 rfl) <| cp (oAs tm) (s1 rfl) <| .nil) (by kernel_rfl) (by kernel_rfl) ?_
        refine pSeq ?_
        refine wNil (kR f_api_Instr) 78 9004 4 rfl rfl ?_
        refine wFrzR (n := 0) (id := 9004) [4] rfl rfl ⟨rfl, trivial⟩ ?_
        refine wRet ?_
        refine pBlkR ?_
        refine pThenR ?_
        obtain rfl := so h
        exact pRn (.inl rfl) rfl rfl (.tmp rfl <| .tmp rfl <| .tmp rfl <| .nil)
    · refine wNF hp4 tm (s1 rfl) ?_
      refine wSeq ?_
      refine rg (cp (oMv tm) (s1 rfl) <| cp (oMv tm) (s1 rfl) <| cp (oAs cV) trivial <| cp (oAs tm) (s1 rfl) <| cp (oAs tm) (s1 rfl) <| .nil) (by kernel_rfl) ?_
      refine pSeq ?_
      refine wNil (kR f_api_Instr) 78 9004 4 rfl rfl ?_
      refine wFrzR (n := 0) (id := 9004) [4] rfl rfl ⟨rfl, trivial⟩ ?_
      refine wRet ?_
      refine pThenR ?_
      obtain rfl := so h
      exact pRn (.inl rfl) rfl rfl (.tmp rfl <| .tmp rfl <| .tmp rfl <| .nil)
  · refine wNF hp2 tm (s1 rfl) ?_
    refine wSeq ?_
    refine rg (cp (oMv tm) (s1 rfl) <| cp (oAs cV) trivial <| cp (oAs (cI (by decide))) trivial <| cp (oAs tm) (s1 rfl) <| .nil) (by kernel_rfl) ?_
    refine pSeq ?_
    refine wNil (kR f_api_Instr) 78 9004 4 rfl rfl ?_
    refine wFrzR (n := 0) (id := 9004) [4] rfl rfl ⟨rfl, trivial⟩ ?_
    refine wRet ?_
    refine pThenR ?_
    obtain rfl := so h
    exact pRn (.inl rfl) rfl rfl (.tmp rfl <| .tmp rfl <| .tmp rfl <| .nil)

theorem reticentref08_Same.ok {a0 : List api_Instr} {a1 : List api_Instr} {r : Bool} (h : reticentref08_Same.f a0 a1 = some r) : FnA Tryd.prog 18 [(kL (kR f_api_Instr)).sig a0, (kL (kR f_api_Instr)).sig a1] (kB.sig r) := by
  refine fnIntro Tryd.func18 rfl (by kernel_rfl) fun H0 w0 => ?_
  unfold reticentref08_Same.f at h
  refine wSeq ?_
  refine rg (cp (oAs cB) trivial <| .nil) (by kernel_rfl) ?_
  refine pSeq ?_
  refine wSeq ?_
  refine wSeq ?_
  refine rg (cp (oMv tm) (s1 rfl) <| cp (oLenL u39 tm) (s1 rfl) <| cp (oMv tm) (s1 rfl) <| cp (oLenL u39 tm) (s1 rfl) <| cp (oNe rfl tm tm) (s2 rfl rfl) <| .nil) (by kernel_rfl) ?_
  refine pSeq ?_
  rcases ic h with ⟨hp1, h⟩ | ⟨hp1, h⟩
  · refine wNT hp1 tm (s1 rfl) ?_
    refine wSkip ?_
    refine pSeq ?_
    refine wSeq ?_
    refine wSeq ?_
    refine rg (cp (oMv tm) (s1 rfl) <| cp (oLenL u39 tm) (s1 rfl) <| cp (oMv (cI (by decide))) trivial <| .nil) (by kernel_rfl) ?_
    refine pSeq ?_
    obtain ⟨o1, h, hk1⟩ := bd h
    refine wK0 (.inr () = o1) ([]) ([]) ?_ ?_
    · refine wBlock (wLoop ?_)
      refine lW (pc1 o1 (fun v10 => [(0, .d ((kL (kR f_api_Instr)).sig a0)), (1, .d ((kL (kR f_api_Instr)).sig a1)), (12, .d ((kI .i64).sig (a0.length : Int))), (13, .d ((kI .i64).sig v10))]) (fun v10 => []) (reticentref08_Same.l0.partial_correctness a0 a1) ?_ _ h) ⟨rfl, rfl, rfl, rfl, trivial⟩ rfl
      clear h
      intro f' ih v10 h
      refine wSeq ?_
      refine rg (cp (oLt rfl tm tm) (s2 rfl rfl) <| .nil) (by kernel_rfl) ?_
      refine pSeq ?_
      refine wSeq ?_
      rcases ic h with ⟨hp11, h⟩ | ⟨hp11, h⟩
      · refine wCT hp11 tm (s1 rfl) ?_
        refine wSkip ?_
        refine pSeq ?_
        refine wSeq ?_
        refine wBlock ?_
        refine wSeq ?_
        refine rg (cp (oMv tm) (s1 rfl) <| cp (oAs tm) (s1 rfl) <| .nil) (by kernel_rfl) ?_
        refine pSeq ?_
        refine wSeq ?_
        obtain ⟨y12, hy12, h⟩ := bd h
        obtain ⟨y13, hy13, h⟩ := bd h
        refine rgD hm (cp (oMv tm) (s1 rfl) <| cp (oMv tm) (s1 rfl) <| cp (oIdx u39 z78 hy12 tm tm) (s2 rfl rfl) <| cp (oLd t78 tm) (s1 rfl) <| cp (oMv tm) (s1 rfl) <| cp (oMv tm) (s1 rfl) <| cp (oIdx u39 z78 hy13 tm tm) (s2 rfl rfl) <| cp (oLd t78 tm) (s1 rfl) <| cp (oRNe eqk78 rfl eg78 rfl tm tm) (s2 rfl rfl) <| .nil) (by kernel_rfl) (by kernel_rfl) ?_
        refine pSeq ?_
        rcases ic h with ⟨hp14, h⟩ | ⟨hp14, h⟩
        · refine wNT hp14 tm (s1 rfl) ?_
          refine wSkip ?_
          refine pBlkN ?_
          refine pSeq ?_
          refine rg (cp (oAdd tm (cI (by decide))) (s1 rfl) <| cp (oMv tm) (s1 rfl) <| .nil) (by kernel_rfl) ?_
          exact pLoop (lW (ih _ h) ⟨rfl, rfl, rfl, rfl, trivial⟩ rfl)
        · refine wNF hp14 tm (s1 rfl) ?_
          refine wSeq ?_
          refine rg (cp (oAs cB) trivial <| .nil) (by kernel_rfl) ?_
          refine pSeq ?_
          refine wRet ?_
          refine pBlkR ?_
          refine pThenR ?_
          refine pThenR ?_
          refine pBlkR ?_
          refine pThenR ?_
          obtain rfl := so h
          replace h := hk1
          refine pThenR ?_
          obtain rfl := so h
          exact pR1 (.inl rfl) rfl (.tmp rfl <| .nil)
      · refine wCF hp11 tm (s1 rfl) ?_
        refine wExit ?_
        refine pThenX ?_
        refine pThenX ?_
        refine pBlkX ?_
        exact pJ0 (so h) trivial rfl
    · rintro rfl
      replace h := hk1
      refine pSeq ?_
      refine wSeq ?_
      refine rg (cp (oAs cB) trivial <| .nil) (by kernel_rfl) ?_
      refine pSeq ?_
      refine wRet ?_
      obtain rfl := so h
      exact pR1 (.inl rfl) rfl (.tmp rfl <| .nil)
  · refine wNF hp1 tm (s1 rfl) ?_
    refine wSeq ?_
    refine rg (cp (oAs cB) trivial <| .nil) (by kernel_rfl) ?_
    refine pSeq ?_
    refine wRet ?_
    refine pThenR ?_
    obtain rfl := so h
    exact pR1 (.inl rfl) rfl (.tmp rfl <| .nil)

theorem reticentlaw08_alive.ok {r : Bool} (h : reticentlaw08_alive.f = some r) : FnA Tryd.prog 19 [] (kB.sig r) := by
  refine fnIntro Tryd.func19 rfl (by kernel_rfl) fun H0 w0 => ?_
  unfold reticentlaw08_alive.f at h
  refine wSeq ?_
  refine rg (cp (oAs cB) trivial <| .nil) (by kernel_rfl) ?_
  refine pSeq ?_
  refine wSeq ?_
  refine rg (cp (oLit (d := kS) el35 (by decide) rfl rfl rfl (e1 (cS (by decide)) (e1 (cS (by decide)) e0))) trivial <| cp (oLit (d := (kI .u32)) el36 (by decide) rfl rfl rfl (e1 (cI (by decide)) (e1 (cI (by decide)) e0))) trivial <| cp (oBuild (fs := f_api_Lattice) (u := ⟨([([97] : Str), ([98] : Str)] : List Str), ([3, 2] : List Int)⟩) rfl ze38 pl38 po38 (.op (zc := [(.slice none 0 0)]) tm rfl (.op (zc := [(.slice none 0 0)]) tm rfl .nil))) (s2 rfl rfl) <| cw (oAlloc (id := 1) (ls := [.d (kL kS) [], .d (kL (kI .u32)) []]) ze38 (fun g => ⟨[(.slice none 0 0)], _, rfl, zL g.H, ⟨[(.slice none 0 0)], _, rfl, zL g.H, rfl⟩⟩)) trivial <| cwn (oStA (n := 0) (fs := f_api_Lattice) rfl rfl z38 tm tm) (s2 rfl rfl) <| .nil) (by kernel_rfl) ?_
  refine pSeq ?_
  refine wSeq ?_
  obtain ⟨y1, hy1, h⟩ := bd h
  refine rg (cr (oLdA (n := 0) (fs := f_api_Lattice) (u := ⟨([([97] : Str), ([98] : Str)] : List Str), ([3, 2] : List Int)⟩) rfl ⟨rfl, rfl, trivial⟩ t38 tm) (s1 rfl) <| cp (oCall rfl (code_Parse.ok hy1) b21 (opds_cons tm (opds_cons (cS (by decide)) opds_nil))) (s1 rfl) <| cp (oMv tm) (s1 rfl) <| cp (oExt (k := 0) rfl tm) (s1 rfl) <| cp (oExt (k := 1) rfl tm) (s1 rfl) <| cp (oExt (k := 2) rfl tm) (s1 rfl) <| cp (oAs tm) (s1 rfl) <| cp (oAs tm) (s1 rfl) <| cp (oAs tm) (s1 rfl) <| .nil) (by kernel_rfl) ?_
  refine pSeq ?_
  obtain ⟨o1, h, hk1⟩ := bd h
  refine wJ1 (fun x7 => x7 = o1) (fun x7 => [(0, .d (kB.sig x7))]) (fun x7 => [.box 1 38 [.d (kL kS) ([([97] : Str), ([98] : Str)] : List Str), .d (kL (kI .u32)) ([3, 2] : List Int)]]) ?_ ?_
  · rcases ic h with ⟨hp8, h⟩ | ⟨hp8, h⟩
    · rcases ic h with ⟨hp9, h⟩ | ⟨hp9, h⟩
      · obtain ⟨y10, hy10, h⟩ := bd h
        rcases ic h with ⟨hp11, h⟩ | ⟨hp11, h⟩
        · obtain ⟨y12, hy12, h⟩ := bd h
          refine rg (cp (oMv tm) (s1 rfl) <| cp (oEq rfl tm (cI (by decide))) (s1 rfl) <| cp (oMv tm) (s1 rfl) <| cgB (decide_eq_true hp8) rfl rfl (oMv tm) (s1 rfl) <| cgB (decide_eq_true hp8) rfl rfl (oLenL u39 tm) (s1 rfl) <| cgB (decide_eq_true hp8) rfl rfl (oEq rfl tm (cI (by decide))) (s1 rfl) <| cp (oPkT (decide_eq_true hp8) tm tm) (s2 rfl rfl) <| cp (oMv tm) (s1 rfl) <| cgB (decide_eq_true hp9) rfl rfl (oMv tm) (s1 rfl) <| cgB (decide_eq_true hp9) rfl rfl (oIdx u39 z78 hy10 tm (cI (by decide))) (s1 rfl) <| cgB (decide_eq_true hp9) rfl rfl (oLd t78 tm) (s1 rfl) <| cgB (decide_eq_true hp9) rfl rfl (oBuild (fs := f_api_Instr) (u := ⟨1, (-3), 1⟩) rfl ze78 pl78 po78 (.op (zc := [(.int .i64 0)]) (cI (by decide)) rfl (.op (zc := [(.int .i64 0)]) (cI (by decide)) rfl (.op (zc := [(.int .i64 0)]) (cI (by decide)) rfl .nil)))) trivial <| cgB (decide_eq_true hp9) rfl rfl (oREq eqk78 rfl eg78 rfl tm tm) (s2 rfl rfl) <| cp (oPkT (decide_eq_true hp9) tm tm) (s2 rfl rfl) <| cp (oMv tm) (s1 rfl) <| crgB (decide_eq_true hp11) rfl rfl (oLdA (n := 0) (fs := f_api_Lattice) (u := ⟨([([97] : Str), ([98] : Str)] : List Str), ([3, 2] : List Int)⟩) rfl ⟨rfl, rfl, trivial⟩ t38 tm) (s1 rfl) <| cgB (decide_eq_true hp11) rfl rfl (oMv tm) (s1 rfl) <| cgB (decide_eq_true hp11) rfl rfl (oCall rfl (code_Right.ok hy12) b16 (opds_cons tm (opds_cons tm opds_nil))) (s2 rfl rfl) <| cp (oPkT (decide_eq_true hp11) tm tm) (s2 rfl rfl) <| cp (oAs tm) (s1 rfl) <| .nil) (by kernel_rfl) ?_
          exact pJ1 _ (so h) ⟨rfl, trivial⟩ rfl
        · refine rg (cp (oMv tm) (s1 rfl) <| cp (oEq rfl tm (cI (by decide))) (s1 rfl) <| cp (oMv tm) (s1 rfl) <| cgB (decide_eq_true hp8) rfl rfl (oMv tm) (s1 rfl) <| cgB (decide_eq_true hp8) rfl rfl (oLenL u39 tm) (s1 rfl) <| cgB (decide_eq_true hp8) rfl rfl (oEq rfl tm (cI (by decide))) (s1 rfl) <| cp (oPkT (decide_eq_true hp8) tm tm) (s2 rfl rfl) <| cp (oMv tm) (s1 rfl) <| cgB (decide_eq_true hp9) rfl rfl (oMv tm) (s1 rfl) <| cgB (decide_eq_true hp9) rfl rfl (oIdx u39 z78 hy10 tm (cI (by decide))) (s1 rfl) <| cgB (decide_eq_true hp9) rfl rfl (oLd t78 tm) (s1 rfl) <| cgB (decide_eq_true hp9) rfl rfl (oBuild (fs := f_api_Instr) (u := ⟨1, (-3), 1⟩) rfl ze78 pl78 po78 (.op (zc := [(.int .i64 0)]) (cI (by decide)) rfl (.op (zc := [(.int .i64 0)]) (cI (by decide)) rfl (.op (zc := [(.int .i64 0)]) (cI (by decide)) rfl .nil)))) trivial <| cgB (decide_eq_true hp9) rfl rfl (oREq eqk78 rfl eg78 rfl tm tm) (s2 rfl rfl) <| cp (oPkT (decide_eq_true hp9) tm tm) (s2 rfl rfl) <| cp (oMv tm) (s1 rfl) <| csB (decide_eq_false hp11) rfl rfl <| csB (decide_eq_false hp11) rfl rfl <| csB (decide_eq_false hp11) rfl rfl <| cp (oPkF (decide_eq_false hp11) tm cB) (s1 rfl) <| cp (oAs tm) (s1 rfl) <| .nil) (by kernel_rfl) ?_
          exact pJ1 _ (so h) ⟨rfl, trivial⟩ rfl
      · refine rg (cp (oMv tm) (s1 rfl) <| cp (oEq rfl tm (cI (by decide))) (s1 rfl) <| cp (oMv tm) (s1 rfl) <| cgB (decide_eq_true hp8) rfl rfl (oMv tm) (s1 rfl) <| cgB (decide_eq_true hp8) rfl rfl (oLenL u39 tm) (s1 rfl) <| cgB (decide_eq_true hp8) rfl rfl (oEq rfl tm (cI (by decide))) (s1 rfl) <| cp (oPkT (decide_eq_true hp8) tm tm) (s2 rfl rfl) <| cp (oMv tm) (s1 rfl) <| csB (decide_eq_false hp9) rfl rfl <| csB (decide_eq_false hp9) rfl rfl <| csB (decide_eq_false hp9) rfl rfl <| csB (decide_eq_false hp9) rfl rfl <| csB (decide_eq_false hp9) rfl rfl <| cp (oPkF (decide_eq_false hp9) tm cB) (s1 rfl) <| cp (oMv tm) (s1 rfl) <| csB rfl rfl rfl <| csB rfl rfl rfl <| csB rfl rfl rfl <| cp (oPkF rfl tm cB) (s1 rfl) <| cp (oAs tm) (s1 rfl) <| .nil) (by kernel_rfl) ?_
        exact pJ1 _ (so h) ⟨rfl, trivial⟩ rfl
    · refine rg (cp (oMv tm) (s1 rfl) <| cp (oEq rfl tm (cI (by decide))) (s1 rfl) <| cp (oMv tm) (s1 rfl) <| csB (decide_eq_false hp8) rfl rfl <| csB (decide_eq_false hp8) rfl rfl <| csB (decide_eq_false hp8) rfl rfl <| cp (oPkF (decide_eq_false hp8) tm cB) (s1 rfl) <| cp (oMv tm) (s1 rfl) <| csB rfl rfl rfl <| csB rfl rfl rfl <| csB rfl rfl rfl <| csB rfl rfl rfl <| csB rfl rfl rfl <| cp (oPkF rfl tm cB) (s1 rfl) <| cp (oMv tm) (s1 rfl) <| csB rfl rfl rfl <| csB rfl rfl rfl <| csB rfl rfl rfl <| cp (oPkF rfl tm cB) (s1 rfl) <| cp (oAs tm) (s1 rfl) <| .nil) (by kernel_rfl) ?_
      exact pJ1 _ (so h) ⟨rfl, trivial⟩ rfl
  · rintro x7 rfl
    replace h := hk1
    refine wRet ?_
    obtain rfl := so h
    exact pR1 (.inl rfl) rfl (.tmp rfl <| .nil)

theorem reticentlaw08_CodeBack.ok {a0 : api_Lattice} {a1 : List api_Instr} {a2 : Str} {r : Bool} (h : reticentlaw08_CodeBack.f a0 a1 a2 = some r) : FnA Tryd.prog 5 [(kR f_api_Lattice).sig a0, (kL (kR f_api_Instr)).sig a1, kS.sig a2] (kB.sig r) := by
  refine fnIntro Tryd.func5 rfl (by kernel_rfl) fun H0 w0 => ?_
  unfold reticentlaw08_CodeBack.f at h
  refine wSeq ?_
  refine rg (cw (oBoxS (id := 3) (fs := f_api_Lattice) tm) (s1 rfl) <| cp (oAs cB) trivial <| .nil) (by kernel_rfl) ?_
  refine pSeq ?_
  refine wSeq ?_
  obtain ⟨y1, hy1, h⟩ := bd h
  obtain ⟨hc2, h⟩ := ib h
  obtain ⟨hc3, h⟩ := ib h
  refine rgD hm (cr (oLdA (n := 0) (fs := f_api_Lattice) (u := ⟨a0.Names, a0.Up⟩) rfl ⟨rfl, rfl, trivial⟩ t38 tm) (s1 rfl) <| cp (oCall rfl (reticentlaw08_few.ok hy1) b12 (opds_cons tm opds_nil)) (s1 rfl) <| cp (oMv tm) (s1 rfl) <| cp (oMv tm) (s1 rfl) <| cp (oLenL u39 tm) (s1 rfl) <| cp (oMin tm (cI (by decide))) (s1 rfl) <| cp (oCutHi u39 z78 hc2.1 hc2.2 tm tm) (s2 rfl rfl) <| cp (oMv tm) (s1 rfl) <| cp (oMv tm) (s1 rfl) <| cp (oLenS u9 tm) (s1 rfl) <| cp (oMin tm (cI (by decide))) (s1 rfl) <| cp (oCutSH u9 hc3.1 hc3.2 tm tm) (s2 rfl rfl) <| cwn (oStA (n := 0) (fs := f_api_Lattice) rfl rfl z38 tm tm) (s2 rfl rfl) <| cp (oAs tm) (s1 rfl) <| cp (oAs tm) (s1 rfl) <| .nil) (by kernel_rfl) (by kernel_rfl) ?_
  refine pSeq ?_
  refine wSeq ?_
  refine wSeq ?_
  obtain ⟨y4, hy4, h⟩ := bd h
  refine rg (cr (oLdA (n := 0) (fs := f_api_Lattice) (u := ⟨y1.Names, y1.Up⟩) rfl ⟨rfl, rfl, trivial⟩ t38 tm) (s1 rfl) <| cp (oMv tm) (s1 rfl) <| cp (oCall rfl (code_Text.ok hy4) b13 (opds_cons tm (opds_cons tm opds_nil))) (s2 rfl rfl) <| cp (oMv tm) (s1 rfl) <| cp (oExt (k := 0) rfl tm) (s1 rfl) <| cp (oExt (k := 1) rfl tm) (s1 rfl) <| cp (oAs tm) (s1 rfl) <| cp (oAs tm) (s1 rfl) <| .nil) (by kernel_rfl) ?_
  refine pSeq ?_
  refine wSeq ?_
  refine rg (cp (oMv tm) (s1 rfl) <| cp (oEq rfl tm (cI (by decide))) (s1 rfl) <| .nil) (by kernel_rfl) ?_
  refine pSeq ?_
  rcases ic h with ⟨hp5, h⟩ | ⟨hp5, h⟩
  · refine wCT hp5 tm (s1 rfl) ?_
    refine wSeq ?_
    obtain ⟨y6, hy6, h⟩ := bd h
    refine rg (cr (oLdA (n := 0) (fs := f_api_Lattice) (u := ⟨y1.Names, y1.Up⟩) rfl ⟨rfl, rfl, trivial⟩ t38 tm) (s1 rfl) <| cp (oMv tm) (s1 rfl) <| cp (oCall rfl (code_Parse.ok hy6) b21 (opds_cons tm (opds_cons tm opds_nil))) (s2 rfl rfl) <| cp (oMv tm) (s1 rfl) <| cp (oExt (k := 0) rfl tm) (s1 rfl) <| cp (oExt (k := 1) rfl tm) (s1 rfl) <| cp (oExt (k := 2) rfl tm) (s1 rfl) <| cp (oAs tm) (s1 rfl) <| cp (oAs tm) (s1 rfl) <| cp (oAs tm) (s1 rfl) <| .nil) (by kernel_rfl) ?_
    refine pSeq ?_
    obtain ⟨o1, h, hk1⟩ := bd h
    refine wJ1 (fun x10 => x10 = o1) (fun x10 => [(2, .d (kS.sig (sCut a2 0 (if 2010 < (a2.length : Int) then 2010 else (a2.length : Int))))), (3, .p 3 0), (58, .d (kB.sig x10))]) (fun x10 => [.box 3 38 [.d (kL kS) y1.Names, .d (kL (kI .u32)) y1.Up]]) ?_ ?_
    · rcases ic h with ⟨hp11, h⟩ | ⟨hp11, h⟩
      · rcases ic h with ⟨hp12, h⟩ | ⟨hp12, h⟩
        · obtain ⟨y13, hy13, h⟩ := bd h
          refine rg (cp (oMv tm) (s1 rfl) <| cp (oNe rfl tm (cI (by decide))) (s1 rfl) <| cp (oMv tm) (s1 rfl) <| cgB (nf hp11) rfl rfl (oMv tm) (s1 rfl) <| cgB (nf hp11) rfl rfl (oNe rfl tm (cI (by decide))) (s1 rfl) <| cp (oPkF (nf hp11) tm tm) (s2 rfl rfl) <| cp (oMv tm) (s1 rfl) <| cgB (nf hp12) rfl rfl (oMv tm) (s1 rfl) <| cgB (nf hp12) rfl rfl (oMv tm) (s1 rfl) <| cgB (nf hp12) rfl rfl (oCall rfl (reticentref08_Same.ok hy13) b18 (opds_cons tm (opds_cons tm opds_nil))) (s2 rfl rfl) <| cgB (nf hp12) rfl rfl (oNot tm) (s1 rfl) <| cp (oPkF (nf hp12) tm tm) (s2 rfl rfl) <| .nil) (by kernel_rfl) ?_
          exact pJ1 _ (so h) ⟨rfl, rfl, rfl, trivial⟩ rfl
        · refine rg (cp (oMv tm) (s1 rfl) <| cp (oNe rfl tm (cI (by decide))) (s1 rfl) <| cp (oMv tm) (s1 rfl) <| cgB (nf hp11) rfl rfl (oMv tm) (s1 rfl) <| cgB (nf hp11) rfl rfl (oNe rfl tm (cI (by decide))) (s1 rfl) <| cp (oPkF (nf hp11) tm tm) (s2 rfl rfl) <| cp (oMv tm) (s1 rfl) <| csB (nt hp12) rfl rfl <| csB (nt hp12) rfl rfl <| csB (nt hp12) rfl rfl <| csB (nt hp12) rfl rfl <| cp (oPkT (nt hp12) tm cB) (s1 rfl) <| .nil) (by kernel_rfl) ?_
          exact pJ1 _ (so h) ⟨rfl, rfl, rfl, trivial⟩ rfl
      · refine rg (cp (oMv tm) (s1 rfl) <| cp (oNe rfl tm (cI (by decide))) (s1 rfl) <| cp (oMv tm) (s1 rfl) <| csB (nt hp11) rfl rfl <| csB (nt hp11) rfl rfl <| cp (oPkT (nt hp11) tm cB) (s1 rfl) <| cp (oMv tm) (s1 rfl) <| csB rfl rfl rfl <| csB rfl rfl rfl <| csB rfl rfl rfl <| csB rfl rfl rfl <| cp (oPkT rfl tm cB) (s1 rfl) <| .nil) (by kernel_rfl) ?_
        exact pJ1 _ (so h) ⟨rfl, rfl, rfl, trivial⟩ rfl
    · rintro x10 rfl
      replace h := hk1
      rcases ic h with ⟨hp14, h⟩ | ⟨hp14, h⟩
      · refine wBT hp14 tm (s1 rfl) ?_
        refine wSeq ?_
        refine rg (cp (oAs cB) trivial <| .nil) (by kernel_rfl) ?_
        refine pSeq ?_
        refine wRet ?_
        refine pThenR ?_
        obtain rfl := so h
        exact pR1 (.inl rfl) rfl (.tmp rfl <| .nil)
      · refine wBF hp14 tm (s1 rfl) ?_
        refine wSkip ?_
        refine pSeq ?_
        refine wSeq ?_
        obtain ⟨y15, hy15, h⟩ := bd h
        refine rg (cr (oLdA (n := 0) (fs := f_api_Lattice) (u := ⟨y1.Names, y1.Up⟩) rfl ⟨rfl, rfl, trivial⟩ t38 tm) (s1 rfl) <| cp (oMv tm) (s1 rfl) <| cp (oCall rfl (code_Parse.ok hy15) b21 (opds_cons tm (opds_cons tm opds_nil))) (s2 rfl rfl) <| cp (oMv tm) (s1 rfl) <| cp (oExt (k := 0) rfl tm) (s1 rfl) <| cp (oExt (k := 1) rfl tm) (s1 rfl) <| cp (oExt (k := 2) rfl tm) (s1 rfl) <| cp (oAs tm) (s1 rfl) <| cp (oAs tm) (s1 rfl) <| cp (oAs tm) (s1 rfl) <| .nil) (by kernel_rfl) ?_
        refine pSeq ?_
        refine wSeq ?_
        refine wSeq ?_
        refine rg (cp (oMv tm) (s1 rfl) <| cp (oNe rfl tm (cI (by decide))) (s1 rfl) <| .nil) (by kernel_rfl) ?_
        refine pSeq ?_
        rcases ic h with ⟨hp16, h⟩ | ⟨hp16, h⟩
        · refine wNT hp16 tm (s1 rfl) ?_
          refine wSkip ?_
          refine pSeq ?_
          refine wSeq ?_
          obtain ⟨y17, hy17, h⟩ := bd h
          refine rg (cr (oLdA (n := 0) (fs := f_api_Lattice) (u := ⟨y1.Names, y1.Up⟩) rfl ⟨rfl, rfl, trivial⟩ t38 tm) (s1 rfl) <| cp (oMv tm) (s1 rfl) <| cp (oCall rfl (code_Text.ok hy17) b13 (opds_cons tm (opds_cons tm opds_nil))) (s2 rfl rfl) <| cp (oMv tm) (s1 rfl) <| cp (oExt (k := 0) rfl tm) (s1 rfl) <| cp (oExt (k := 1) rfl tm) (s1 rfl) <| cp (oAs tm) (s1 rfl) <| cp (oAs tm) (s1 rfl) <| .nil) (by kernel_rfl) ?_
          refine pSeq ?_
          refine wSeq ?_
          obtain ⟨y18, hy18, h⟩ := bd h
          refine rg (cr (oLdA (n := 0) (fs := f_api_Lattice) (u := ⟨y1.Names, y1.Up⟩) rfl ⟨rfl, rfl, trivial⟩ t38 tm) (s1 rfl) <| cp (oMv tm) (s1 rfl) <| cp (oCall rfl (code_Parse.ok hy18) b21 (opds_cons tm (opds_cons tm opds_nil))) (s2 rfl rfl) <| cp (oMv tm) (s1 rfl) <| cp (oExt (k := 0) rfl tm) (s1 rfl) <| cp (oExt (k := 1) rfl tm) (s1 rfl) <| cp (oExt (k := 2) rfl tm) (s1 rfl) <| cp (oAs tm) (s1 rfl) <| cp (oAs tm) (s1 rfl) <| cp (oAs tm) (s1 rfl) <| .nil) (by kernel_rfl) ?_
          refine pSeq ?_
          obtain ⟨o1, h, hk1⟩ := bd h
          refine wJ1 (fun x26 => x26 = o1) (fun x26 => [(6, .d (kB.sig x26))]) (fun x26 => [.box 3 38 [.d (kL kS) y1.Names, .d (kL (kI .u32)) y1.Up]]) ?_ ?_
          · obtain ⟨y27, hy27, h⟩ := bd h
            rcases ic h with ⟨hp28, h⟩ | ⟨hp28, h⟩
            · obtain ⟨y29, hy29, h⟩ := bd h
              rcases ic h with ⟨hp30, h⟩ | ⟨hp30, h⟩
              · rcases ic h with ⟨hp31, h⟩ | ⟨hp31, h⟩
                · rcases ic h with ⟨hp32, h⟩ | ⟨hp32, h⟩
                  · obtain ⟨y33, hy33, h⟩ := bd h
                    refine rg (cp (oCall rfl (reticentlaw08_alive.ok hy27) b19 opds_nil) trivial <| cp (oMv tm) (s1 rfl) <| crgB hp28 rfl rfl (oLdA (n := 0) (fs := f_api_Lattice) (u := ⟨y1.Names, y1.Up⟩) rfl ⟨rfl, rfl, trivial⟩ t38 tm) (s1 rfl) <| cgB hp28 rfl rfl (oMv tm) (s1 rfl) <| cgB hp28 rfl rfl (oCall rfl (code_Right.ok hy29) b16 (opds_cons tm (opds_cons tm opds_nil))) (s2 rfl rfl) <| cp (oPkT hp28 tm tm) (s2 rfl rfl) <| cp (oMv tm) (s1 rfl) <| cgB hp30 rfl rfl (oMv tm) (s1 rfl) <| cgB hp30 rfl rfl (oEq rfl tm (cI (by decide))) (s1 rfl) <| cp (oPkT hp30 tm tm) (s2 rfl rfl) <| cp (oMv tm) (s1 rfl) <| cgB (decide_eq_true hp31) rfl rfl (oMv tm) (s1 rfl) <| cgB (decide_eq_true hp31) rfl rfl (oEq rfl tm (cI (by decide))) (s1 rfl) <| cp (oPkT (decide_eq_true hp31) tm tm) (s2 rfl rfl) <| cp (oMv tm) (s1 rfl) <| cgB (decide_eq_true hp32) rfl rfl (oMv tm) (s1 rfl) <| cgB (decide_eq_true hp32) rfl rfl (oMv tm) (s1 rfl) <| cgB (decide_eq_true hp32) rfl rfl (oCall rfl (reticentref08_Same.ok hy33) b18 (opds_cons tm (opds_cons tm opds_nil))) (s2 rfl rfl) <| cp (oPkT (decide_eq_true hp32) tm tm) (s2 rfl rfl) <| cp (oAs tm) (s1 rfl) <| .nil) (by kernel_rfl) ?_
                    exact pJ1 _ (so h) ⟨rfl, trivial⟩ rfl
                  · refine rg (cp (oCall rfl (reticentlaw08_alive.ok hy27) b19 opds_nil) trivial <| cp (oMv tm) (s1 rfl) <| crgB hp28 rfl rfl (oLdA (n := 0) (fs := f_api_Lattice) (u := ⟨y1.Names, y1.Up⟩) rfl ⟨rfl, rfl, trivial⟩ t38 tm) (s1 rfl) <| cgB hp28 rfl rfl (oMv tm) (s1 rfl) <| cgB hp28 rfl rfl (oCall rfl (code_Right.ok hy29) b16 (opds_cons tm (opds_cons tm opds_nil))) (s2 rfl rfl) <| cp (oPkT hp28 tm tm) (s2 rfl rfl) <| cp (oMv tm) (s1 rfl) <| cgB hp30 rfl rfl (oMv tm) (s1 rfl) <| cgB hp30 rfl rfl (oEq rfl tm (cI (by decide))) (s1 rfl) <| cp (oPkT hp30 tm tm) (s2 rfl rfl) <| cp (oMv tm) (s1 rfl) <| cgB (decide_eq_true hp31) rfl rfl (oMv tm) (s1 rfl) <| cgB (decide_eq_true hp31) rfl rfl (oEq rfl tm (cI (by decide))) (s1 rfl) <| cp (oPkT (decide_eq_true hp31) tm tm) (s2 rfl rfl) <| cp (oMv tm) (s1 rfl) <| csB (decide_eq_false hp32) rfl rfl <| csB (decide_eq_false hp32) rfl rfl <| csB (decide_eq_false hp32) rfl rfl <| cp (oPkF (decide_eq_false hp32) tm cB) (s1 rfl) <| cp (oAs tm) (s1 rfl) <| .nil) (by kernel_rfl) ?_
                    exact pJ1 _ (so h) ⟨rfl, trivial⟩ rfl
                · refine rg (cp (oCall rfl (reticentlaw08_alive.ok hy27) b19 opds_nil) trivial <| cp (oMv tm) (s1 rfl) <| crgB hp28 rfl rfl (oLdA (n := 0) (fs := f_api_Lattice) (u := ⟨y1.Names, y1.Up⟩) rfl ⟨rfl, rfl, trivial⟩ t38 tm) (s1 rfl) <| cgB hp28 rfl rfl (oMv tm) (s1 rfl) <| cgB hp28 rfl rfl (oCall rfl (code_Right.ok hy29) b16 (opds_cons tm (opds_cons tm opds_nil))) (s2 rfl rfl) <| cp (oPkT hp28 tm tm) (s2 rfl rfl) <| cp (oMv tm) (s1 rfl) <| cgB hp30 rfl rfl (oMv tm) (s1 rfl) <| cgB hp30 rfl rfl (oEq rfl tm (cI (by decide))) (s1 rfl) <| cp (oPkT hp30 tm tm) (s2 rfl rfl) <| cp (oMv tm) (s1 rfl) <| csB (decide_eq_false hp31) rfl rfl <| csB (decide_eq_false hp31) rfl rfl <| cp (oPkF (decide_eq_false hp31) tm cB) (s1 rfl) <| cp (oMv tm) (s1 rfl) <| csB rfl rfl rfl <| csB rfl rfl rfl <| csB rfl rfl rfl <| cp (oPkF rfl tm cB) (s1 rfl) <| cp (oAs tm) (s1 rfl) <| .nil) (by kernel_rfl) ?_
                  exact pJ1 _ (so h) ⟨rfl, trivial⟩ rfl
              · refine rg (cp (oCall rfl (reticentlaw08_alive.ok hy27) b19 opds_nil) trivial <| cp (oMv tm) (s1 rfl) <| crgB hp28 rfl rfl (oLdA (n := 0) (fs := f_api_Lattice) (u := ⟨y1.Names, y1.Up⟩) rfl ⟨rfl, rfl, trivial⟩ t38 tm) (s1 rfl) <| cgB hp28 rfl rfl (oMv tm) (s1 rfl) <| cgB hp28 rfl rfl (oCall rfl (code_Right.ok hy29) b16 (opds_cons tm (opds_cons tm opds_nil))) (s2 rfl rfl) <| cp (oPkT hp28 tm tm) (s2 rfl rfl) <| cp (oMv tm) (s1 rfl) <| csB (nb hp30) rfl rfl <| csB (nb hp30) rfl rfl <| cp (oPkF (nb hp30) tm cB) (s1 rfl) <| cp (oMv tm) (s1 rfl) <| csB rfl rfl rfl <| csB rfl rfl rfl <| cp (oPkF rfl tm cB) (s1 rfl) <| cp (oMv tm) (s1 rfl) <| csB rfl rfl rfl <| csB rfl rfl rfl <| csB rfl rfl rfl <| cp (oPkF rfl tm cB) (s1 rfl) <| cp (oAs tm) (s1 rfl) <| .nil) (by kernel_rfl) ?_
                exact pJ1 _ (so h) ⟨rfl, trivial⟩ rfl
            · refine rg (cp (oCall rfl (reticentlaw08_alive.ok hy27) b19 opds_nil) trivial <| cp (oMv tm) (s1 rfl) <| csB (nb hp28) rfl rfl <| csB (nb hp28) rfl rfl <| csB (nb hp28) rfl rfl <| cp (oPkF (nb hp28) tm cB) (s1 rfl) <| cp (oMv tm) (s1 rfl) <| csB rfl rfl rfl <| csB rfl rfl rfl <| cp (oPkF rfl tm cB) (s1 rfl) <| cp (oMv tm) (s1 rfl) <| csB rfl rfl rfl <| csB rfl rfl rfl <| cp (oPkF rfl tm cB) (s1 rfl) <| cp (oMv tm) (s1 rfl) <| csB rfl rfl rfl <| csB rfl rfl rfl <| csB rfl rfl rfl <| cp (oPkF rfl tm cB) (s1 rfl) <| cp (oAs tm) (s1 rfl) <| .nil) (by kernel_rfl) ?_
              exact pJ1 _ (so h) ⟨rfl, trivial⟩ rfl
          · rintro x26 rfl
            replace h := hk1
            refine wRet ?_
            obtain rfl := so h
            exact pR1 (.inl rfl) rfl (.tmp rfl <| .nil)
        · refine wNF hp16 tm (s1 rfl) ?_
          obtain ⟨o1, h, hk1⟩ := bd h
          refine wJ1 (fun x36 => x36 = o1) (fun x36 => [(6, .d (kB.sig x36))]) (fun x36 => [.box 3 38 [.d (kL kS) y1.Names, .d (kL (kI .u32)) y1.Up]]) ?_ ?_
          · obtain ⟨y37, hy37, h⟩ := bd h
            rcases ic h with ⟨hp38, h⟩ | ⟨hp38, h⟩
            · refine rg (cp (oCall rfl (reticentlaw08_alive.ok hy37) b19 opds_nil) trivial <| cp (oMv tm) (s1 rfl) <| cgB hp38 rfl rfl (oMv tm) (s1 rfl) <| cgB hp38 rfl rfl (oLenL u39 tm) (s1 rfl) <| cgB hp38 rfl rfl (oEq rfl tm (cI (by decide))) (s1 rfl) <| cp (oPkT hp38 tm tm) (s2 rfl rfl) <| cp (oAs tm) (s1 rfl) <| .nil) (by kernel_rfl) ?_
              exact pJ1 _ (so h) ⟨rfl, trivial⟩ rfl
            · refine rg (cp (oCall rfl (reticentlaw08_alive.ok hy37) b19 opds_nil) trivial <| cp (oMv tm) (s1 rfl) <| csB (nb hp38) rfl rfl <| csB (nb hp38) rfl rfl <| csB (nb hp38) rfl rfl <| cp (oPkF (nb hp38) tm cB) (s1 rfl) <| cp (oAs tm) (s1 rfl) <| .nil) (by kernel_rfl) ?_
              exact pJ1 _ (so h) ⟨rfl, trivial⟩ rfl
          · rintro x36 rfl
            replace h := hk1
            refine wRet ?_
            refine pThenR ?_
            obtain rfl := so h
            exact pR1 (.inl rfl) rfl (.tmp rfl <| .nil)
  · refine wCF hp5 tm (s1 rfl) ?_
    refine wSkip ?_
    refine pSeq ?_
    refine wSeq ?_
    obtain ⟨y39, hy39, h⟩ := bd h
    refine rg (cr (oLdA (n := 0) (fs := f_api_Lattice) (u := ⟨y1.Names, y1.Up⟩) rfl ⟨rfl, rfl, trivial⟩ t38 tm) (s1 rfl) <| cp (oMv tm) (s1 rfl) <| cp (oCall rfl (code_Parse.ok hy39) b21 (opds_cons tm (opds_cons tm opds_nil))) (s2 rfl rfl) <| cp (oMv tm) (s1 rfl) <| cp (oExt (k := 0) rfl tm) (s1 rfl) <| cp (oExt (k := 1) rfl tm) (s1 rfl) <| cp (oExt (k := 2) rfl tm) (s1 rfl) <| cp (oAs tm) (s1 rfl) <| cp (oAs tm) (s1 rfl) <| cp (oAs tm) (s1 rfl) <| .nil) (by kernel_rfl) ?_
    refine pSeq ?_
    refine wSeq ?_
    refine wSeq ?_
    refine rg (cp (oMv tm) (s1 rfl) <| cp (oNe rfl tm (cI (by decide))) (s1 rfl) <| .nil) (by kernel_rfl) ?_
    refine pSeq ?_
    rcases ic h with ⟨hp40, h⟩ | ⟨hp40, h⟩
    · refine wNT hp40 tm (s1 rfl) ?_
      refine wSkip ?_
      refine pSeq ?_
      refine wSeq ?_
      obtain ⟨y41, hy41, h⟩ := bd h
      refine rg (cr (oLdA (n := 0) (fs := f_api_Lattice) (u := ⟨y1.Names, y1.Up⟩) rfl ⟨rfl, rfl, trivial⟩ t38 tm) (s1 rfl) <| cp (oMv tm) (s1 rfl) <| cp (oCall rfl (code_Text.ok hy41) b13 (opds_cons tm (opds_cons tm opds_nil))) (s2 rfl rfl) <| cp (oMv tm) (s1 rfl) <| cp (oExt (k := 0) rfl tm) (s1 rfl) <| cp (oExt (k := 1) rfl tm) (s1 rfl) <| cp (oAs tm) (s1 rfl) <| cp (oAs tm) (s1 rfl) <| .nil) (by kernel_rfl) ?_
      refine pSeq ?_
      refine wSeq ?_
      obtain ⟨y42, hy42, h⟩ := bd h
      refine rg (cr (oLdA (n := 0) (fs := f_api_Lattice) (u := ⟨y1.Names, y1.Up⟩) rfl ⟨rfl, rfl, trivial⟩ t38 tm) (s1 rfl) <| cp (oMv tm) (s1 rfl) <| cp (oCall rfl (code_Parse.ok hy42) b21 (opds_cons tm (opds_cons tm opds_nil))) (s2 rfl rfl) <| cp (oMv tm) (s1 rfl) <| cp (oExt (k := 0) rfl tm) (s1 rfl) <| cp (oExt (k := 1) rfl tm) (s1 rfl) <| cp (oExt (k := 2) rfl tm) (s1 rfl) <| cp (oAs tm) (s1 rfl) <| cp (oAs tm) (s1 rfl) <| cp (oAs tm) (s1 rfl) <| .nil) (by kernel_rfl) ?_
      refine pSeq ?_
      obtain ⟨o1, h, hk1⟩ := bd h
      refine wJ1 (fun x50 => x50 = o1) (fun x50 => [(6, .d (kB.sig x50))]) (fun x50 => [.box 3 38 [.d (kL kS) y1.Names, .d (kL (kI .u32)) y1.Up]]) ?_ ?_
      · obtain ⟨y51, hy51, h⟩ := bd h
        rcases ic h with ⟨hp52, h⟩ | ⟨hp52, h⟩
        · obtain ⟨y53, hy53, h⟩ := bd h
          rcases ic h with ⟨hp54, h⟩ | ⟨hp54, h⟩
          · rcases ic h with ⟨hp55, h⟩ | ⟨hp55, h⟩
            · rcases ic h with ⟨hp56, h⟩ | ⟨hp56, h⟩
              · obtain ⟨y57, hy57, h⟩ := bd h
                refine rg (cp (oCall rfl (reticentlaw08_alive.ok hy51) b19 opds_nil) trivial <| cp (oMv tm) (s1 rfl) <| crgB hp52 rfl rfl (oLdA (n := 0) (fs := f_api_Lattice) (u := ⟨y1.Names, y1.Up⟩) rfl ⟨rfl, rfl, trivial⟩ t38 tm) (s1 rfl) <| cgB hp52 rfl rfl (oMv tm) (s1 rfl) <| cgB hp52 rfl rfl (oCall rfl (code_Right.ok hy53) b16 (opds_cons tm (opds_cons tm opds_nil))) (s2 rfl rfl) <| cp (oPkT hp52 tm tm) (s2 rfl rfl) <| cp (oMv tm) (s1 rfl) <| cgB hp54 rfl rfl (oMv tm) (s1 rfl) <| cgB hp54 rfl rfl (oEq rfl tm (cI (by decide))) (s1 rfl) <| cp (oPkT hp54 tm tm) (s2 rfl rfl) <| cp (oMv tm) (s1 rfl) <| cgB (decide_eq_true hp55) rfl rfl (oMv tm) (s1 rfl) <| cgB (decide_eq_true hp55) rfl rfl (oEq rfl tm (cI (by decide))) (s1 rfl) <| cp (oPkT (decide_eq_true hp55) tm tm) (s2 rfl rfl) <| cp (oMv tm) (s1 rfl) <| cgB (decide_eq_true hp56) rfl rfl (oMv tm) (s1 rfl) <| cgB (decide_eq_true hp56) rfl rfl (oMv tm) (s1 rfl) <| cgB (decide_eq_true hp56) rfl rfl (oCall rfl (reticentref08_Same.ok hy57) b18 (opds_cons tm (opds_cons tm opds_nil))) (s2 rfl rfl) <| cp (oPkT (decide_eq_true hp56) tm tm) (s2 rfl rfl) <| cp (oAs tm) (s1 rfl) <| .nil) (by kernel_rfl) ?_
                exact pJ1 _ (so h) ⟨rfl, trivial⟩ rfl
              · refine rg (cp (oCall rfl (reticentlaw08_alive.ok hy51) b19 opds_nil) trivial <| cp (oMv tm) (s1 rfl) <| crgB hp52 rfl rfl (oLdA (n := 0) (fs := f_api_Lattice) (u := ⟨y1.Names, y1.Up⟩) rfl ⟨rfl, rfl, trivial⟩ t38 tm) (s1 rfl) <| cgB hp52 rfl rfl (oMv tm) (s1 rfl) <| cgB hp52 rfl rfl (oCall rfl (code_Right.ok hy53) b16 (opds_cons tm (opds_cons tm opds_nil))) (s2 rfl rfl) <| cp (oPkT hp52 tm tm) (s2 rfl rfl) <| cp (oMv tm) (s1 rfl) <| cgB hp54 rfl rfl (oMv tm) (s1 rfl) <| cgB hp54 rfl rfl (oEq rfl tm (cI (by decide))) (s1 rfl) <| cp (oPkT hp54 tm tm) (s2 rfl rfl) <| cp (oMv tm) (s1 rfl) <| cgB (decide_eq_true hp55) rfl rfl (oMv tm) (s1 rfl) <| cgB (decide_eq_true hp55) rfl rfl (oEq rfl tm (cI (by decide))) (s1 rfl) <| cp (oPkT (decide_eq_true hp55) tm tm) (s2 rfl rfl) <| cp (oMv tm) (s1 rfl) <| csB (decide_eq_false hp56) rfl rfl <| csB (decide_eq_false hp56) rfl rfl <| csB (decide_eq_false hp56) rfl rfl <| cp (oPkF (decide_eq_false hp56) tm cB) (s1 rfl) <| cp (oAs tm) (s1 rfl) <| .nil) (by kernel_rfl) ?_
                exact pJ1 _ (so h) ⟨rfl, trivial⟩ rfl
            · refine rg (cp (oCall rfl (reticentlaw08_alive.ok hy51) b19 opds_nil) trivial <| cp (oMv tm) (s1 rfl) <| crgB hp52 rfl rfl (oLdA (n := 0) (fs := f_api_Lattice) (u := ⟨y1.Names, y1.Up⟩) rfl ⟨rfl, rfl, trivial⟩ t38 tm) (s1 rfl) <| cgB hp52 rfl rfl (oMv tm) (s1 rfl) <| cgB hp52 rfl rfl (oCall rfl (code_Right.ok hy53) b16 (opds_cons tm (opds_cons tm opds_nil))) (s2 rfl rfl) <| cp (oPkT hp52 tm tm) (s2 rfl rfl) <| cp (oMv tm) (s1 rfl) <| cgB hp54 rfl rfl (oMv tm) (s1 rfl) <| cgB hp54 rfl rfl (oEq rfl tm (cI (by decide))) (s1 rfl) <| cp (oPkT hp54 tm tm) (s2 rfl rfl) <| cp (oMv tm) (s1 rfl) <| csB (decide_eq_false hp55) rfl rfl <| csB (decide_eq_false hp55) rfl rfl <| cp (oPkF (decide_eq_false hp55) tm cB) (s1 rfl) <| cp (oMv tm) (s1 rfl) <| csB rfl rfl rfl <| csB rfl rfl rfl <| csB rfl rfl rfl <| cp (oPkF rfl tm cB) (s1 rfl) <| cp (oAs tm) (s1 rfl) <| .nil) (by kernel_rfl) ?_
              exact pJ1 _ (so h) ⟨rfl, trivial⟩ rfl
          · refine rg (cp (oCall rfl (reticentlaw08_alive.ok hy51) b19 opds_nil) trivial <| cp (oMv tm) (s1 rfl) <| crgB hp52 rfl rfl (oLdA (n := 0) (fs := f_api_Lattice) (u := ⟨y1.Names, y1.Up⟩) rfl ⟨rfl, rfl, trivial⟩ t38 tm) (s1 rfl) <| cgB hp52 rfl rfl (oMv tm) (s1 rfl) <| cgB hp52 rfl rfl (oCall rfl (code_Right.ok hy53) b16 (opds_cons tm (opds_cons tm opds_nil))) (s2 rfl rfl) <| cp (oPkT hp52 tm tm) (s2 rfl rfl) <| cp (oMv tm) (s1 rfl) <| csB (nb hp54) rfl rfl <| csB (nb hp54) rfl rfl <| cp (oPkF (nb hp54) tm cB) (s1 rfl) <| cp (oMv tm) (s1 rfl) <| csB rfl rfl rfl <| csB rfl rfl rfl <| cp (oPkF rfl tm cB) (s1 rfl) <| cp (oMv tm) (s1 rfl) <| csB rfl rfl rfl <| csB rfl rfl rfl <| csB rfl rfl rfl <| cp (oPkF rfl tm cB) (s1 rfl) <| cp (oAs tm) (s1 rfl) <| .nil) (by kernel_rfl) ?_
            exact pJ1 _ (so h) ⟨rfl, trivial⟩ rfl
        · refine rg (cp (oCall rfl (reticentlaw08_alive.ok hy51) b19 opds_nil) trivial <| cp (oMv tm) (s1 rfl) <| csB (nb hp52) rfl rfl <| csB (nb hp52) rfl rfl <| csB (nb hp52) rfl rfl <| cp (oPkF (nb hp52) tm cB) (s1 rfl) <| cp (oMv tm) (s1 rfl) <| csB rfl rfl rfl <| csB rfl rfl rfl <| cp (oPkF rfl tm cB) (s1 rfl) <| cp (oMv tm) (s1 rfl) <| csB rfl rfl rfl <| csB rfl rfl rfl <| cp (oPkF rfl tm cB) (s1 rfl) <| cp (oMv tm) (s1 rfl) <| csB rfl rfl rfl <| csB rfl rfl rfl <| csB rfl rfl rfl <| cp (oPkF rfl tm cB) (s1 rfl) <| cp (oAs tm) (s1 rfl) <| .nil) (by kernel_rfl) ?_
          exact pJ1 _ (so h) ⟨rfl, trivial⟩ rfl
      · rintro x50 rfl
        replace h := hk1
        refine wRet ?_
        obtain rfl := so h
        exact pR1 (.inl rfl) rfl (.tmp rfl <| .nil)
    · refine wNF hp40 tm (s1 rfl) ?_
      obtain ⟨o1, h, hk1⟩ := bd h
      refine wJ1 (fun x60 => x60 = o1) (fun x60 => [(6, .d (kB.sig x60))]) (fun x60 => [.box 3 38 [.d (kL kS) y1.Names, .d (kL (kI .u32)) y1.Up]]) ?_ ?_
      · obtain ⟨y61, hy61, h⟩ := bd h
        rcases ic h with ⟨hp62, h⟩ | ⟨hp62, h⟩
        · refine rg (cp (oCall rfl (reticentlaw08_alive.ok hy61) b19 opds_nil) trivial <| cp (oMv tm) (s1 rfl) <| cgB hp62 rfl rfl (oMv tm) (s1 rfl) <| cgB hp62 rfl rfl (oLenL u39 tm) (s1 rfl) <| cgB hp62 rfl rfl (oEq rfl tm (cI (by decide))) (s1 rfl) <| cp (oPkT hp62 tm tm) (s2 rfl rfl) <| cp (oAs tm) (s1 rfl) <| .nil) (by kernel_rfl) ?_
          exact pJ1 _ (so h) ⟨rfl, trivial⟩ rfl
        · refine rg (cp (oCall rfl (reticentlaw08_alive.ok hy61) b19 opds_nil) trivial <| cp (oMv tm) (s1 rfl) <| csB (nb hp62) rfl rfl <| csB (nb hp62) rfl rfl <| csB (nb hp62) rfl rfl <| cp (oPkF (nb hp62) tm cB) (s1 rfl) <| cp (oAs tm) (s1 rfl) <| .nil) (by kernel_rfl) ?_
          exact pJ1 _ (so h) ⟨rfl, trivial⟩ rfl
      · rintro x60 rfl
        replace h := hk1
        refine wRet ?_
        refine pThenR ?_
        obtain rfl := so h
        exact pR1 (.inl rfl) rfl (.tmp rfl <| .nil)

end Go.Proofs.YtkmobcaobmchpaaDoor.CK
