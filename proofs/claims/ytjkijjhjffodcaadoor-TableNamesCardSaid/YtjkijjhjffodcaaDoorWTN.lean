import Derived.Test.YtjkijjhjffodcaaDoorShelf
import Derived.Test.YtjkijjhjffodcaaDoorBld
import Derived.Test.YtjkijjhjffodcaaDoorWTNp1
import Derived.Test.YtjkijjhjffodcaaDoorProg
set_option linter.unusedVariables false
set_option maxRecDepth 10000
set_option maxHeartbeats 2000000
namespace Go.Proofs.YtjkijjhjffodcaaDoor.TN
open Go Go.Proofs.YtjkijjhjffodcaaDoor.Ab

theorem reticentref06_Parse.ok {a0 : Str} {r : reticentref06_R} (h : reticentref06_Parse.f a0 = some r) : FnA Tryd.prog 21 [kS.sig a0] ((kR f_reticentref06_R).sig r) := by
  refine fnIntro Tryd.func21 rfl (by kernel_rfl) fun H0 w0 => ?_
  unfold reticentref06_Parse.f at h
  refine wSeq ?_
  refine rg (cw (oAlloc (id := 2) (ls := [.d (kL (kR f_api_Row)) [], .d (kI .i64) 0, .d (kI .i64) 0]) ze41 (fun g => ⟨[(.slice none 0 0)], _, rfl, zL g.H, ⟨[(.int .i64 0)], _, rfl, zI_i64 g.H, ⟨[(.int .i64 0)], _, rfl, zI_i64 g.H, rfl⟩⟩⟩)) trivial <| .nil) (by kernel_rfl) ?_
  refine pSeq ?_
  refine wSeq ?_
  obtain ⟨y1, hy1, h⟩ := bd h
  refine rg (cp (oMv tm) (s1 rfl) <| cp (oCall rfl (reticentref03_Lex.ok hy1) b63 (opds_cons tm opds_nil)) (s1 rfl) <| cw (oAlloc (id := 3) (ls := [.d (kL (kR f_api_Tok)) [], .d (kI .i64) 0, .d (kI .i64) 0]) ze119 (fun g => ⟨[(.slice none 0 0)], _, rfl, zL g.H, ⟨[(.int .i64 0)], _, rfl, zI_i64 g.H, ⟨[(.int .i64 0)], _, rfl, zI_i64 g.H, rfl⟩⟩⟩)) trivial <| cwn (oStA (n := 0) (fs := f_reticentref03_R) rfl rfl z119 tm tm) (s2 rfl rfl) <| .nil) (by kernel_rfl) ?_
  refine pSeq ?_
  refine wSeq ?_
  refine wSeq ?_
  refine rg (cp (oFldP o119_2 tm) (s1 rfl) <| cr (oLdB (n := 0) (k := 2) rfl rfl rfl t26 tm) (s1 rfl) <| cp (oNe rfl tm (cI (by decide))) (s1 rfl) <| .nil) (by kernel_rfl) ?_
  refine pSeq ?_
  rcases ic h with ⟨hp2, h⟩ | ⟨hp2, h⟩
  · refine wNT hp2 tm (s1 rfl) ?_
    refine wSkip ?_
    refine pSeq ?_
    refine wSeq ?_
    refine rg (cp (oFldP o119_0 tm) (s1 rfl) <| cr (oLdB (n := 0) (k := 0) rfl rfl rfl t71 tm) (s1 rfl) <| cp (oAs tm) (s1 rfl) <| .nil) (by kernel_rfl) ?_
    refine pSeq ?_
    refine wSeq ?_
    refine rg (cw (oLitR (id := 25) (d := (kR f_api_Row)) el22 (by decide) rfl rfl rfl e0) trivial <| cp (oAs tm) (s1 rfl) <| .nil) (by kernel_rfl) ?_
    refine pSeq ?_
    refine wSeq ?_
    refine rg (cw (oLitR (id := 26) (d := kB) el121 (by decide) rfl rfl rfl e0) trivial <| cp (oAs tm) (s1 rfl) <| .nil) (by kernel_rfl) ?_
    refine pSeq ?_
    refine wSeq ?_
    refine wSeq ?_
    refine rg (cp (oAs (cI (by decide))) trivial <| .nil) (by kernel_rfl) ?_
    refine pSeq ?_
    refine wWeak (Γ' := [(2, .p 2 0), (4, .d ((kL (kR f_api_Tok)).sig y1.L)), (5, .v 25), (6, .v 26), (7, .d ((kI .i64).sig 0))]) ⟨rfl, rfl, rfl, rfl, rfl, trivial⟩ ?_
    refine wRen 26 1006 rfl ?_
    refine wRen 25 1005 rfl ?_
    obtain ⟨o1, h, hk1⟩ := bd h
    refine wK2 (fun x12 x13 => (x12, x13) = o1) (fun x12 x13 => [(2, .p 2 0), (4, .d ((kL (kR f_api_Tok)).sig y1.L)), (5, .v 1005), (6, .v 1006)]) (fun x12 x13 => [.row 1006 4 kB x13, .row 1005 87 (kR f_api_Row) x12, .box 3 119 [.d (kL (kR f_api_Tok)) y1.L, .d (kI .i64) y1.At, .d (kI .i64) y1.E], .box 2 41 [.d (kL (kR f_api_Row)) [], .d (kI .i64) 0, .d (kI .i64) 0]]) ?_ ?_
    · refine wBlock (wLoop ?_)
      refine lW (pc3 o1 (fun v9 v10 v11 => [(2, .p 2 0), (4, .d ((kL (kR f_api_Tok)).sig y1.L)), (5, .v 1005), (6, .v 1006), (7, .d ((kI .i64).sig v11))]) (fun v9 v10 v11 => [.row 1006 4 kB v10, .row 1005 87 (kR f_api_Row) v9, .box 3 119 [.d (kL (kR f_api_Tok)) y1.L, .d (kI .i64) y1.At, .d (kI .i64) y1.E], .box 2 41 [.d (kL (kR f_api_Row)) [], .d (kI .i64) 0, .d (kI .i64) 0]]) (reticentref06_Parse.l0.partial_correctness) ?_ _ _ _ h) ⟨rfl, rfl, rfl, rfl, rfl, trivial⟩ rfl
      clear h
      intro f' ih v9 v10 v11 h
      refine wSeq ?_
      refine wSeq ?_
      refine rg (cp (oMv tm) (s1 rfl) <| cp (oLt rfl tm (cI (by decide))) (s1 rfl) <| .nil) (by kernel_rfl) ?_
      refine pSeq ?_
      rcases ic h with ⟨hp14, h⟩ | ⟨hp14, h⟩
      · refine wCT hp14 tm (s1 rfl) ?_
        refine wSkip ?_
        refine pSeq ?_
        refine wSeq ?_
        refine wBlock ?_
        refine wSeq ?_
        obtain ⟨hc15, h⟩ := ib h
        refine rg (cp (oMv tm) (s1 rfl) <| cp (oBuild (fs := f_api_Row) (u := ⟨[], [], []⟩) rfl ze87 pl87 po87 (.ze (zc := [(.slice none 0 0)]) zL (.ze (zc := [(.slice none 0 0)]) zL (.ze (zc := [(.slice none 0 0)]) zL .nil)))) trivial <| cp (oLit (d := (kR f_api_Row)) el22 (by decide) rfl rfl rfl (e1 tm e0)) (s1 rfl) <| cw (oApp (n := 1) (id' := 34) el22 (by decide) rfl (by decide) hc15 tm tm) (s2 rfl rfl) <| cp (oAs tm) (s1 rfl) <| .nil) (by kernel_rfl) ?_
        refine pSeq ?_
        obtain ⟨hc16, h⟩ := ib h
        refine rg (cp (oMv tm) (s1 rfl) <| cp (oLit (d := kB) el121 (by decide) rfl rfl rfl (e1 cB e0)) trivial <| cw (oApp (n := 0) (id' := 37) el121 (by decide) rfl (by decide) hc16 tm tm) (s2 rfl rfl) <| cp (oAs tm) (s1 rfl) <| .nil) (by kernel_rfl) ?_
        refine pBlkN ?_
        refine pSeq ?_
        refine rg (cp (oMv tm) (s1 rfl) <| cp (oAdd tm (cI (by decide))) (s1 rfl) <| cp (oAs tm) (s1 rfl) <| .nil) (by kernel_rfl) ?_
        refine pSub (Γ' := [(2, .p 2 0), (4, .d ((kL (kR f_api_Tok)).sig y1.L)), (5, .v 34), (6, .v 37), (7, .d ((kI .i64).sig (IntKind.i64.wrap (v11 + 1))))]) ⟨rfl, rfl, rfl, rfl, rfl, trivial⟩ ?_
        refine pRen 37 1006 rfl ?_
        refine pRen 34 1005 rfl ?_
        exact pLoop (lW (ih _ _ _ h) ⟨rfl, rfl, rfl, rfl, rfl, trivial⟩ rfl)
      · refine wCF hp14 tm (s1 rfl) ?_
        refine wExit ?_
        refine pThenX ?_
        refine pThenX ?_
        refine pBlkX ?_
        exact pJ2 _ _ (so h) ⟨rfl, rfl, rfl, rfl, trivial⟩ rfl
    · rintro x12 x13 rfl
      replace h := hk1
      refine pSeq ?_
      refine wSeq ?_
      refine rg (cp (oAs (cI (by decide))) trivial <| .nil) (by kernel_rfl) ?_
      refine pSeq ?_
      obtain ⟨o1, h, hk1⟩ := bd h
      refine wJ3 (fun x64 x65 x66 => .inr (x64, x65, x66) = o1) (fun x64 x65 x66 => [(2, .p 2 0), (4, .d ((kL (kR f_api_Tok)).sig y1.L)), (5, .v 1005), (6, .v 1006), (8, .d ((kI .i64).sig x66))]) (fun x64 x65 x66 => [.row 1006 4 kB x65, .row 1005 87 (kR f_api_Row) x64, .box 3 119 [.d (kL (kR f_api_Tok)) y1.L, .d (kI .i64) y1.At, .d (kI .i64) y1.E], .box 2 41 [.d (kL (kR f_api_Row)) [], .d (kI .i64) 0, .d (kI .i64) 0]]) ?_ ?_
      · refine wBlock (wLoop ?_)
        refine lW (pc3 o1 (fun v61 v62 v63 => [(2, .p 2 0), (4, .d ((kL (kR f_api_Tok)).sig y1.L)), (5, .v 1005), (6, .v 1006), (8, .d ((kI .i64).sig v63))]) (fun v61 v62 v63 => [.row 1006 4 kB v62, .row 1005 87 (kR f_api_Row) v61, .box 3 119 [.d (kL (kR f_api_Tok)) y1.L, .d (kI .i64) y1.At, .d (kI .i64) y1.E], .box 2 41 [.d (kL (kR f_api_Row)) [], .d (kI .i64) 0, .d (kI .i64) 0]]) (reticentref06_Parse.l1.partial_correctness y1) ?_ _ _ _ h) ⟨rfl, rfl, rfl, rfl, rfl, trivial⟩ rfl
        clear h
        intro f' ih v61 v62 v63 h
        refine wSeq ?_
        refine wSeq ?_
        obtain ⟨y67, hy67, h⟩ := bd h
        refine rg (cp (oMv tm) (s1 rfl) <| cp (oMv tm) (s1 rfl) <| cp (oIdx u71 z123 hy67 tm tm) (s2 rfl rfl) <| cp (oFld (fs := f_api_Tok) (k := 0) rfl o123_0 tm) (s1 rfl) <| cp (oLd t3 tm) (s1 rfl) <| cp (oNe rfl tm (cI (by decide))) (s1 rfl) <| .nil) (by kernel_rfl) ?_
        refine pSeq ?_
        rcases ic h with ⟨hp68, h⟩ | ⟨hp68, h⟩
        · refine wNT hp68 tm (s1 rfl) ?_
          refine wExit ?_
          refine pThenX ?_
          refine pThenX ?_
          refine pBlkX ?_
          exact pJ3 _ _ _ (so h) ⟨rfl, rfl, rfl, rfl, rfl, trivial⟩ rfl
        · refine wNF hp68 tm (s1 rfl) ?_
          refine wSkip ?_
          refine pSeq ?_
          refine wBlock ?_
          refine wSeq ?_
          refine wSeq ?_
          obtain ⟨y69, hy69, h⟩ := bd h
          refine rg (cp (oMv tm) (s1 rfl) <| cp (oMv tm) (s1 rfl) <| cp (oIdx u71 z123 hy69 tm tm) (s2 rfl rfl) <| cp (oFld (fs := f_api_Tok) (k := 0) rfl o123_0 tm) (s1 rfl) <| cp (oLd t3 tm) (s1 rfl) <| cp (oNe rfl tm (cI (by decide))) (s1 rfl) <| .nil) (by kernel_rfl) ?_
          refine pSeq ?_
          rcases ic h with ⟨hp70, h⟩ | ⟨hp70, h⟩
          · refine wNT hp70 tm (s1 rfl) ?_
            refine wSkip ?_
            refine pSeq ?_
            refine wSeq ?_
            obtain ⟨y71, hy71, h⟩ := bd h
            obtain ⟨y72, hy72, h⟩ := bd h
            refine rg (cp (oMv tm) (s1 rfl) <| cp (oMv tm) (s1 rfl) <| cp (oIdx u71 z123 hy71 tm tm) (s2 rfl rfl) <| cp (oFld (fs := f_api_Tok) (k := 1) rfl o123_1 tm) (s1 rfl) <| cp (oLd t9 tm) (s1 rfl) <| cp (oCall rfl (reticentref06_Op.ok hy72) b64 (opds_cons tm opds_nil)) (s1 rfl) <| cp (oAs tm) (s1 rfl) <| .nil) (by kernel_rfl) ?_
            refine pSeq ?_
            refine wSeq ?_
            obtain ⟨o2, h, hk2⟩ := bd h
            refine wJ1 (fun x75 => x75 = o2) (fun x75 => [(2, .p 2 0), (4, .d ((kL (kR f_api_Tok)).sig y1.L)), (5, .v 1005), (6, .v 1006), (8, .d ((kI .i64).sig v63)), (9, .d ((kI .i64).sig y72)), (69, .d (kB.sig x75))]) (fun x75 => [.row 1006 4 kB v62, .row 1005 87 (kR f_api_Row) v61, .box 3 119 [.d (kL (kR f_api_Tok)) y1.L, .d (kI .i64) y1.At, .d (kI .i64) y1.E], .box 2 41 [.d (kL (kR f_api_Row)) [], .d (kI .i64) 0, .d (kI .i64) 0]]) ?_ ?_
            · rcases ic h with ⟨hp76, h⟩ | ⟨hp76, h⟩
              · refine rg (cp (oMv tm) (s1 rfl) <| cp (oLt rfl tm (cI (by decide))) (s1 rfl) <| cp (oMv tm) (s1 rfl) <| csB (decide_eq_true hp76) rfl rfl <| csB (decide_eq_true hp76) rfl rfl <| csB (decide_eq_true hp76) rfl rfl <| csB (decide_eq_true hp76) rfl rfl <| cp (oPkT (decide_eq_true hp76) tm cB) (s1 rfl) <| .nil) (by kernel_rfl) ?_
                exact pJ1 _ (so h) ⟨rfl, rfl, rfl, rfl, rfl, rfl, rfl, trivial⟩ rfl
              · obtain ⟨y77, hy77, h⟩ := bd h
                refine rg (cp (oMv tm) (s1 rfl) <| cp (oLt rfl tm (cI (by decide))) (s1 rfl) <| cp (oMv tm) (s1 rfl) <| cgB (decide_eq_false hp76) rfl rfl (oMv tm) (s1 rfl) <| cgB (decide_eq_false hp76) rfl rfl (oMv tm) (s1 rfl) <| crgB (decide_eq_false hp76) rfl rfl (oIdxR (n := 0) u121 z4 rfl hy77 tm tm) (s2 rfl rfl) <| crgB (decide_eq_false hp76) rfl rfl (oLdE (n := 0) rfl hy77 rfl t4 tm) (s1 rfl) <| cp (oPkF (decide_eq_false hp76) tm tm) (s2 rfl rfl) <| .nil) (by kernel_rfl) ?_
                exact pJ1 _ (so h) ⟨rfl, rfl, rfl, rfl, rfl, rfl, rfl, trivial⟩ rfl
            · rintro x75 rfl
              replace h := hk2
              rcases ic h with ⟨hp78, h⟩ | ⟨hp78, h⟩
              · refine wBT hp78 tm (s1 rfl) ?_
                refine wSeq ?_
                obtain ⟨y79, hy79, h⟩ := bd h
                refine rg (cp (oMv tm) (s1 rfl) <| cp (oMv tm) (s1 rfl) <| cp (oIdx u71 z123 hy79 tm tm) (s2 rfl rfl) <| cp (oFld (fs := f_api_Tok) (k := 2) rfl o123_2 tm) (s1 rfl) <| cp (oLd t3 tm) (s1 rfl) <| cp (oBuild (fs := f_reticentref06_R) (u := ⟨(⟨[]⟩ : api_Table), y79.At, 6⟩) rfl ze41 pl41 po41 (.ze (zc := [(.slice none 0 0)]) zR_api_Table (.op (zc := [(.int .i64 0)]) tm rfl (.op (zc := [(.int .i64 0)]) (cI (by decide)) rfl .nil)))) (s1 rfl) <| cwn (oStP (n := 3) (k := 0) (m := 3) (d := (kR f_reticentref06_R)) (u := (⟨(⟨[]⟩ : api_Table), y79.At, 6⟩ : reticentref06_R)) (lfS (lfC (lfS (lfC lf1 lfN)) (lfC lf1 (lfC lf1 lfN)))) rfl rfl rfl z41 tm tm) (s2 rfl rfl) <| .nil) (by kernel_rfl) ?_
                refine pSeq ?_
                refine wRet ?_
                refine pThenR ?_
                refine pBlkR ?_
                refine pThenR ?_
                refine pBlkR ?_
                refine pThenR ?_
                obtain rfl := so h
                replace h := hk1
                obtain rfl := so h
                exact pR1 (.inl rfl) rfl (.boxP (n := 3) (d := (kR f_reticentref06_R)) (u := (⟨⟨[]⟩, y79.At, 6⟩ : reticentref06_R)) rfl rfl (lfS (lfC (lfS (lfC lf1 lfN)) (lfC lf1 (lfC lf1 lfN)))) rfl t41 <| .nil)
              · refine wBF hp78 tm (s1 rfl) ?_
                refine wSkip ?_
                refine pSeq ?_
                refine wSeq ?_
                obtain ⟨y80, hy80, h⟩ := bd h
                refine rg (cp (oMv tm) (s1 rfl) <| cp (oMv tm) (s1 rfl) <| cp (oAdd tm (cI (by decide))) (s1 rfl) <| cp (oCall rfl (reticentref06_row.ok hy80) b65 (opds_cons tm (opds_cons tm opds_nil))) (s2 rfl rfl) <| cw (oAlloc (id := 10) (ls := [.d (kI .i64) 0, .d (kL (kI .i64)) [], .d (kL (kI .i64)) [], .d (kL (kI .i64)) [], .d (kI .i64) 0]) ze126 (fun g => ⟨[(.int .i64 0)], _, rfl, zI_i64 g.H, ⟨[(.slice none 0 0)], _, rfl, zL g.H, ⟨[(.slice none 0 0)], _, rfl, zL g.H, ⟨[(.slice none 0 0)], _, rfl, zL g.H, ⟨[(.int .i64 0)], _, rfl, zI_i64 g.H, rfl⟩⟩⟩⟩⟩)) trivial <| cwn (oStP (n := 0) (k := 0) (m := 5) (d := (kR f_reticentref06_P)) (u := y80) (lfS (lfC lf1 (lfC (lfS (lfC lf1 (lfC lf1 (lfC lf1 lfN)))) (lfC lf1 lfN)))) rfl rfl rfl z126 tm tm) (s2 rfl rfl) <| .nil) (by kernel_rfl) ?_
                refine pSeq ?_
                refine wSeq ?_
                refine wSeq ?_
                refine rg (cp (oFldP o126_2 tm) (s1 rfl) <| cr (oLdB (n := 0) (k := 4) rfl rfl rfl t26 tm) (s1 rfl) <| cp (oNe rfl tm (cI (by decide))) (s1 rfl) <| .nil) (by kernel_rfl) ?_
                refine pSeq ?_
                rcases ic h with ⟨hp81, h⟩ | ⟨hp81, h⟩
                · refine wNT hp81 tm (s1 rfl) ?_
                  refine wSkip ?_
                  refine pSeq ?_
                  refine wSeq ?_
                  refine wSeq ?_
                  obtain ⟨y82, hy82, h⟩ := bd h
                  refine rg (cp (oMv tm) (s1 rfl) <| cp (oFldP o126_1 tm) (s1 rfl) <| cr (oLdP (n := 0) (k := 1) (m := 3) (d := (kR f_api_Row)) (u := y80.R) (lfS (lfC lf1 (lfC lf1 (lfC lf1 lfN)))) rfl rfl rfl t87 tm) (s1 rfl) <| cp (oCall rfl (reticentref06_Row.ok hy82) b58 (opds_cons tm (opds_cons tm opds_nil))) (s2 rfl rfl) <| cp (oNe rfl tm (cI (by decide))) (s1 rfl) <| .nil) (by kernel_rfl) ?_
                  refine pSeq ?_
                  rcases ic h with ⟨hp83, h⟩ | ⟨hp83, h⟩
                  · refine wNT hp83 tm (s1 rfl) ?_
                    refine wSkip ?_
                    refine pSeq ?_
                    refine wSeq ?_
                    obtain ⟨y84, hy84, h⟩ := bd h
                    refine rg (cp (oMv tm) (s1 rfl) <| cp (oMv tm) (s1 rfl) <| cp (oFldP o126_1 tm) (s1 rfl) <| cr (oLdP (n := 0) (k := 1) (m := 3) (d := (kR f_api_Row)) (u := y80.R) (lfS (lfC lf1 (lfC lf1 (lfC lf1 lfN)))) rfl rfl rfl t87 tm) (s1 rfl) <| cr (oIdxR (n := 2) u22 z87 rfl hy84 tm tm) (s2 rfl rfl) <| cwn (oStE (n := 2) rfl hy84 rfl z87 tm tm) (s2 rfl rfl) <| .nil) (by kernel_rfl) ?_
                    refine pSeq ?_
                    refine wSeq ?_
                    obtain ⟨y85, hy85, h⟩ := bd h
                    refine rg (cp (oMv tm) (s1 rfl) <| cp (oMv tm) (s1 rfl) <| cr (oIdxR (n := 1) u121 z4 rfl hy85 tm tm) (s2 rfl rfl) <| cwn (oStE (n := 1) rfl hy85 rfl z4 tm cB) (s1 rfl) <| .nil) (by kernel_rfl) ?_
                    refine pSeq ?_
                    refine rg (cp (oFldP o126_0 tm) (s1 rfl) <| cr (oLdB (n := 0) (k := 0) rfl rfl rfl t3 tm) (s1 rfl) <| cp (oAs tm) (s1 rfl) <| .nil) (by kernel_rfl) ?_
                    refine pBlkN ?_
                    refine pDrop (.cons _ (.cons_cons _ (.cons_cons _ (.cons_cons _ (.cons_cons _ .slnil))))) ?_
                    exact pLoop (lW (ih _ _ _ h) ⟨rfl, rfl, rfl, rfl, rfl, trivial⟩ rfl)
                  · refine wNF hp83 tm (s1 rfl) ?_
                    refine wSeq ?_
                    obtain ⟨y86, hy86, h⟩ := bd h
                    refine rg (cp (oMv tm) (s1 rfl) <| cp (oMv tm) (s1 rfl) <| cp (oIdx u71 z123 hy86 tm tm) (s2 rfl rfl) <| cp (oFld (fs := f_api_Tok) (k := 2) rfl o123_2 tm) (s1 rfl) <| cp (oLd t3 tm) (s1 rfl) <| cp (oBuild (fs := f_reticentref06_R) (u := ⟨(⟨[]⟩ : api_Table), y86.At, 7⟩) rfl ze41 pl41 po41 (.ze (zc := [(.slice none 0 0)]) zR_api_Table (.op (zc := [(.int .i64 0)]) tm rfl (.op (zc := [(.int .i64 0)]) (cI (by decide)) rfl .nil)))) (s1 rfl) <| cwn (oStP (n := 4) (k := 0) (m := 3) (d := (kR f_reticentref06_R)) (u := (⟨(⟨[]⟩ : api_Table), y86.At, 7⟩ : reticentref06_R)) (lfS (lfC (lfS (lfC lf1 lfN)) (lfC lf1 (lfC lf1 lfN)))) rfl rfl rfl z41 tm tm) (s2 rfl rfl) <| .nil) (by kernel_rfl) ?_
                    refine pSeq ?_
                    refine wRet ?_
                    refine pThenR ?_
                    refine pBlkR ?_
                    refine pThenR ?_
                    refine pBlkR ?_
                    refine pThenR ?_
                    obtain rfl := so h
                    replace h := hk1
                    obtain rfl := so h
                    exact pR1 (.inl rfl) rfl (.boxP (n := 4) (d := (kR f_reticentref06_R)) (u := (⟨⟨[]⟩, y86.At, 7⟩ : reticentref06_R)) rfl rfl (lfS (lfC (lfS (lfC lf1 lfN)) (lfC lf1 (lfC lf1 lfN)))) rfl t41 <| .nil)
                · refine wNF hp81 tm (s1 rfl) ?_
                  refine wSeq ?_
                  obtain ⟨y87, hy87, h⟩ := bd h
                  refine rgD hm (cp (oMv tm) (s1 rfl) <| cp (oFldP o126_0 tm) (s1 rfl) <| cr (oLdB (n := 0) (k := 0) rfl rfl rfl t3 tm) (s1 rfl) <| cp (oIdx u71 z123 hy87 tm tm) (s2 rfl rfl) <| cp (oFld (fs := f_api_Tok) (k := 2) rfl o123_2 tm) (s1 rfl) <| cp (oLd t3 tm) (s1 rfl) <| cp (oFldP o126_2 tm) (s1 rfl) <| cr (oLdB (n := 0) (k := 4) rfl rfl rfl t26 tm) (s1 rfl) <| cp (oBuild (fs := f_reticentref06_R) (u := ⟨(⟨[]⟩ : api_Table), y87.At, y80.E⟩) rfl ze41 pl41 po41 (.ze (zc := [(.slice none 0 0)]) zR_api_Table (.op (zc := [(.int .i64 0)]) tm rfl (.op (zc := [(.int .i64 0)]) tm rfl .nil)))) (s2 rfl rfl) <| cwn (oStP (n := 4) (k := 0) (m := 3) (d := (kR f_reticentref06_R)) (u := (⟨(⟨[]⟩ : api_Table), y87.At, y80.E⟩ : reticentref06_R)) (lfS (lfC (lfS (lfC lf1 lfN)) (lfC lf1 (lfC lf1 lfN)))) rfl rfl rfl z41 tm tm) (s2 rfl rfl) <| .nil) (by kernel_rfl) (by kernel_rfl) ?_
                  refine pSeq ?_
                  refine wRet ?_
                  refine pThenR ?_
                  refine pBlkR ?_
                  refine pThenR ?_
                  refine pBlkR ?_
                  refine pThenR ?_
                  obtain rfl := so h
                  replace h := hk1
                  obtain rfl := so h
                  exact pR1 (.inl rfl) rfl (.boxP (n := 4) (d := (kR f_reticentref06_R)) (u := (⟨⟨[]⟩, y87.At, y80.E⟩ : reticentref06_R)) rfl rfl (lfS (lfC (lfS (lfC lf1 lfN)) (lfC lf1 (lfC lf1 lfN)))) rfl t41 <| .nil)
          · refine wNF hp70 tm (s1 rfl) ?_
            refine wSeq ?_
            obtain ⟨y88, hy88, h⟩ := bd h
            refine rg (cp (oMv tm) (s1 rfl) <| cp (oMv tm) (s1 rfl) <| cp (oIdx u71 z123 hy88 tm tm) (s2 rfl rfl) <| cp (oFld (fs := f_api_Tok) (k := 2) rfl o123_2 tm) (s1 rfl) <| cp (oLd t3 tm) (s1 rfl) <| cp (oBuild (fs := f_reticentref06_R) (u := ⟨(⟨[]⟩ : api_Table), y88.At, 4⟩) rfl ze41 pl41 po41 (.ze (zc := [(.slice none 0 0)]) zR_api_Table (.op (zc := [(.int .i64 0)]) tm rfl (.op (zc := [(.int .i64 0)]) (cI (by decide)) rfl .nil)))) (s1 rfl) <| cwn (oStP (n := 3) (k := 0) (m := 3) (d := (kR f_reticentref06_R)) (u := (⟨(⟨[]⟩ : api_Table), y88.At, 4⟩ : reticentref06_R)) (lfS (lfC (lfS (lfC lf1 lfN)) (lfC lf1 (lfC lf1 lfN)))) rfl rfl rfl z41 tm tm) (s2 rfl rfl) <| .nil) (by kernel_rfl) ?_
            refine pSeq ?_
            refine wRet ?_
            refine pThenR ?_
            refine pBlkR ?_
            refine pThenR ?_
            refine pBlkR ?_
            refine pThenR ?_
            obtain rfl := so h
            replace h := hk1
            obtain rfl := so h
            exact pR1 (.inl rfl) rfl (.boxP (n := 3) (d := (kR f_reticentref06_R)) (u := (⟨⟨[]⟩, y88.At, 4⟩ : reticentref06_R)) rfl rfl (lfS (lfC (lfS (lfC lf1 lfN)) (lfC lf1 (lfC lf1 lfN)))) rfl t41 <| .nil)
      · rintro x64 x65 x66 rfl
        replace h := hk1
        refine wSeq ?_
        refine wSeq ?_
        refine rg (cp (oMv tm) (s1 rfl) <| cr (oLenR (n := 0) u121 rfl tm) (s1 rfl) <| cp (oMv (cI (by decide))) trivial <| .nil) (by kernel_rfl) ?_
        refine pSeq ?_
        refine wWeak (Γ' := [(2, .p 2 0), (4, .d ((kL (kR f_api_Tok)).sig y1.L)), (5, .v 1005), (8, .d ((kI .i64).sig x66)), (113, .v 1006), (114, .d ((kI .i64).sig (x65.length : Int))), (115, .d ((kI .i64).sig 0))]) ⟨rfl, rfl, rfl, rfl, rfl, rfl, rfl, trivial⟩ ?_
        refine wRen 1006 1113 rfl ?_
        obtain ⟨o1, h, hk1⟩ := bd h
        refine wK1 (fun x98 => .inr x98 = o1) (fun x98 => [(2, .p 2 0), (5, .v 1005)]) (fun x98 => [.row 1113 4 kB x98, .row 1005 87 (kR f_api_Row) x64, .box 3 119 [.d (kL (kR f_api_Tok)) y1.L, .d (kI .i64) y1.At, .d (kI .i64) y1.E], .box 2 41 [.d (kL (kR f_api_Row)) [], .d (kI .i64) 0, .d (kI .i64) 0]]) ?_ ?_
        · refine wBlock (wLoop ?_)
          refine lW (pc1 o1 (fun v97 => [(2, .p 2 0), (4, .d ((kL (kR f_api_Tok)).sig y1.L)), (5, .v 1005), (8, .d ((kI .i64).sig x66)), (113, .v 1113), (114, .d ((kI .i64).sig (x65.length : Int))), (115, .d ((kI .i64).sig v97))]) (fun v97 => [.row 1113 4 kB x65, .row 1005 87 (kR f_api_Row) x64, .box 3 119 [.d (kL (kR f_api_Tok)) y1.L, .d (kI .i64) y1.At, .d (kI .i64) y1.E], .box 2 41 [.d (kL (kR f_api_Row)) [], .d (kI .i64) 0, .d (kI .i64) 0]]) (reticentref06_Parse.l2.partial_correctness y1 x65 x66) ?_ _ h) ⟨rfl, rfl, rfl, rfl, rfl, rfl, rfl, trivial⟩ rfl
          clear h
          intro f' ih v97 h
          refine wSeq ?_
          refine rg (cp (oLt rfl tm tm) (s2 rfl rfl) <| .nil) (by kernel_rfl) ?_
          refine pSeq ?_
          refine wSeq ?_
          rcases ic h with ⟨hp99, h⟩ | ⟨hp99, h⟩
          · refine wCT hp99 tm (s1 rfl) ?_
            refine wSkip ?_
            refine pSeq ?_
            refine wSeq ?_
            refine wBlock ?_
            refine wSeq ?_
            obtain ⟨y100, hy100, h⟩ := bd h
            refine rg (cr (oIdxR (n := 0) u121 z4 rfl hy100 tm tm) (s2 rfl rfl) <| cr (oLdE (n := 0) rfl hy100 rfl t4 tm) (s1 rfl) <| cp (oAs tm) (s1 rfl) <| .nil) (by kernel_rfl) ?_
            refine pSeq ?_
            refine wSeq ?_
            refine rg (cp (oMv tm) (s1 rfl) <| cp (oNot tm) (s1 rfl) <| .nil) (by kernel_rfl) ?_
            refine pSeq ?_
            rcases ic h with ⟨hp101, h⟩ | ⟨hp101, h⟩
            · refine wBT hp101 tm (s1 rfl) ?_
              refine wSeq ?_
              obtain ⟨y102, hy102, h⟩ := bd h
              refine rg (cp (oMv tm) (s1 rfl) <| cp (oMv tm) (s1 rfl) <| cp (oIdx u71 z123 hy102 tm tm) (s2 rfl rfl) <| cp (oFld (fs := f_api_Tok) (k := 2) rfl o123_2 tm) (s1 rfl) <| cp (oLd t3 tm) (s1 rfl) <| cp (oBuild (fs := f_reticentref06_R) (u := ⟨(⟨[]⟩ : api_Table), y102.At, 9⟩) rfl ze41 pl41 po41 (.ze (zc := [(.slice none 0 0)]) zR_api_Table (.op (zc := [(.int .i64 0)]) tm rfl (.op (zc := [(.int .i64 0)]) (cI (by decide)) rfl .nil)))) (s1 rfl) <| cwn (oStP (n := 3) (k := 0) (m := 3) (d := (kR f_reticentref06_R)) (u := (⟨(⟨[]⟩ : api_Table), y102.At, 9⟩ : reticentref06_R)) (lfS (lfC (lfS (lfC lf1 lfN)) (lfC lf1 (lfC lf1 lfN)))) rfl rfl rfl z41 tm tm) (s2 rfl rfl) <| .nil) (by kernel_rfl) ?_
              refine pSeq ?_
              refine wRet ?_
              refine pBlkR ?_
              refine pThenR ?_
              refine pThenR ?_
              refine pBlkR ?_
              refine pThenR ?_
              obtain rfl := so h
              replace h := hk1
              refine pThenR ?_
              obtain rfl := so h
              exact pR1 (.inl rfl) rfl (.boxP (n := 3) (d := (kR f_reticentref06_R)) (u := (⟨⟨[]⟩, y102.At, 9⟩ : reticentref06_R)) rfl rfl (lfS (lfC (lfS (lfC lf1 lfN)) (lfC lf1 (lfC lf1 lfN)))) rfl t41 <| .nil)
            · refine wBF hp101 tm (s1 rfl) ?_
              refine wSkip ?_
              refine pBlkN ?_
              refine pSeq ?_
              refine rg (cp (oAdd tm (cI (by decide))) (s1 rfl) <| cp (oMv tm) (s1 rfl) <| .nil) (by kernel_rfl) ?_
              exact pLoop (lW (ih _ h) ⟨rfl, rfl, rfl, rfl, rfl, rfl, rfl, trivial⟩ rfl)
          · refine wCF hp99 tm (s1 rfl) ?_
            refine wExit ?_
            refine pThenX ?_
            refine pThenX ?_
            refine pBlkX ?_
            exact pJ1 _ (so h) ⟨rfl, rfl, trivial⟩ rfl
        · rintro x98 rfl
          replace h := hk1
          refine pSeq ?_
          refine wSeq ?_
          refine wFrzR (n := 1) (id := 1005) [5] rfl rfl ⟨rfl, trivial⟩ ?_
          refine rg (cp (oMv tm) (s1 rfl) <| cp (oBuild (fs := f_api_Table) (u := ⟨x64⟩) rfl ze24 pl24 po24 (.op (zc := [(.slice none 0 0)]) tm rfl .nil)) (s1 rfl) <| cp (oBuild (fs := f_reticentref06_R) (u := ⟨(⟨x64⟩ : api_Table), 0, 0⟩) rfl ze41 pl41 po41 (.op (zc := [(.slice none 0 0)]) tm rfl (.ze (zc := [(.int .i64 0)]) zI_i64 (.ze (zc := [(.int .i64 0)]) zI_i64 .nil)))) (s1 rfl) <| cwn (oStP (n := 2) (k := 0) (m := 3) (d := (kR f_reticentref06_R)) (u := (⟨(⟨x64⟩ : api_Table), 0, 0⟩ : reticentref06_R)) (lfS (lfC (lfS (lfC lf1 lfN)) (lfC lf1 (lfC lf1 lfN)))) rfl rfl rfl z41 tm tm) (s2 rfl rfl) <| .nil) (by kernel_rfl) ?_
          refine pSeq ?_
          refine wRet ?_
          obtain rfl := so h
          exact pR1 (.inl rfl) rfl (.boxP (n := 2) (d := (kR f_reticentref06_R)) (u := (⟨⟨x64⟩, 0, 0⟩ : reticentref06_R)) rfl rfl (lfS (lfC (lfS (lfC lf1 lfN)) (lfC lf1 (lfC lf1 lfN)))) rfl t41 <| .nil)
  · refine wNF hp2 tm (s1 rfl) ?_
    refine wSeq ?_
    refine rg (cp (oFldP o119_1 tm) (s1 rfl) <| cr (oLdB (n := 0) (k := 1) rfl rfl rfl t3 tm) (s1 rfl) <| cp (oFldP o119_2 tm) (s1 rfl) <| cr (oLdB (n := 0) (k := 2) rfl rfl rfl t26 tm) (s1 rfl) <| cp (oBuild (fs := f_reticentref06_R) (u := ⟨(⟨[]⟩ : api_Table), y1.At, y1.E⟩) rfl ze41 pl41 po41 (.ze (zc := [(.slice none 0 0)]) zR_api_Table (.op (zc := [(.int .i64 0)]) tm rfl (.op (zc := [(.int .i64 0)]) tm rfl .nil)))) (s2 rfl rfl) <| cwn (oStP (n := 1) (k := 0) (m := 3) (d := (kR f_reticentref06_R)) (u := (⟨(⟨[]⟩ : api_Table), y1.At, y1.E⟩ : reticentref06_R)) (lfS (lfC (lfS (lfC lf1 lfN)) (lfC lf1 (lfC lf1 lfN)))) rfl rfl rfl z41 tm tm) (s2 rfl rfl) <| .nil) (by kernel_rfl) ?_
    refine pSeq ?_
    refine wRet ?_
    refine pThenR ?_
    obtain rfl := so h
    exact pR1 (.inl rfl) rfl (.boxP (n := 1) (d := (kR f_reticentref06_R)) (u := (⟨⟨[]⟩, y1.At, y1.E⟩ : reticentref06_R)) rfl rfl (lfS (lfC (lfS (lfC lf1 lfN)) (lfC lf1 (lfC lf1 lfN)))) rfl t41 <| .nil)

theorem slices_EqualFunc_api_Row_api_Row_api_Row_api_Row.ok {a0 : List api_Row} {a1 : List api_Row} {a2 : api_Row → api_Row → Option Bool} {r : Bool} (h : slices_EqualFunc_api_Row_api_Row_api_Row_api_Row.f a0 a1 a2 = some r) : FnA Tryd.prog 61 [(kL (kR f_api_Row)).sig a0, (kL (kR f_api_Row)).sig a1, (sFun Tryd.prog (rl2 (kR f_api_Row) (kR f_api_Row) kB a2))] (kB.sig r) := by
  refine fnIntro Tryd.func61 rfl (by kernel_rfl) fun H0 w0 => ?_
  unfold slices_EqualFunc_api_Row_api_Row_api_Row_api_Row.f at h
  refine wSeq ?_
  refine rg (cp (oAs cB) trivial <| .nil) (by kernel_rfl) ?_
  refine pSeq ?_
  refine wSeq ?_
  refine wSeq ?_
  refine rg (cp (oMv tm) (s1 rfl) <| cp (oLenL u22 tm) (s1 rfl) <| cp (oMv tm) (s1 rfl) <| cp (oLenL u22 tm) (s1 rfl) <| cp (oNe rfl tm tm) (s2 rfl rfl) <| .nil) (by kernel_rfl) ?_
  refine pSeq ?_
  rcases ic h with ⟨hp1, h⟩ | ⟨hp1, h⟩
  · refine wNT hp1 tm (s1 rfl) ?_
    refine wSkip ?_
    refine pSeq ?_
    refine wSeq ?_
    refine wSeq ?_
    refine rg (cp (oMv tm) (s1 rfl) <| cp (oLenL u22 tm) (s1 rfl) <| cp (oMv (cI (by decide))) trivial <| .nil) (by kernel_rfl) ?_
    refine pSeq ?_
    obtain ⟨o1, h, hk1⟩ := bd h
    refine wK0 (.inr () = o1) ([]) ([]) ?_ ?_
    · refine wBlock (wLoop ?_)
      refine lW (pc1 o1 (fun v12 => [(1, .d ((kL (kR f_api_Row)).sig a1)), (2, .d ((sFun Tryd.prog (rl2 (kR f_api_Row) (kR f_api_Row) kB a2)))), (15, .d ((kL (kR f_api_Row)).sig a0)), (16, .d ((kI .i64).sig (a0.length : Int))), (17, .d ((kI .i64).sig v12))]) (fun v12 => []) (slices_EqualFunc_api_Row_api_Row_api_Row_api_Row.l0.partial_correctness a0 a1 a2) ?_ _ h) ⟨rfl, rfl, rfl, rfl, rfl, trivial⟩ rfl
      clear h
      intro f' ih v12 h
      refine wSeq ?_
      refine rg (cp (oLt rfl tm tm) (s2 rfl rfl) <| .nil) (by kernel_rfl) ?_
      refine pSeq ?_
      refine wSeq ?_
      rcases ic h with ⟨hp13, h⟩ | ⟨hp13, h⟩
      · refine wCT hp13 tm (s1 rfl) ?_
        refine wSkip ?_
        refine pSeq ?_
        refine wSeq ?_
        refine wBlock ?_
        refine wSeq ?_
        obtain ⟨y14, hy14, h⟩ := bd h
        refine rg (cp (oMv tm) (s1 rfl) <| cp (oIdx u22 z87 hy14 tm tm) (s2 rfl rfl) <| cp (oLd t87 tm) (s1 rfl) <| cw (oAlloc (id := 8) (ls := [.d (kL (kI .i64)) [], .d (kL (kI .i64)) [], .d (kL (kI .i64)) []]) ze87 (fun g => ⟨[(.slice none 0 0)], _, rfl, zL g.H, ⟨[(.slice none 0 0)], _, rfl, zL g.H, ⟨[(.slice none 0 0)], _, rfl, zL g.H, rfl⟩⟩⟩)) trivial <| cp (oAs tm) (s1 rfl) <| cwn (oStA (n := 0) (fs := f_api_Row) rfl rfl z87 tm tm) (s2 rfl rfl) <| .nil) (by kernel_rfl) ?_
        refine pSeq ?_
        refine wSeq ?_
        obtain ⟨y15, hy15, h⟩ := bd h
        refine rg (cp (oMv tm) (s1 rfl) <| cp (oMv tm) (s1 rfl) <| cp (oIdx u22 z87 hy15 tm tm) (s2 rfl rfl) <| cp (oLd t87 tm) (s1 rfl) <| cw (oAlloc (id := 9) (ls := [.d (kL (kI .i64)) [], .d (kL (kI .i64)) [], .d (kL (kI .i64)) []]) ze87 (fun g => ⟨[(.slice none 0 0)], _, rfl, zL g.H, ⟨[(.slice none 0 0)], _, rfl, zL g.H, ⟨[(.slice none 0 0)], _, rfl, zL g.H, rfl⟩⟩⟩)) trivial <| cwn (oStA (n := 0) (fs := f_api_Row) rfl rfl z87 tm tm) (s2 rfl rfl) <| .nil) (by kernel_rfl) ?_
        refine pSeq ?_
        refine wSeq ?_
        obtain ⟨y16, hy16, h⟩ := bd h
        refine rg (cp (oMv tm) (s1 rfl) <| cr (oLdA (n := 1) (fs := f_api_Row) (u := ⟨y14.May, y14.Res, y14.Pc⟩) rfl ⟨rfl, rfl, rfl, trivial⟩ t87 tm) (s1 rfl) <| cr (oLdA (n := 0) (fs := f_api_Row) (u := ⟨y15.May, y15.Res, y15.Pc⟩) rfl ⟨rfl, rfl, rfl, trivial⟩ t87 tm) (s1 rfl) <| cp (oCallV rfl (rl2i hy16) tm (opds_cons tm (opds_cons tm opds_nil))) (s3 rfl rfl rfl) <| cp (oNot tm) (s1 rfl) <| .nil) (by kernel_rfl) ?_
        refine pSeq ?_
        rcases ic h with ⟨hp17, h⟩ | ⟨hp17, h⟩
        · refine wBT hp17 tm (s1 rfl) ?_
          refine wSeq ?_
          refine rg (cp (oAs cB) trivial <| .nil) (by kernel_rfl) ?_
          refine pSeq ?_
          refine wRet ?_
          refine pBlkR ?_
          refine pThenR ?_
          refine pThenR ?_
          refine pBlkR ?_
          refine pThenR ?_
          obtain rfl := so h
          replace h := hk1
          refine pThenR ?_
          obtain rfl := so h
          exact pR1 (.inl rfl) rfl (.tmp rfl <| .nil)
        · refine wBF hp17 tm (s1 rfl) ?_
          refine wSkip ?_
          refine pBlkN ?_
          refine pSeq ?_
          refine rg (cp (oAdd tm (cI (by decide))) (s1 rfl) <| cp (oMv tm) (s1 rfl) <| .nil) (by kernel_rfl) ?_
          refine pDrop (.cons _ (.cons _ .slnil)) ?_
          exact pLoop (lW (ih _ h) ⟨rfl, rfl, rfl, rfl, rfl, trivial⟩ rfl)
      · refine wCF hp13 tm (s1 rfl) ?_
        refine wExit ?_
        refine pThenX ?_
        refine pThenX ?_
        refine pBlkX ?_
        exact pJ0 (so h) trivial rfl
    · rintro rfl
      replace h := hk1
      refine pSeq ?_
      refine wSeq ?_
      refine rg (cp (oAs cB) trivial <| .nil) (by kernel_rfl) ?_
      refine pSeq ?_
      refine wRet ?_
      obtain rfl := so h
      exact pR1 (.inl rfl) rfl (.tmp rfl <| .nil)
  · refine wNF hp1 tm (s1 rfl) ?_
    refine wSeq ?_
    refine rg (cp (oAs cB) trivial <| .nil) (by kernel_rfl) ?_
    refine pSeq ?_
    refine wRet ?_
    refine pThenR ?_
    obtain rfl := so h
    exact pR1 (.inl rfl) rfl (.tmp rfl <| .nil)

theorem slices_Equal_int_int.ok {a0 : List Int} {a1 : List Int} {r : Bool} (h : slices_Equal_int_int.f a0 a1 = some r) : FnA Tryd.prog 104 [(kL (kI .i64)).sig a0, (kL (kI .i64)).sig a1] (kB.sig r) := by
  refine fnIntro Tryd.func104 rfl (by kernel_rfl) fun H0 w0 => ?_
  unfold slices_Equal_int_int.f at h
  refine wSeq ?_
  refine rg (cp (oAs cB) trivial <| .nil) (by kernel_rfl) ?_
  refine pSeq ?_
  refine wSeq ?_
  refine wSeq ?_
  refine rg (cp (oMv tm) (s1 rfl) <| cp (oLenL u85 tm) (s1 rfl) <| cp (oMv tm) (s1 rfl) <| cp (oLenL u85 tm) (s1 rfl) <| cp (oNe rfl tm tm) (s2 rfl rfl) <| .nil) (by kernel_rfl) ?_
  refine pSeq ?_
  rcases ic h with ⟨hp1, h⟩ | ⟨hp1, h⟩
  · refine wNT hp1 tm (s1 rfl) ?_
    refine wSkip ?_
    refine pSeq ?_
    refine wSeq ?_
    refine wSeq ?_
    refine rg (cp (oMv tm) (s1 rfl) <| cp (oLenL u85 tm) (s1 rfl) <| cp (oMv (cI (by decide))) trivial <| .nil) (by kernel_rfl) ?_
    refine pSeq ?_
    obtain ⟨o1, h, hk1⟩ := bd h
    refine wK0 (.inr () = o1) ([]) ([]) ?_ ?_
    · refine wBlock (wLoop ?_)
      refine lW (pc1 o1 (fun v10 => [(0, .d ((kL (kI .i64)).sig a0)), (1, .d ((kL (kI .i64)).sig a1)), (12, .d ((kI .i64).sig (a0.length : Int))), (13, .d ((kI .i64).sig v10))]) (fun v10 => []) (slices_Equal_int_int.l0.partial_correctness a0 a1) ?_ _ h) ⟨rfl, rfl, rfl, rfl, trivial⟩ rfl
      clear h
      intro f' ih v10 h
      refine wSeq ?_
      refine rg (cp (oLt rfl tm tm) (s2 rfl rfl) <| .nil) (by kernel_rfl) ?_
      refine pSeq ?_
      refine wSeq ?_
      rcases ic h with ⟨hp11, h⟩ | ⟨hp11, h⟩
      · refine wCT hp11 tm (s1 rfl) ?_
        refine wSkip ?_
        refine pSeq ?_
        refine wSeq ?_
        refine wBlock ?_
        refine wSeq ?_
        refine rg (cp (oMv tm) (s1 rfl) <| cp (oAs tm) (s1 rfl) <| .nil) (by kernel_rfl) ?_
        refine pSeq ?_
        refine wSeq ?_
        obtain ⟨y12, hy12, h⟩ := bd h
        obtain ⟨y13, hy13, h⟩ := bd h
        refine rgD hm (cp (oMv tm) (s1 rfl) <| cp (oMv tm) (s1 rfl) <| cp (oIdx u85 z3 hy12 tm tm) (s2 rfl rfl) <| cp (oLd t3 tm) (s1 rfl) <| cp (oMv tm) (s1 rfl) <| cp (oMv tm) (s1 rfl) <| cp (oIdx u85 z3 hy13 tm tm) (s2 rfl rfl) <| cp (oLd t3 tm) (s1 rfl) <| cp (oNe rfl tm tm) (s2 rfl rfl) <| .nil) (by kernel_rfl) (by kernel_rfl) ?_
        refine pSeq ?_
        rcases ic h with ⟨hp14, h⟩ | ⟨hp14, h⟩
        · refine wNT hp14 tm (s1 rfl) ?_
          refine wSkip ?_
          refine pBlkN ?_
          refine pSeq ?_
          refine rg (cp (oAdd tm (cI (by decide))) (s1 rfl) <| cp (oMv tm) (s1 rfl) <| .nil) (by kernel_rfl) ?_
          exact pLoop (lW (ih _ h) ⟨rfl, rfl, rfl, rfl, trivial⟩ rfl)
        · refine wNF hp14 tm (s1 rfl) ?_
          refine wSeq ?_
          refine rg (cp (oAs cB) trivial <| .nil) (by kernel_rfl) ?_
          refine pSeq ?_
          refine wRet ?_
          refine pBlkR ?_
          refine pThenR ?_
          refine pThenR ?_
          refine pBlkR ?_
          refine pThenR ?_
          obtain rfl := so h
          replace h := hk1
          refine pThenR ?_
          obtain rfl := so h
          exact pR1 (.inl rfl) rfl (.tmp rfl <| .nil)
      · refine wCF hp11 tm (s1 rfl) ?_
        refine wExit ?_
        refine pThenX ?_
        refine pThenX ?_
        refine pBlkX ?_
        exact pJ0 (so h) trivial rfl
    · rintro rfl
      replace h := hk1
      refine pSeq ?_
      refine wSeq ?_
      refine rg (cp (oAs cB) trivial <| .nil) (by kernel_rfl) ?_
      refine pSeq ?_
      refine wRet ?_
      obtain rfl := so h
      exact pR1 (.inl rfl) rfl (.tmp rfl <| .nil)
  · refine wNF hp1 tm (s1 rfl) ?_
    refine wSeq ?_
    refine rg (cp (oAs cB) trivial <| .nil) (by kernel_rfl) ?_
    refine pSeq ?_
    refine wRet ?_
    refine pThenR ?_
    obtain rfl := so h
    exact pR1 (.inl rfl) rfl (.tmp rfl <| .nil)

theorem table_likeRow.ok {a0 : api_Row} {a1 : api_Row} {r : Bool} (h : table_likeRow.f a0 a1 = some r) : FnA Tryd.prog 62 [(kR f_api_Row).sig a0, (kR f_api_Row).sig a1] (kB.sig r) := by
  refine fnIntro Tryd.func62 rfl (by kernel_rfl) fun H0 w0 => ?_
  unfold table_likeRow.f at h
  refine wSeq ?_
  refine rg (cp (oBox tm) (s1 rfl) <| cp (oBox tm) (s1 rfl) <| cp (oAs cB) trivial <| .nil) (by kernel_rfl) ?_
  refine pSeq ?_
  obtain ⟨o1, h, hk1⟩ := bd h
  refine wJ1 (fun x6 => x6 = o1) (fun x6 => [(4, .d (kB.sig x6))]) (fun x6 => []) ?_ ?_
  · obtain ⟨y7, hy7, h⟩ := bd h
    rcases ic h with ⟨hp8, h⟩ | ⟨hp8, h⟩
    · obtain ⟨y9, hy9, h⟩ := bd h
      rcases ic h with ⟨hp10, h⟩ | ⟨hp10, h⟩
      · obtain ⟨y11, hy11, h⟩ := bd h
        refine rg (cp (oFld (fs := f_api_Row) (k := 0) rfl o87_0 tm) (s1 rfl) <| cp (oLd t85 tm) (s1 rfl) <| cp (oFld (fs := f_api_Row) (k := 0) rfl o87_0 tm) (s1 rfl) <| cp (oLd t85 tm) (s1 rfl) <| cp (oCall rfl (slices_Equal_int_int.ok hy7) b104 (opds_cons tm (opds_cons tm opds_nil))) (s2 rfl rfl) <| cp (oMv tm) (s1 rfl) <| cgB hp8 rfl rfl (oFld (fs := f_api_Row) (k := 1) rfl o87_1 tm) (s1 rfl) <| cgB hp8 rfl rfl (oLd t85 tm) (s1 rfl) <| cgB hp8 rfl rfl (oFld (fs := f_api_Row) (k := 1) rfl o87_1 tm) (s1 rfl) <| cgB hp8 rfl rfl (oLd t85 tm) (s1 rfl) <| cgB hp8 rfl rfl (oCall rfl (slices_Equal_int_int.ok hy9) b104 (opds_cons tm (opds_cons tm opds_nil))) (s2 rfl rfl) <| cp (oPkT hp8 tm tm) (s2 rfl rfl) <| cp (oMv tm) (s1 rfl) <| cgB hp10 rfl rfl (oFld (fs := f_api_Row) (k := 2) rfl o87_2 tm) (s1 rfl) <| cgB hp10 rfl rfl (oLd t85 tm) (s1 rfl) <| cgB hp10 rfl rfl (oFld (fs := f_api_Row) (k := 2) rfl o87_2 tm) (s1 rfl) <| cgB hp10 rfl rfl (oLd t85 tm) (s1 rfl) <| cgB hp10 rfl rfl (oCall rfl (slices_Equal_int_int.ok hy11) b104 (opds_cons tm (opds_cons tm opds_nil))) (s2 rfl rfl) <| cp (oPkT hp10 tm tm) (s2 rfl rfl) <| cp (oAs tm) (s1 rfl) <| .nil) (by kernel_rfl) ?_
        exact pJ1 _ (so h) ⟨rfl, trivial⟩ rfl
      · refine rg (cp (oFld (fs := f_api_Row) (k := 0) rfl o87_0 tm) (s1 rfl) <| cp (oLd t85 tm) (s1 rfl) <| cp (oFld (fs := f_api_Row) (k := 0) rfl o87_0 tm) (s1 rfl) <| cp (oLd t85 tm) (s1 rfl) <| cp (oCall rfl (slices_Equal_int_int.ok hy7) b104 (opds_cons tm (opds_cons tm opds_nil))) (s2 rfl rfl) <| cp (oMv tm) (s1 rfl) <| cgB hp8 rfl rfl (oFld (fs := f_api_Row) (k := 1) rfl o87_1 tm) (s1 rfl) <| cgB hp8 rfl rfl (oLd t85 tm) (s1 rfl) <| cgB hp8 rfl rfl (oFld (fs := f_api_Row) (k := 1) rfl o87_1 tm) (s1 rfl) <| cgB hp8 rfl rfl (oLd t85 tm) (s1 rfl) <| cgB hp8 rfl rfl (oCall rfl (slices_Equal_int_int.ok hy9) b104 (opds_cons tm (opds_cons tm opds_nil))) (s2 rfl rfl) <| cp (oPkT hp8 tm tm) (s2 rfl rfl) <| cp (oMv tm) (s1 rfl) <| csB (nb hp10) rfl rfl <| csB (nb hp10) rfl rfl <| csB (nb hp10) rfl rfl <| csB (nb hp10) rfl rfl <| csB (nb hp10) rfl rfl <| cp (oPkF (nb hp10) tm cB) (s1 rfl) <| cp (oAs tm) (s1 rfl) <| .nil) (by kernel_rfl) ?_
        exact pJ1 _ (so h) ⟨rfl, trivial⟩ rfl
    · refine rg (cp (oFld (fs := f_api_Row) (k := 0) rfl o87_0 tm) (s1 rfl) <| cp (oLd t85 tm) (s1 rfl) <| cp (oFld (fs := f_api_Row) (k := 0) rfl o87_0 tm) (s1 rfl) <| cp (oLd t85 tm) (s1 rfl) <| cp (oCall rfl (slices_Equal_int_int.ok hy7) b104 (opds_cons tm (opds_cons tm opds_nil))) (s2 rfl rfl) <| cp (oMv tm) (s1 rfl) <| csB (nb hp8) rfl rfl <| csB (nb hp8) rfl rfl <| csB (nb hp8) rfl rfl <| csB (nb hp8) rfl rfl <| csB (nb hp8) rfl rfl <| cp (oPkF (nb hp8) tm cB) (s1 rfl) <| cp (oMv tm) (s1 rfl) <| csB rfl rfl rfl <| csB rfl rfl rfl <| csB rfl rfl rfl <| csB rfl rfl rfl <| csB rfl rfl rfl <| cp (oPkF rfl tm cB) (s1 rfl) <| cp (oAs tm) (s1 rfl) <| .nil) (by kernel_rfl) ?_
      exact pJ1 _ (so h) ⟨rfl, trivial⟩ rfl
  · rintro x6 rfl
    replace h := hk1
    refine wRet ?_
    obtain rfl := so h
    exact pR1 (.inl rfl) rfl (.tmp rfl <| .nil)

theorem table_Like.ok {a0 : api_Table} {a1 : api_Table} {r : Bool} (h : table_Like.f a0 a1 = some r) : FnA Tryd.prog 19 [(kR f_api_Table).sig a0, (kR f_api_Table).sig a1] (kB.sig r) := by
  refine fnIntro Tryd.func19 rfl (by kernel_rfl) fun H0 w0 => ?_
  unfold table_Like.f at h
  refine wSeq ?_
  refine rg (cp (oBox tm) (s1 rfl) <| cp (oBox tm) (s1 rfl) <| cp (oAs cB) trivial <| .nil) (by kernel_rfl) ?_
  refine pSeq ?_
  refine wSeq ?_
  obtain ⟨y1, hy1, h⟩ := bd h
  refine rg (cp (oFld (fs := f_api_Table) (k := 0) rfl o24_0 tm) (s1 rfl) <| cp (oLd t22 tm) (s1 rfl) <| cp (oFld (fs := f_api_Table) (k := 0) rfl o24_0 tm) (s1 rfl) <| cp (oLd t22 tm) (s1 rfl) <| cp (oCall rfl (slices_EqualFunc_api_Row_api_Row_api_Row_api_Row.ok hy1) b61 (opds_cons tm (opds_cons tm (opds_cons (oFn b62 (rl2n table_likeRow.ok)) opds_nil)))) (s2 rfl rfl) <| cp (oAs tm) (s1 rfl) <| .nil) (by kernel_rfl) ?_
  refine pSeq ?_
  refine wRet ?_
  obtain rfl := so h
  exact pR1 (.inl rfl) rfl (.tmp rfl <| .nil)

theorem reticentref04_Same.ok {a0 : List Int} {a1 : List Int} {r : Bool} (h : reticentref04_Same.f a0 a1 = some r) : FnA Tryd.prog 66 [(kL (kI .i64)).sig a0, (kL (kI .i64)).sig a1] (kB.sig r) := by
  refine fnIntro Tryd.func66 rfl (by kernel_rfl) fun H0 w0 => ?_
  unfold reticentref04_Same.f at h
  refine wSeq ?_
  refine rg (cp (oAs cB) trivial <| .nil) (by kernel_rfl) ?_
  refine pSeq ?_
  refine wSeq ?_
  refine wSeq ?_
  refine rg (cp (oMv tm) (s1 rfl) <| cp (oLenL u85 tm) (s1 rfl) <| cp (oMv tm) (s1 rfl) <| cp (oLenL u85 tm) (s1 rfl) <| cp (oNe rfl tm tm) (s2 rfl rfl) <| .nil) (by kernel_rfl) ?_
  refine pSeq ?_
  rcases ic h with ⟨hp1, h⟩ | ⟨hp1, h⟩
  · refine wNT hp1 tm (s1 rfl) ?_
    refine wSkip ?_
    refine pSeq ?_
    refine wSeq ?_
    refine wSeq ?_
    refine rg (cp (oMv tm) (s1 rfl) <| cp (oLenL u85 tm) (s1 rfl) <| cp (oMv (cI (by decide))) trivial <| .nil) (by kernel_rfl) ?_
    refine pSeq ?_
    obtain ⟨o1, h, hk1⟩ := bd h
    refine wK0 (.inr () = o1) ([]) ([]) ?_ ?_
    · refine wBlock (wLoop ?_)
      refine lW (pc1 o1 (fun v10 => [(0, .d ((kL (kI .i64)).sig a0)), (1, .d ((kL (kI .i64)).sig a1)), (12, .d ((kI .i64).sig (a0.length : Int))), (13, .d ((kI .i64).sig v10))]) (fun v10 => []) (reticentref04_Same.l0.partial_correctness a0 a1) ?_ _ h) ⟨rfl, rfl, rfl, rfl, trivial⟩ rfl
      clear h
      intro f' ih v10 h
      refine wSeq ?_
      refine rg (cp (oLt rfl tm tm) (s2 rfl rfl) <| .nil) (by kernel_rfl) ?_
      refine pSeq ?_
      refine wSeq ?_
      rcases ic h with ⟨hp11, h⟩ | ⟨hp11, h⟩
      · refine wCT hp11 tm (s1 rfl) ?_
        refine wSkip ?_
        refine pSeq ?_
        refine wSeq ?_
        refine wBlock ?_
        refine wSeq ?_
        refine rg (cp (oMv tm) (s1 rfl) <| cp (oAs tm) (s1 rfl) <| .nil) (by kernel_rfl) ?_
        refine pSeq ?_
        refine wSeq ?_
        obtain ⟨y12, hy12, h⟩ := bd h
        obtain ⟨y13, hy13, h⟩ := bd h
        refine rgD hm (cp (oMv tm) (s1 rfl) <| cp (oMv tm) (s1 rfl) <| cp (oIdx u85 z3 hy12 tm tm) (s2 rfl rfl) <| cp (oLd t3 tm) (s1 rfl) <| cp (oMv tm) (s1 rfl) <| cp (oMv tm) (s1 rfl) <| cp (oIdx u85 z3 hy13 tm tm) (s2 rfl rfl) <| cp (oLd t3 tm) (s1 rfl) <| cp (oNe rfl tm tm) (s2 rfl rfl) <| .nil) (by kernel_rfl) (by kernel_rfl) ?_
        refine pSeq ?_
        rcases ic h with ⟨hp14, h⟩ | ⟨hp14, h⟩
        · refine wNT hp14 tm (s1 rfl) ?_
          refine wSkip ?_
          refine pBlkN ?_
          refine pSeq ?_
          refine rg (cp (oAdd tm (cI (by decide))) (s1 rfl) <| cp (oMv tm) (s1 rfl) <| .nil) (by kernel_rfl) ?_
          exact pLoop (lW (ih _ h) ⟨rfl, rfl, rfl, rfl, trivial⟩ rfl)
        · refine wNF hp14 tm (s1 rfl) ?_
          refine wSeq ?_
          refine rg (cp (oAs cB) trivial <| .nil) (by kernel_rfl) ?_
          refine pSeq ?_
          refine wRet ?_
          refine pBlkR ?_
          refine pThenR ?_
          refine pThenR ?_
          refine pBlkR ?_
          refine pThenR ?_
          obtain rfl := so h
          replace h := hk1
          refine pThenR ?_
          obtain rfl := so h
          exact pR1 (.inl rfl) rfl (.tmp rfl <| .nil)
      · refine wCF hp11 tm (s1 rfl) ?_
        refine wExit ?_
        refine pThenX ?_
        refine pThenX ?_
        refine pBlkX ?_
        exact pJ0 (so h) trivial rfl
    · rintro rfl
      replace h := hk1
      refine pSeq ?_
      refine wSeq ?_
      refine rg (cp (oAs cB) trivial <| .nil) (by kernel_rfl) ?_
      refine pSeq ?_
      refine wRet ?_
      obtain rfl := so h
      exact pR1 (.inl rfl) rfl (.tmp rfl <| .nil)
  · refine wNF hp1 tm (s1 rfl) ?_
    refine wSeq ?_
    refine rg (cp (oAs cB) trivial <| .nil) (by kernel_rfl) ?_
    refine pSeq ?_
    refine wRet ?_
    refine pThenR ?_
    obtain rfl := so h
    exact pR1 (.inl rfl) rfl (.tmp rfl <| .nil)

theorem reticentref06_Like.ok {a0 : api_Table} {a1 : api_Table} {r : Bool} (h : reticentref06_Like.f a0 a1 = some r) : FnA Tryd.prog 23 [(kR f_api_Table).sig a0, (kR f_api_Table).sig a1] (kB.sig r) := by
  refine fnIntro Tryd.func23 rfl (by kernel_rfl) fun H0 w0 => ?_
  unfold reticentref06_Like.f at h
  refine wSeq ?_
  refine rg (cp (oBox tm) (s1 rfl) <| cp (oBox tm) (s1 rfl) <| cp (oAs cB) trivial <| .nil) (by kernel_rfl) ?_
  refine pSeq ?_
  refine wSeq ?_
  refine wSeq ?_
  refine rg (cp (oFld (fs := f_api_Table) (k := 0) rfl o24_0 tm) (s1 rfl) <| cp (oLd t22 tm) (s1 rfl) <| cp (oLenL u22 tm) (s1 rfl) <| cp (oFld (fs := f_api_Table) (k := 0) rfl o24_0 tm) (s1 rfl) <| cp (oLd t22 tm) (s1 rfl) <| cp (oLenL u22 tm) (s1 rfl) <| cp (oNe rfl tm tm) (s2 rfl rfl) <| .nil) (by kernel_rfl) ?_
  refine pSeq ?_
  rcases ic h with ⟨hp1, h⟩ | ⟨hp1, h⟩
  · refine wNT hp1 tm (s1 rfl) ?_
    refine wSkip ?_
    refine pSeq ?_
    refine wSeq ?_
    refine wSeq ?_
    refine rg (cp (oFld (fs := f_api_Table) (k := 0) rfl o24_0 tm) (s1 rfl) <| cp (oLd t22 tm) (s1 rfl) <| cp (oLenL u22 tm) (s1 rfl) <| cp (oMv (cI (by decide))) trivial <| .nil) (by kernel_rfl) ?_
    refine pSeq ?_
    obtain ⟨o1, h, hk1⟩ := bd h
    refine wK0 (.inr () = o1) ([]) ([]) ?_ ?_
    · refine wBlock (wLoop ?_)
      refine lW (pc1 o1 (fun v52 => [(2, .d (sP (kR f_api_Table) a0)), (3, .d (sP (kR f_api_Table) a1)), (15, .d ((kI .i64).sig (a0.Rows.length : Int))), (16, .d ((kI .i64).sig v52))]) (fun v52 => []) (reticentref06_Like.l0.partial_correctness a0 a1) ?_ _ h) ⟨rfl, rfl, rfl, rfl, trivial⟩ rfl
      clear h
      intro f' ih v52 h
      refine wSeq ?_
      refine rg (cp (oLt rfl tm tm) (s2 rfl rfl) <| .nil) (by kernel_rfl) ?_
      refine pSeq ?_
      refine wSeq ?_
      rcases ic h with ⟨hp53, h⟩ | ⟨hp53, h⟩
      · refine wCT hp53 tm (s1 rfl) ?_
        refine wSkip ?_
        refine pSeq ?_
        refine wSeq ?_
        refine wBlock ?_
        refine wSeq ?_
        refine rg (cp (oMv tm) (s1 rfl) <| cp (oAs tm) (s1 rfl) <| .nil) (by kernel_rfl) ?_
        refine pSeq ?_
        obtain ⟨o2, h, hk2⟩ := bd h
        refine wJ1 (fun x65 => x65 = o2) (fun x65 => [(2, .d (sP (kR f_api_Table) a0)), (3, .d (sP (kR f_api_Table) a1)), (15, .d ((kI .i64).sig (a0.Rows.length : Int))), (16, .d ((kI .i64).sig v52)), (64, .d (kB.sig x65))]) (fun x65 => []) ?_ ?_
        · obtain ⟨y66, hy66, h⟩ := bd h
          obtain ⟨y67, hy67, h⟩ := bd h
          obtain ⟨y68, hy68, h⟩ := bd h
          rcases ic h with ⟨hp69, h⟩ | ⟨hp69, h⟩
          · refine rgD hm (cp (oFld (fs := f_api_Table) (k := 0) rfl o24_0 tm) (s1 rfl) <| cp (oLd t22 tm) (s1 rfl) <| cp (oMv tm) (s1 rfl) <| cp (oIdx u22 z87 hy66 tm tm) (s2 rfl rfl) <| cp (oFld (fs := f_api_Row) (k := 0) rfl o87_0 tm) (s1 rfl) <| cp (oLd t85 tm) (s1 rfl) <| cp (oFld (fs := f_api_Table) (k := 0) rfl o24_0 tm) (s1 rfl) <| cp (oLd t22 tm) (s1 rfl) <| cp (oMv tm) (s1 rfl) <| cp (oIdx u22 z87 hy67 tm tm) (s2 rfl rfl) <| cp (oFld (fs := f_api_Row) (k := 0) rfl o87_0 tm) (s1 rfl) <| cp (oLd t85 tm) (s1 rfl) <| cp (oCall rfl (reticentref04_Same.ok hy68) b66 (opds_cons tm (opds_cons tm opds_nil))) (s2 rfl rfl) <| cp (oNot tm) (s1 rfl) <| cp (oMv tm) (s1 rfl) <| csB hp69 rfl rfl <| csB hp69 rfl rfl <| csB hp69 rfl rfl <| csB hp69 rfl rfl <| csB hp69 rfl rfl <| csB hp69 rfl rfl <| csB hp69 rfl rfl <| csB hp69 rfl rfl <| csB hp69 rfl rfl <| csB hp69 rfl rfl <| csB hp69 rfl rfl <| csB hp69 rfl rfl <| csB hp69 rfl rfl <| csB hp69 rfl rfl <| cp (oPkT hp69 tm cB) (s1 rfl) <| cp (oMv tm) (s1 rfl) <| csB rfl rfl rfl <| csB rfl rfl rfl <| csB rfl rfl rfl <| csB rfl rfl rfl <| csB rfl rfl rfl <| csB rfl rfl rfl <| csB rfl rfl rfl <| csB rfl rfl rfl <| csB rfl rfl rfl <| csB rfl rfl rfl <| csB rfl rfl rfl <| csB rfl rfl rfl <| csB rfl rfl rfl <| csB rfl rfl rfl <| cp (oPkT rfl tm cB) (s1 rfl) <| .nil) (by kernel_rfl) (by kernel_rfl) ?_
            exact pJ1 _ (so h) ⟨rfl, rfl, rfl, rfl, rfl, trivial⟩ rfl
          · obtain ⟨y70, hy70, h⟩ := bd h
            obtain ⟨y71, hy71, h⟩ := bd h
            obtain ⟨y72, hy72, h⟩ := bd h
            rcases ic h with ⟨hp73, h⟩ | ⟨hp73, h⟩
            · refine rgD hm (cp (oFld (fs := f_api_Table) (k := 0) rfl o24_0 tm) (s1 rfl) <| cp (oLd t22 tm) (s1 rfl) <| cp (oMv tm) (s1 rfl) <| cp (oIdx u22 z87 hy66 tm tm) (s2 rfl rfl) <| cp (oFld (fs := f_api_Row) (k := 0) rfl o87_0 tm) (s1 rfl) <| cp (oLd t85 tm) (s1 rfl) <| cp (oFld (fs := f_api_Table) (k := 0) rfl o24_0 tm) (s1 rfl) <| cp (oLd t22 tm) (s1 rfl) <| cp (oMv tm) (s1 rfl) <| cp (oIdx u22 z87 hy67 tm tm) (s2 rfl rfl) <| cp (oFld (fs := f_api_Row) (k := 0) rfl o87_0 tm) (s1 rfl) <| cp (oLd t85 tm) (s1 rfl) <| cp (oCall rfl (reticentref04_Same.ok hy68) b66 (opds_cons tm (opds_cons tm opds_nil))) (s2 rfl rfl) <| cp (oNot tm) (s1 rfl) <| cp (oMv tm) (s1 rfl) <| cgB (nb hp69) rfl rfl (oFld (fs := f_api_Table) (k := 0) rfl o24_0 tm) (s1 rfl) <| cgB (nb hp69) rfl rfl (oLd t22 tm) (s1 rfl) <| cgB (nb hp69) rfl rfl (oMv tm) (s1 rfl) <| cgB (nb hp69) rfl rfl (oIdx u22 z87 hy70 tm tm) (s2 rfl rfl) <| cgB (nb hp69) rfl rfl (oFld (fs := f_api_Row) (k := 1) rfl o87_1 tm) (s1 rfl) <| cgB (nb hp69) rfl rfl (oLd t85 tm) (s1 rfl) <| cgB (nb hp69) rfl rfl (oFld (fs := f_api_Table) (k := 0) rfl o24_0 tm) (s1 rfl) <| cgB (nb hp69) rfl rfl (oLd t22 tm) (s1 rfl) <| cgB (nb hp69) rfl rfl (oMv tm) (s1 rfl) <| cgB (nb hp69) rfl rfl (oIdx u22 z87 hy71 tm tm) (s2 rfl rfl) <| cgB (nb hp69) rfl rfl (oFld (fs := f_api_Row) (k := 1) rfl o87_1 tm) (s1 rfl) <| cgB (nb hp69) rfl rfl (oLd t85 tm) (s1 rfl) <| cgB (nb hp69) rfl rfl (oCall rfl (reticentref04_Same.ok hy72) b66 (opds_cons tm (opds_cons tm opds_nil))) (s2 rfl rfl) <| cgB (nb hp69) rfl rfl (oNot tm) (s1 rfl) <| cp (oPkF (nb hp69) tm tm) (s2 rfl rfl) <| cp (oMv tm) (s1 rfl) <| csB hp73 rfl rfl <| csB hp73 rfl rfl <| csB hp73 rfl rfl <| csB hp73 rfl rfl <| csB hp73 rfl rfl <| csB hp73 rfl rfl <| csB hp73 rfl rfl <| csB hp73 rfl rfl <| csB hp73 rfl rfl <| csB hp73 rfl rfl <| csB hp73 rfl rfl <| csB hp73 rfl rfl <| csB hp73 rfl rfl <| csB hp73 rfl rfl <| cp (oPkT hp73 tm cB) (s1 rfl) <| .nil) (by kernel_rfl) (by kernel_rfl) ?_
              exact pJ1 _ (so h) ⟨rfl, rfl, rfl, rfl, rfl, trivial⟩ rfl
            · obtain ⟨y74, hy74, h⟩ := bd h
              obtain ⟨y75, hy75, h⟩ := bd h
              obtain ⟨y76, hy76, h⟩ := bd h
              refine rgD hm (cp (oFld (fs := f_api_Table) (k := 0) rfl o24_0 tm) (s1 rfl) <| cp (oLd t22 tm) (s1 rfl) <| cp (oMv tm) (s1 rfl) <| cp (oIdx u22 z87 hy66 tm tm) (s2 rfl rfl) <| cp (oFld (fs := f_api_Row) (k := 0) rfl o87_0 tm) (s1 rfl) <| cp (oLd t85 tm) (s1 rfl) <| cp (oFld (fs := f_api_Table) (k := 0) rfl o24_0 tm) (s1 rfl) <| cp (oLd t22 tm) (s1 rfl) <| cp (oMv tm) (s1 rfl) <| cp (oIdx u22 z87 hy67 tm tm) (s2 rfl rfl) <| cp (oFld (fs := f_api_Row) (k := 0) rfl o87_0 tm) (s1 rfl) <| cp (oLd t85 tm) (s1 rfl) <| cp (oCall rfl (reticentref04_Same.ok hy68) b66 (opds_cons tm (opds_cons tm opds_nil))) (s2 rfl rfl) <| cp (oNot tm) (s1 rfl) <| cp (oMv tm) (s1 rfl) <| cgB (nb hp69) rfl rfl (oFld (fs := f_api_Table) (k := 0) rfl o24_0 tm) (s1 rfl) <| cgB (nb hp69) rfl rfl (oLd t22 tm) (s1 rfl) <| cgB (nb hp69) rfl rfl (oMv tm) (s1 rfl) <| cgB (nb hp69) rfl rfl (oIdx u22 z87 hy70 tm tm) (s2 rfl rfl) <| cgB (nb hp69) rfl rfl (oFld (fs := f_api_Row) (k := 1) rfl o87_1 tm) (s1 rfl) <| cgB (nb hp69) rfl rfl (oLd t85 tm) (s1 rfl) <| cgB (nb hp69) rfl rfl (oFld (fs := f_api_Table) (k := 0) rfl o24_0 tm) (s1 rfl) <| cgB (nb hp69) rfl rfl (oLd t22 tm) (s1 rfl) <| cgB (nb hp69) rfl rfl (oMv tm) (s1 rfl) <| cgB (nb hp69) rfl rfl (oIdx u22 z87 hy71 tm tm) (s2 rfl rfl) <| cgB (nb hp69) rfl rfl (oFld (fs := f_api_Row) (k := 1) rfl o87_1 tm) (s1 rfl) <| cgB (nb hp69) rfl rfl (oLd t85 tm) (s1 rfl) <| cgB (nb hp69) rfl rfl (oCall rfl (reticentref04_Same.ok hy72) b66 (opds_cons tm (opds_cons tm opds_nil))) (s2 rfl rfl) <| cgB (nb hp69) rfl rfl (oNot tm) (s1 rfl) <| cp (oPkF (nb hp69) tm tm) (s2 rfl rfl) <| cp (oMv tm) (s1 rfl) <| cgB (nb hp73) rfl rfl (oFld (fs := f_api_Table) (k := 0) rfl o24_0 tm) (s1 rfl) <| cgB (nb hp73) rfl rfl (oLd t22 tm) (s1 rfl) <| cgB (nb hp73) rfl rfl (oMv tm) (s1 rfl) <| cgB (nb hp73) rfl rfl (oIdx u22 z87 hy74 tm tm) (s2 rfl rfl) <| cgB (nb hp73) rfl rfl (oFld (fs := f_api_Row) (k := 2) rfl o87_2 tm) (s1 rfl) <| cgB (nb hp73) rfl rfl (oLd t85 tm) (s1 rfl) <| cgB (nb hp73) rfl rfl (oFld (fs := f_api_Table) (k := 0) rfl o24_0 tm) (s1 rfl) <| cgB (nb hp73) rfl rfl (oLd t22 tm) (s1 rfl) <| cgB (nb hp73) rfl rfl (oMv tm) (s1 rfl) <| cgB (nb hp73) rfl rfl (oIdx u22 z87 hy75 tm tm) (s2 rfl rfl) <| cgB (nb hp73) rfl rfl (oFld (fs := f_api_Row) (k := 2) rfl o87_2 tm) (s1 rfl) <| cgB (nb hp73) rfl rfl (oLd t85 tm) (s1 rfl) <| cgB (nb hp73) rfl rfl (oCall rfl (reticentref04_Same.ok hy76) b66 (opds_cons tm (opds_cons tm opds_nil))) (s2 rfl rfl) <| cgB (nb hp73) rfl rfl (oNot tm) (s1 rfl) <| cp (oPkF (nb hp73) tm tm) (s2 rfl rfl) <| .nil) (by kernel_rfl) (by kernel_rfl) ?_
              exact pJ1 _ (so h) ⟨rfl, rfl, rfl, rfl, rfl, trivial⟩ rfl
        · rintro x65 rfl
          replace h := hk2
          rcases ic h with ⟨hp77, h⟩ | ⟨hp77, h⟩
          · refine wBT hp77 tm (s1 rfl) ?_
            refine wSeq ?_
            refine rg (cp (oAs cB) trivial <| .nil) (by kernel_rfl) ?_
            refine pSeq ?_
            refine wRet ?_
            refine pBlkR ?_
            refine pThenR ?_
            refine pThenR ?_
            refine pBlkR ?_
            refine pThenR ?_
            obtain rfl := so h
            replace h := hk1
            refine pThenR ?_
            obtain rfl := so h
            exact pR1 (.inl rfl) rfl (.tmp rfl <| .nil)
          · refine wBF hp77 tm (s1 rfl) ?_
            refine wSkip ?_
            refine pBlkN ?_
            refine pSeq ?_
            refine rg (cp (oAdd tm (cI (by decide))) (s1 rfl) <| cp (oMv tm) (s1 rfl) <| .nil) (by kernel_rfl) ?_
            exact pLoop (lW (ih _ h) ⟨rfl, rfl, rfl, rfl, trivial⟩ rfl)
      · refine wCF hp53 tm (s1 rfl) ?_
        refine wExit ?_
        refine pThenX ?_
        refine pThenX ?_
        refine pBlkX ?_
        exact pJ0 (so h) trivial rfl
    · rintro rfl
      replace h := hk1
      refine pSeq ?_
      refine wSeq ?_
      refine rg (cp (oAs cB) trivial <| .nil) (by kernel_rfl) ?_
      refine pSeq ?_
      refine wRet ?_
      obtain rfl := so h
      exact pR1 (.inl rfl) rfl (.tmp rfl <| .nil)
  · refine wNF hp1 tm (s1 rfl) ?_
    refine wSeq ?_
    refine rg (cp (oAs cB) trivial <| .nil) (by kernel_rfl) ?_
    refine pSeq ?_
    refine wRet ?_
    refine pThenR ?_
    obtain rfl := so h
    exact pR1 (.inl rfl) rfl (.tmp rfl <| .nil)

theorem rule_made_1.ok {a0 : Bool} {a1 : List Bool} {r : (List Bool) × Bool} (h : rule_made_1.f a0 a1 = some r) : FnS Tryd.prog 214 [.d (kB.sig a0), .p 70100 0] [.box 70100 290 [.v 70101], .row 70101 237 kB a1] [70100] (.d (kB.sig r.2)) [.box 70100 290 [.v 70101], .row 70101 237 kB r.1] := by
  refine fnIntroS Tryd.func214 rfl (by kernel_rfl) fun X H0 w0 pv => ?_
  unfold rule_made_1.f at h
  refine wSeq ?_
  refine rg (cp (oAs cB) trivial <| .nil) (by kernel_rfl) ?_
  refine pSeq ?_
  refine wSeq ?_
  refine rg (cr (oLdN (n := 0) (k := 0) rfl rfl rfl t290 tm) (s1 rfl) <| cr (oLenR (n := 1) u290 rfl tm) (s1 rfl) <| cp (oSub tm (cI (by decide))) (s1 rfl) <| cp (oAs tm) (s1 rfl) <| .nil) (by kernel_rfl) ?_
  refine pSeq ?_
  refine wSeq ?_
  refine wWeak (Γ' := [(0, .d (kB.sig a0)), (1, .p 70100 0), (4, .d ((kI .i64).sig (IntKind.i64.wrap ((a1.length : Int) - 1))))]) ⟨rfl, rfl, rfl, trivial⟩ ?_
  refine wRen 70101 3510000 rfl ?_
  obtain ⟨o1, h, hk1⟩ := bd h
  refine wJ1 (fun x5 => x5 = o1) (fun x5 => [(1, .p 70100 0), (4, .d ((kI .i64).sig (IntKind.i64.wrap ((a1.length : Int) - 1)))), (26, .d (kB.sig x5))]) (fun x5 => [.box 70100 290 [.v 3510000], .row 3510000 237 kB a1]) ?_ ?_
  · rcases ic h with ⟨hp6, h⟩ | ⟨hp6, h⟩
    · refine rg (cp (oMv tm) (s1 rfl) <| cp (oLt rfl tm (cI (by decide))) (s1 rfl) <| cp (oMv tm) (s1 rfl) <| csB (decide_eq_true hp6) rfl rfl <| csB (decide_eq_true hp6) rfl rfl <| csB (decide_eq_true hp6) rfl rfl <| csB (decide_eq_true hp6) rfl rfl <| csB (decide_eq_true hp6) rfl rfl <| csB (decide_eq_true hp6) rfl rfl <| cp (oPkT (decide_eq_true hp6) tm cB) (s1 rfl) <| cp (oMv tm) (s1 rfl) <| csB rfl rfl rfl <| csB rfl rfl rfl <| csB rfl rfl rfl <| csB rfl rfl rfl <| csB rfl rfl rfl <| csB rfl rfl rfl <| csB rfl rfl rfl <| cp (oPkT rfl tm cB) (s1 rfl) <| .nil) (by kernel_rfl) ?_
      exact pJ1 _ (so h) ⟨rfl, rfl, rfl, trivial⟩ rfl
    · obtain ⟨y7, hy7, h⟩ := bd h
      rcases ic h with ⟨hp8, h⟩ | ⟨hp8, h⟩
      · obtain ⟨y9, hy9, h⟩ := bd h
        refine rg (cp (oMv tm) (s1 rfl) <| cp (oLt rfl tm (cI (by decide))) (s1 rfl) <| cp (oMv tm) (s1 rfl) <| crgB (decide_eq_false hp6) rfl rfl (oLdN (n := 0) (k := 0) rfl rfl rfl t290 tm) (s1 rfl) <| cgB (decide_eq_false hp6) rfl rfl (oMv tm) (s1 rfl) <| crgB (decide_eq_false hp6) rfl rfl (oIdxR (n := 1) u290 z237 rfl hy7 tm tm) (s2 rfl rfl) <| crgB (decide_eq_false hp6) rfl rfl (oLdE (n := 1) rfl hy7 rfl t237 tm) (s1 rfl) <| cgB (decide_eq_false hp6) rfl rfl (oMv tm) (s1 rfl) <| cgB (decide_eq_false hp6) rfl rfl (oBNe u237 rfl tm tm) (s2 rfl rfl) <| cp (oPkF (decide_eq_false hp6) tm tm) (s2 rfl rfl) <| cp (oMv tm) (s1 rfl) <| crgB (nf hp8) rfl rfl (oLdN (n := 0) (k := 0) rfl rfl rfl t290 tm) (s1 rfl) <| cgB (nf hp8) rfl rfl (oMv tm) (s1 rfl) <| cgB (nf hp8) rfl rfl (oSub tm (cI (by decide))) (s1 rfl) <| crgB (nf hp8) rfl rfl (oIdxR (n := 1) u290 z237 rfl hy9 tm tm) (s2 rfl rfl) <| crgB (nf hp8) rfl rfl (oLdE (n := 1) rfl hy9 rfl t237 tm) (s1 rfl) <| cgB (nf hp8) rfl rfl (oMv tm) (s1 rfl) <| cgB (nf hp8) rfl rfl (oBNe u237 rfl tm tm) (s2 rfl rfl) <| cp (oPkF (nf hp8) tm tm) (s2 rfl rfl) <| .nil) (by kernel_rfl) ?_
        exact pJ1 _ (so h) ⟨rfl, rfl, rfl, trivial⟩ rfl
      · refine rg (cp (oMv tm) (s1 rfl) <| cp (oLt rfl tm (cI (by decide))) (s1 rfl) <| cp (oMv tm) (s1 rfl) <| crgB (decide_eq_false hp6) rfl rfl (oLdN (n := 0) (k := 0) rfl rfl rfl t290 tm) (s1 rfl) <| cgB (decide_eq_false hp6) rfl rfl (oMv tm) (s1 rfl) <| crgB (decide_eq_false hp6) rfl rfl (oIdxR (n := 1) u290 z237 rfl hy7 tm tm) (s2 rfl rfl) <| crgB (decide_eq_false hp6) rfl rfl (oLdE (n := 1) rfl hy7 rfl t237 tm) (s1 rfl) <| cgB (decide_eq_false hp6) rfl rfl (oMv tm) (s1 rfl) <| cgB (decide_eq_false hp6) rfl rfl (oBNe u237 rfl tm tm) (s2 rfl rfl) <| cp (oPkF (decide_eq_false hp6) tm tm) (s2 rfl rfl) <| cp (oMv tm) (s1 rfl) <| csB (nt hp8) rfl rfl <| csB (nt hp8) rfl rfl <| csB (nt hp8) rfl rfl <| csB (nt hp8) rfl rfl <| csB (nt hp8) rfl rfl <| csB (nt hp8) rfl rfl <| csB (nt hp8) rfl rfl <| cp (oPkT (nt hp8) tm cB) (s1 rfl) <| .nil) (by kernel_rfl) ?_
        exact pJ1 _ (so h) ⟨rfl, rfl, rfl, trivial⟩ rfl
  · rintro x5 rfl
    replace h := hk1
    rcases ic h with ⟨hp10, h⟩ | ⟨hp10, h⟩
    · refine wBT hp10 tm (s1 rfl) ?_
      refine wSeq ?_
      refine rg (cp (oAs cB) trivial <| .nil) (by kernel_rfl) ?_
      refine pSeq ?_
      refine wRet ?_
      refine pThenR ?_
      obtain rfl := so h
      refine pSub (Γ' := [(3, .d (kB.sig false))]) ⟨rfl, trivial⟩ ?_
      refine pRen 3510000 70101 rfl ?_
      exact pS1 [0, 1] rfl rfl (.inl rfl) rfl (.tmp rfl <| .nil)
    · refine wBF hp10 tm (s1 rfl) ?_
      refine wSkip ?_
      refine pSeq ?_
      refine wSeq ?_
      obtain ⟨hc11, h⟩ := ib h
      refine rg (cr (oLdN (n := 0) (k := 0) rfl rfl rfl t290 tm) (s1 rfl) <| cp (oMv tm) (s1 rfl) <| cp (oSub tm (cI (by decide))) (s1 rfl) <| cw (oCutR (n := 1) (id' := 30) u290 z237 rfl hc11.1 hc11.2 tm tm) (s2 rfl rfl) <| cwn (oStN (n := 0) (m := 1) (k := 0) rfl rfl rfl rfl z290 rfl tm tm) (s2 rfl rfl) <| .nil) (by kernel_rfl) ?_
      refine pSeq ?_
      refine wSeq ?_
      refine rg (cp (oAs cB) trivial <| .nil) (by kernel_rfl) ?_
      refine pSeq ?_
      refine wRet ?_
      obtain rfl := so h
      refine pSub (Γ' := [(3, .d (kB.sig true))]) ⟨rfl, trivial⟩ ?_
      refine pRen 30 70101 rfl ?_
      exact pS1 [0, 1] rfl rfl (.inl rfl) rfl (.tmp rfl <| .nil)

theorem rule_made.ok {a0 : List Int} {r : Bool × Bool} (h : rule_made.f a0 = some r) : FnA Tryd.prog 153 [(kL (kI .i64)).sig a0] (tup [kB.sig r.1, kB.sig r.2]) := by
  refine fnIntro Tryd.func153 rfl (by kernel_rfl) fun H0 w0 => ?_
  unfold rule_made.f at h
  refine wSeq ?_
  refine rg (cp (oAs cB) trivial <| cp (oAs cB) trivial <| .nil) (by kernel_rfl) ?_
  refine pSeq ?_
  refine wSeq ?_
  refine rg (cw (oAlloc (id := 4) (ls := [.d (kN Bool) []]) ze290 (fun g => ⟨[(.slice none 0 0)], _, rfl, zN g.H, rfl⟩)) trivial <| .nil) (by kernel_rfl) ?_
  refine pSeq ?_
  refine wSeq ?_
  refine rg (cp (oMkN (ids := [4]) (caps := [none]) rfl (oNp tm oN0)) (s1 rfl) <| cp (oAs tm) (s1 rfl) <| .nil) (by kernel_rfl) ?_
  refine pSeq ?_
  refine wSeq ?_
  refine wSeq ?_
  refine rg (cp (oMv tm) (s1 rfl) <| cp (oLenL u85 tm) (s1 rfl) <| cp (oMv (cI (by decide))) trivial <| .nil) (by kernel_rfl) ?_
  refine pSeq ?_
  refine wNilL kB 237 5200 (n := 0) (k := 0) rfl rfl rfl ?_
  obtain ⟨o1, h, hk1⟩ := bd h
  refine wK1 (fun x271 => .inr x271 = o1) (fun x271 => [(0, .d ((kL (kI .i64)).sig a0)), (4, .p 4 0)]) (fun x271 => [.row 5200 237 kB x271, .box 4 290 [.v 5200]]) ?_ ?_
  · refine wBlock (wLoop ?_)
    refine lW (pc2 o1 (fun v269 v270 => [(0, .d ((kL (kI .i64)).sig a0)), (4, .p 4 0), (5, .f [4] (sCloN 214 [none])), (10, .d ((kL (kI .i64)).sig a0)), (11, .d ((kI .i64).sig (a0.length : Int))), (12, .d ((kI .i64).sig v270))]) (fun v269 v270 => [.row 5200 237 kB v269, .box 4 290 [.v 5200]]) (rule_made.l0.partial_correctness a0) ?_ _ _ h) ⟨rfl, rfl, rfl, rfl, rfl, rfl, trivial⟩ rfl
    clear h
    intro f' ih v269 v270 h
    refine wSeq ?_
    refine rg (cp (oLt rfl tm tm) (s2 rfl rfl) <| .nil) (by kernel_rfl) ?_
    refine pSeq ?_
    refine wSeq ?_
    rcases ic h with ⟨hp272, h⟩ | ⟨hp272, h⟩
    · refine wCT hp272 tm (s1 rfl) ?_
      refine wSkip ?_
      refine pSeq ?_
      obtain ⟨o2, h, hk2⟩ := bd h
      refine wJ1 (fun x339 => .inr x339 = o2) (fun x339 => [(0, .d ((kL (kI .i64)).sig a0)), (4, .p 4 0), (5, .f [4] (sCloN 214 [none])), (10, .d ((kL (kI .i64)).sig a0)), (11, .d ((kI .i64).sig (a0.length : Int))), (12, .d ((kI .i64).sig v270))]) (fun x339 => [.row 5200 237 kB x339, .box 4 290 [.v 5200]]) ?_ ?_
      · refine wBlock ?_
        refine wSeq ?_
        obtain ⟨y340, hy340, h⟩ := bd h
        refine rg (cp (oIdx u85 z3 hy340 tm tm) (s2 rfl rfl) <| cp (oLd t3 tm) (s1 rfl) <| cp (oAs tm) (s1 rfl) <| .nil) (by kernel_rfl) ?_
        refine pSeq ?_
        refine wSeq ?_
        refine rg (cp (oAs cB) trivial <| .nil) (by kernel_rfl) ?_
        refine pSeq ?_
        refine wSeq ?_
        refine wSeq ?_
        refine rg (cp (oMv tm) (s1 rfl) <| .nil) (by kernel_rfl) ?_
        refine pSeq ?_
        obtain ⟨o3, h, hk3⟩ := bd h
        refine wK2 (fun x372 x373 => (x372, x373) = o3) (fun x372 x373 => [(0, .d ((kL (kI .i64)).sig a0)), (4, .p 4 0), (5, .f [4] (sCloN 214 [none])), (8, .d (kB.sig x373)), (10, .d ((kL (kI .i64)).sig a0)), (11, .d ((kI .i64).sig (a0.length : Int))), (12, .d ((kI .i64).sig v270))]) (fun x372 x373 => [.row 5200 237 kB x372, .box 4 290 [.v 5200]]) ?_ ?_
        · refine wBlock ?_
          refine wSeq ?_
          refine wSeq ?_
          refine rg (cp (oEq rfl tm (cI (by decide))) (s1 rfl) <| cp (oAs tm) (s1 rfl) <| .nil) (by kernel_rfl) ?_
          refine pSeq ?_
          rcases ic h with ⟨hp374, h⟩ | ⟨hp374, h⟩
          · refine wCT hp374 tm (s1 rfl) ?_
            refine wSkip ?_
            refine pSeq ?_
            refine wCT hp374 tm (s1 rfl) ?_
            obtain ⟨hc375, h⟩ := ib h
            refine rg (cr (oLdN (n := 1) (k := 0) rfl rfl rfl t290 tm) (s1 rfl) <| cp (oLit (d := kB) el290 (by decide) rfl rfl rfl (e1 cB e0)) trivial <| cw (oApp (n := 0) (id' := 22) el290 (by decide) rfl (by decide) hc375 tm tm) (s2 rfl rfl) <| cwn (oStN (n := 1) (m := 0) (k := 0) rfl rfl rfl rfl z290 rfl tm tm) (s2 rfl rfl) <| .nil) (by kernel_rfl) ?_
            refine pBlkN ?_
            refine pSub (Γ' := [(0, .d ((kL (kI .i64)).sig a0)), (4, .p 4 0), (5, .f [4] (sCloN 214 [none])), (8, .d (kB.sig true)), (10, .d ((kL (kI .i64)).sig a0)), (11, .d ((kI .i64).sig (a0.length : Int))), (12, .d ((kI .i64).sig v270))]) ⟨rfl, rfl, rfl, rfl, rfl, rfl, rfl, trivial⟩ ?_
            refine pRen 22 5200 rfl ?_
            exact pJ2 _ _ (so h) ⟨rfl, rfl, rfl, rfl, rfl, rfl, rfl, trivial⟩ rfl
          · refine wCF hp374 tm (s1 rfl) ?_
            refine rg (cp (oEq rfl tm (cI (by decide))) (s1 rfl) <| cp (oAs tm) (s1 rfl) <| .nil) (by kernel_rfl) ?_
            refine pSeq ?_
            rcases ic h with ⟨hp376, h⟩ | ⟨hp376, h⟩
            · refine wCT hp376 tm (s1 rfl) ?_
              obtain ⟨hc377, h⟩ := ib h
              refine rg (cr (oLdN (n := 1) (k := 0) rfl rfl rfl t290 tm) (s1 rfl) <| cp (oLit (d := kB) el290 (by decide) rfl rfl rfl (e1 cB e0)) trivial <| cw (oApp (n := 0) (id' := 22) el290 (by decide) rfl (by decide) hc377 tm tm) (s2 rfl rfl) <| cwn (oStN (n := 1) (m := 0) (k := 0) rfl rfl rfl rfl z290 rfl tm tm) (s2 rfl rfl) <| .nil) (by kernel_rfl) ?_
              refine pBlkN ?_
              refine pSub (Γ' := [(0, .d ((kL (kI .i64)).sig a0)), (4, .p 4 0), (5, .f [4] (sCloN 214 [none])), (8, .d (kB.sig true)), (10, .d ((kL (kI .i64)).sig a0)), (11, .d ((kI .i64).sig (a0.length : Int))), (12, .d ((kI .i64).sig v270))]) ⟨rfl, rfl, rfl, rfl, rfl, rfl, rfl, trivial⟩ ?_
              refine pRen 22 5200 rfl ?_
              exact pJ2 _ _ (so h) ⟨rfl, rfl, rfl, rfl, rfl, rfl, rfl, trivial⟩ rfl
            · refine wCF hp376 tm (s1 rfl) ?_
              refine wSeq ?_
              refine wSeq ?_
              refine rg (cp (oEq rfl tm (cI (by decide))) (s1 rfl) <| cp (oAs tm) (s1 rfl) <| .nil) (by kernel_rfl) ?_
              refine pSeq ?_
              rcases ic h with ⟨hp378, h⟩ | ⟨hp378, h⟩
              · refine wCT hp378 tm (s1 rfl) ?_
                refine wSkip ?_
                refine pSeq ?_
                refine wCT hp378 tm (s1 rfl) ?_
                obtain ⟨hc379, h⟩ := ib h
                refine rg (cr (oLdN (n := 1) (k := 0) rfl rfl rfl t290 tm) (s1 rfl) <| cp (oLit (d := kB) el290 (by decide) rfl rfl rfl (e1 cB e0)) trivial <| cw (oApp (n := 0) (id' := 32) el290 (by decide) rfl (by decide) hc379 tm tm) (s2 rfl rfl) <| cwn (oStN (n := 1) (m := 0) (k := 0) rfl rfl rfl rfl z290 rfl tm tm) (s2 rfl rfl) <| .nil) (by kernel_rfl) ?_
                refine pBlkN ?_
                refine pSub (Γ' := [(0, .d ((kL (kI .i64)).sig a0)), (4, .p 4 0), (5, .f [4] (sCloN 214 [none])), (8, .d (kB.sig true)), (10, .d ((kL (kI .i64)).sig a0)), (11, .d ((kI .i64).sig (a0.length : Int))), (12, .d ((kI .i64).sig v270))]) ⟨rfl, rfl, rfl, rfl, rfl, rfl, rfl, trivial⟩ ?_
                refine pRen 32 5200 rfl ?_
                exact pJ2 _ _ (so h) ⟨rfl, rfl, rfl, rfl, rfl, rfl, rfl, trivial⟩ rfl
              · refine wCF hp378 tm (s1 rfl) ?_
                refine wSeq ?_
                refine rg (cp (oEq rfl tm (cI (by decide))) (s1 rfl) <| cp (oAs tm) (s1 rfl) <| .nil) (by kernel_rfl) ?_
                refine pSeq ?_
                rcases ic h with ⟨hp380, h⟩ | ⟨hp380, h⟩
                · refine wCT hp380 tm (s1 rfl) ?_
                  refine wSkip ?_
                  refine pSeq ?_
                  refine wCT hp380 tm (s1 rfl) ?_
                  obtain ⟨hc381, h⟩ := ib h
                  refine rg (cr (oLdN (n := 1) (k := 0) rfl rfl rfl t290 tm) (s1 rfl) <| cp (oLit (d := kB) el290 (by decide) rfl rfl rfl (e1 cB e0)) trivial <| cw (oApp (n := 0) (id' := 32) el290 (by decide) rfl (by decide) hc381 tm tm) (s2 rfl rfl) <| cwn (oStN (n := 1) (m := 0) (k := 0) rfl rfl rfl rfl z290 rfl tm tm) (s2 rfl rfl) <| .nil) (by kernel_rfl) ?_
                  refine pBlkN ?_
                  refine pSub (Γ' := [(0, .d ((kL (kI .i64)).sig a0)), (4, .p 4 0), (5, .f [4] (sCloN 214 [none])), (8, .d (kB.sig true)), (10, .d ((kL (kI .i64)).sig a0)), (11, .d ((kI .i64).sig (a0.length : Int))), (12, .d ((kI .i64).sig v270))]) ⟨rfl, rfl, rfl, rfl, rfl, rfl, rfl, trivial⟩ ?_
                  refine pRen 32 5200 rfl ?_
                  exact pJ2 _ _ (so h) ⟨rfl, rfl, rfl, rfl, rfl, rfl, rfl, trivial⟩ rfl
                · refine wCF hp380 tm (s1 rfl) ?_
                  refine wSeq ?_
                  refine rg (cp (oEq rfl tm (cI (by decide))) (s1 rfl) <| cp (oAs tm) (s1 rfl) <| .nil) (by kernel_rfl) ?_
                  refine pSeq ?_
                  rcases ic h with ⟨hp382, h⟩ | ⟨hp382, h⟩
                  · refine wCT hp382 tm (s1 rfl) ?_
                    refine wSkip ?_
                    refine pSeq ?_
                    refine wCT hp382 tm (s1 rfl) ?_
                    obtain ⟨hc383, h⟩ := ib h
                    refine rg (cr (oLdN (n := 1) (k := 0) rfl rfl rfl t290 tm) (s1 rfl) <| cp (oLit (d := kB) el290 (by decide) rfl rfl rfl (e1 cB e0)) trivial <| cw (oApp (n := 0) (id' := 32) el290 (by decide) rfl (by decide) hc383 tm tm) (s2 rfl rfl) <| cwn (oStN (n := 1) (m := 0) (k := 0) rfl rfl rfl rfl z290 rfl tm tm) (s2 rfl rfl) <| .nil) (by kernel_rfl) ?_
                    refine pBlkN ?_
                    refine pSub (Γ' := [(0, .d ((kL (kI .i64)).sig a0)), (4, .p 4 0), (5, .f [4] (sCloN 214 [none])), (8, .d (kB.sig true)), (10, .d ((kL (kI .i64)).sig a0)), (11, .d ((kI .i64).sig (a0.length : Int))), (12, .d ((kI .i64).sig v270))]) ⟨rfl, rfl, rfl, rfl, rfl, rfl, rfl, trivial⟩ ?_
                    refine pRen 32 5200 rfl ?_
                    exact pJ2 _ _ (so h) ⟨rfl, rfl, rfl, rfl, rfl, rfl, rfl, trivial⟩ rfl
                  · refine wCF hp382 tm (s1 rfl) ?_
                    refine wSeq ?_
                    refine rg (cp (oEq rfl tm (cI (by decide))) (s1 rfl) <| cp (oAs tm) (s1 rfl) <| .nil) (by kernel_rfl) ?_
                    refine pSeq ?_
                    rcases ic h with ⟨hp384, h⟩ | ⟨hp384, h⟩
                    · refine wCT hp384 tm (s1 rfl) ?_
                      refine wSkip ?_
                      refine pSeq ?_
                      refine wCT hp384 tm (s1 rfl) ?_
                      obtain ⟨hc385, h⟩ := ib h
                      refine rg (cr (oLdN (n := 1) (k := 0) rfl rfl rfl t290 tm) (s1 rfl) <| cp (oLit (d := kB) el290 (by decide) rfl rfl rfl (e1 cB e0)) trivial <| cw (oApp (n := 0) (id' := 32) el290 (by decide) rfl (by decide) hc385 tm tm) (s2 rfl rfl) <| cwn (oStN (n := 1) (m := 0) (k := 0) rfl rfl rfl rfl z290 rfl tm tm) (s2 rfl rfl) <| .nil) (by kernel_rfl) ?_
                      refine pBlkN ?_
                      refine pSub (Γ' := [(0, .d ((kL (kI .i64)).sig a0)), (4, .p 4 0), (5, .f [4] (sCloN 214 [none])), (8, .d (kB.sig true)), (10, .d ((kL (kI .i64)).sig a0)), (11, .d ((kI .i64).sig (a0.length : Int))), (12, .d ((kI .i64).sig v270))]) ⟨rfl, rfl, rfl, rfl, rfl, rfl, rfl, trivial⟩ ?_
                      refine pRen 32 5200 rfl ?_
                      exact pJ2 _ _ (so h) ⟨rfl, rfl, rfl, rfl, rfl, rfl, rfl, trivial⟩ rfl
                    · refine wCF hp384 tm (s1 rfl) ?_
                      refine wSeq ?_
                      refine rg (cp (oEq rfl tm (cI (by decide))) (s1 rfl) <| cp (oAs tm) (s1 rfl) <| .nil) (by kernel_rfl) ?_
                      refine pSeq ?_
                      rcases ic h with ⟨hp386, h⟩ | ⟨hp386, h⟩
                      · refine wCT hp386 tm (s1 rfl) ?_
                        refine wSkip ?_
                        refine pSeq ?_
                        refine wCT hp386 tm (s1 rfl) ?_
                        obtain ⟨hc387, h⟩ := ib h
                        refine rg (cr (oLdN (n := 1) (k := 0) rfl rfl rfl t290 tm) (s1 rfl) <| cp (oLit (d := kB) el290 (by decide) rfl rfl rfl (e1 cB e0)) trivial <| cw (oApp (n := 0) (id' := 32) el290 (by decide) rfl (by decide) hc387 tm tm) (s2 rfl rfl) <| cwn (oStN (n := 1) (m := 0) (k := 0) rfl rfl rfl rfl z290 rfl tm tm) (s2 rfl rfl) <| .nil) (by kernel_rfl) ?_
                        refine pBlkN ?_
                        refine pSub (Γ' := [(0, .d ((kL (kI .i64)).sig a0)), (4, .p 4 0), (5, .f [4] (sCloN 214 [none])), (8, .d (kB.sig true)), (10, .d ((kL (kI .i64)).sig a0)), (11, .d ((kI .i64).sig (a0.length : Int))), (12, .d ((kI .i64).sig v270))]) ⟨rfl, rfl, rfl, rfl, rfl, rfl, rfl, trivial⟩ ?_
                        refine pRen 32 5200 rfl ?_
                        exact pJ2 _ _ (so h) ⟨rfl, rfl, rfl, rfl, rfl, rfl, rfl, trivial⟩ rfl
                      · refine wCF hp386 tm (s1 rfl) ?_
                        refine rg (cp (oEq rfl tm (cI (by decide))) (s1 rfl) <| cp (oAs tm) (s1 rfl) <| .nil) (by kernel_rfl) ?_
                        refine pSeq ?_
                        rcases ic h with ⟨hp388, h⟩ | ⟨hp388, h⟩
                        · refine wCT hp388 tm (s1 rfl) ?_
                          obtain ⟨hc389, h⟩ := ib h
                          refine rg (cr (oLdN (n := 1) (k := 0) rfl rfl rfl t290 tm) (s1 rfl) <| cp (oLit (d := kB) el290 (by decide) rfl rfl rfl (e1 cB e0)) trivial <| cw (oApp (n := 0) (id' := 32) el290 (by decide) rfl (by decide) hc389 tm tm) (s2 rfl rfl) <| cwn (oStN (n := 1) (m := 0) (k := 0) rfl rfl rfl rfl z290 rfl tm tm) (s2 rfl rfl) <| .nil) (by kernel_rfl) ?_
                          refine pBlkN ?_
                          refine pSub (Γ' := [(0, .d ((kL (kI .i64)).sig a0)), (4, .p 4 0), (5, .f [4] (sCloN 214 [none])), (8, .d (kB.sig true)), (10, .d ((kL (kI .i64)).sig a0)), (11, .d ((kI .i64).sig (a0.length : Int))), (12, .d ((kI .i64).sig v270))]) ⟨rfl, rfl, rfl, rfl, rfl, rfl, rfl, trivial⟩ ?_
                          refine pRen 32 5200 rfl ?_
                          exact pJ2 _ _ (so h) ⟨rfl, rfl, rfl, rfl, rfl, rfl, rfl, trivial⟩ rfl
                        · refine wCF hp388 tm (s1 rfl) ?_
                          refine wSeq ?_
                          refine wSeq ?_
                          refine rg (cp (oEq rfl tm (cI (by decide))) (s1 rfl) <| cp (oAs tm) (s1 rfl) <| .nil) (by kernel_rfl) ?_
                          refine pSeq ?_
                          rcases ic h with ⟨hp390, h⟩ | ⟨hp390, h⟩
                          · refine wCT hp390 tm (s1 rfl) ?_
                            refine wSkip ?_
                            refine pSeq ?_
                            refine wCT hp390 tm (s1 rfl) ?_
                            refine wSeq ?_
                            obtain ⟨y391, hy391, h⟩ := bd h
                            refine rg (cp (oMv tm) (s1 rfl) <| cm (oCallN (ins := [.d (kB.sig false)]) (caps := [none]) (kn := [70100]) (rest := []) (R' := [.row 510040 237 kB y391.1, .box 4 290 [.v 510040]]) (out' := .d (kB.sig y391.2)) [(70100, 4), (70101, 5200)] [(70101, 510040)] [1, 0] [] [1, 0] rfl tm (rule_made_1.ok hy391) rfl b214 (oE1 cB oE0) rfl rfl rfl rfl rfl rfl rfl rfl) (s1 rfl) <| cp (oAs tm) (s1 rfl) <| .nil) (by kernel_rfl) ?_
                            refine pSeq ?_
                            obtain ⟨hc392, h⟩ := ib h
                            refine rg (cr (oLdN (n := 1) (k := 0) rfl rfl rfl t290 tm) (s1 rfl) <| cp (oLit (d := kB) el290 (by decide) rfl rfl rfl (e1 cB e0)) trivial <| cw (oApp (n := 0) (id' := 40) el290 (by decide) rfl (by decide) hc392 tm tm) (s2 rfl rfl) <| cwn (oStN (n := 1) (m := 0) (k := 0) rfl rfl rfl rfl z290 rfl tm tm) (s2 rfl rfl) <| .nil) (by kernel_rfl) ?_
                            refine pBlkN ?_
                            refine pSub (Γ' := [(0, .d ((kL (kI .i64)).sig a0)), (4, .p 4 0), (5, .f [4] (sCloN 214 [none])), (8, .d (kB.sig y391.2)), (10, .d ((kL (kI .i64)).sig a0)), (11, .d ((kI .i64).sig (a0.length : Int))), (12, .d ((kI .i64).sig v270))]) ⟨rfl, rfl, rfl, rfl, rfl, rfl, rfl, trivial⟩ ?_
                            refine pRen 40 5200 rfl ?_
                            exact pJ2 _ _ (so h) ⟨rfl, rfl, rfl, rfl, rfl, rfl, rfl, trivial⟩ rfl
                          · refine wCF hp390 tm (s1 rfl) ?_
                            refine rg (cp (oEq rfl tm (cI (by decide))) (s1 rfl) <| cp (oAs tm) (s1 rfl) <| .nil) (by kernel_rfl) ?_
                            refine pSeq ?_
                            rcases ic h with ⟨hp393, h⟩ | ⟨hp393, h⟩
                            · refine wCT hp393 tm (s1 rfl) ?_
                              refine wSeq ?_
                              obtain ⟨y394, hy394, h⟩ := bd h
                              refine rg (cp (oMv tm) (s1 rfl) <| cm (oCallN (ins := [.d (kB.sig false)]) (caps := [none]) (kn := [70100]) (rest := []) (R' := [.row 510040 237 kB y394.1, .box 4 290 [.v 510040]]) (out' := .d (kB.sig y394.2)) [(70100, 4), (70101, 5200)] [(70101, 510040)] [1, 0] [] [1, 0] rfl tm (rule_made_1.ok hy394) rfl b214 (oE1 cB oE0) rfl rfl rfl rfl rfl rfl rfl rfl) (s1 rfl) <| cp (oAs tm) (s1 rfl) <| .nil) (by kernel_rfl) ?_
                              refine pSeq ?_
                              obtain ⟨hc395, h⟩ := ib h
                              refine rg (cr (oLdN (n := 1) (k := 0) rfl rfl rfl t290 tm) (s1 rfl) <| cp (oLit (d := kB) el290 (by decide) rfl rfl rfl (e1 cB e0)) trivial <| cw (oApp (n := 0) (id' := 40) el290 (by decide) rfl (by decide) hc395 tm tm) (s2 rfl rfl) <| cwn (oStN (n := 1) (m := 0) (k := 0) rfl rfl rfl rfl z290 rfl tm tm) (s2 rfl rfl) <| .nil) (by kernel_rfl) ?_
                              refine pBlkN ?_
                              refine pSub (Γ' := [(0, .d ((kL (kI .i64)).sig a0)), (4, .p 4 0), (5, .f [4] (sCloN 214 [none])), (8, .d (kB.sig y394.2)), (10, .d ((kL (kI .i64)).sig a0)), (11, .d ((kI .i64).sig (a0.length : Int))), (12, .d ((kI .i64).sig v270))]) ⟨rfl, rfl, rfl, rfl, rfl, rfl, rfl, trivial⟩ ?_
                              refine pRen 40 5200 rfl ?_
                              exact pJ2 _ _ (so h) ⟨rfl, rfl, rfl, rfl, rfl, rfl, rfl, trivial⟩ rfl
                            · refine wCF hp393 tm (s1 rfl) ?_
                              refine wSeq ?_
                              refine rg (cp (oEq rfl tm (cI (by decide))) (s1 rfl) <| cp (oAs tm) (s1 rfl) <| .nil) (by kernel_rfl) ?_
                              refine pSeq ?_
                              rcases ic h with ⟨hp396, h⟩ | ⟨hp396, h⟩
                              · refine wCT hp396 tm (s1 rfl) ?_
                                refine wSeq ?_
                                obtain ⟨y397, hy397, h⟩ := bd h
                                refine rg (cp (oMv tm) (s1 rfl) <| cm (oCallN (ins := [.d (kB.sig true)]) (caps := [none]) (kn := [70100]) (rest := []) (R' := [.row 540040 237 kB y397.1, .box 4 290 [.v 540040]]) (out' := .d (kB.sig y397.2)) [(70100, 4), (70101, 5200)] [(70101, 540040)] [1, 0] [] [1, 0] rfl tm (rule_made_1.ok hy397) rfl b214 (oE1 cB oE0) rfl rfl rfl rfl rfl rfl rfl rfl) (s1 rfl) <| cp (oAs tm) (s1 rfl) <| .nil) (by kernel_rfl) ?_
                                refine pSeq ?_
                                obtain ⟨hc398, h⟩ := ib h
                                refine rg (cr (oLdN (n := 1) (k := 0) rfl rfl rfl t290 tm) (s1 rfl) <| cp (oLit (d := kB) el290 (by decide) rfl rfl rfl (e1 cB e0)) trivial <| cw (oApp (n := 0) (id' := 47) el290 (by decide) rfl (by decide) hc398 tm tm) (s2 rfl rfl) <| cwn (oStN (n := 1) (m := 0) (k := 0) rfl rfl rfl rfl z290 rfl tm tm) (s2 rfl rfl) <| .nil) (by kernel_rfl) ?_
                                refine pBlkN ?_
                                refine pSub (Γ' := [(0, .d ((kL (kI .i64)).sig a0)), (4, .p 4 0), (5, .f [4] (sCloN 214 [none])), (8, .d (kB.sig y397.2)), (10, .d ((kL (kI .i64)).sig a0)), (11, .d ((kI .i64).sig (a0.length : Int))), (12, .d ((kI .i64).sig v270))]) ⟨rfl, rfl, rfl, rfl, rfl, rfl, rfl, trivial⟩ ?_
                                refine pRen 47 5200 rfl ?_
                                exact pJ2 _ _ (so h) ⟨rfl, rfl, rfl, rfl, rfl, rfl, rfl, trivial⟩ rfl
                              · refine wCF hp396 tm (s1 rfl) ?_
                                refine wSeq ?_
                                refine wSeq ?_
                                refine rg (cp (oEq rfl tm (cI (by decide))) (s1 rfl) <| cp (oAs tm) (s1 rfl) <| .nil) (by kernel_rfl) ?_
                                refine pSeq ?_
                                rcases ic h with ⟨hp399, h⟩ | ⟨hp399, h⟩
                                · refine wCT hp399 tm (s1 rfl) ?_
                                  refine wSkip ?_
                                  refine pSeq ?_
                                  refine wCT hp399 tm (s1 rfl) ?_
                                  refine wSeq ?_
                                  obtain ⟨y400, hy400, h⟩ := bd h
                                  refine rg (cp (oMv tm) (s1 rfl) <| cm (oCallN (ins := [.d (kB.sig true)]) (caps := [none]) (kn := [70100]) (rest := []) (R' := [.row 580040 237 kB y400.1, .box 4 290 [.v 580040]]) (out' := .d (kB.sig y400.2)) [(70100, 4), (70101, 5200)] [(70101, 580040)] [1, 0] [] [1, 0] rfl tm (rule_made_1.ok hy400) rfl b214 (oE1 cB oE0) rfl rfl rfl rfl rfl rfl rfl rfl) (s1 rfl) <| cp (oAs tm) (s1 rfl) <| .nil) (by kernel_rfl) ?_
                                  refine pSeq ?_
                                  obtain ⟨hc401, h⟩ := ib h
                                  refine rg (cr (oLdN (n := 1) (k := 0) rfl rfl rfl t290 tm) (s1 rfl) <| cp (oLit (d := kB) el290 (by decide) rfl rfl rfl (e1 cB e0)) trivial <| cw (oApp (n := 0) (id' := 55) el290 (by decide) rfl (by decide) hc401 tm tm) (s2 rfl rfl) <| cwn (oStN (n := 1) (m := 0) (k := 0) rfl rfl rfl rfl z290 rfl tm tm) (s2 rfl rfl) <| .nil) (by kernel_rfl) ?_
                                  refine pBlkN ?_
                                  refine pSub (Γ' := [(0, .d ((kL (kI .i64)).sig a0)), (4, .p 4 0), (5, .f [4] (sCloN 214 [none])), (8, .d (kB.sig y400.2)), (10, .d ((kL (kI .i64)).sig a0)), (11, .d ((kI .i64).sig (a0.length : Int))), (12, .d ((kI .i64).sig v270))]) ⟨rfl, rfl, rfl, rfl, rfl, rfl, rfl, trivial⟩ ?_
                                  refine pRen 55 5200 rfl ?_
                                  exact pJ2 _ _ (so h) ⟨rfl, rfl, rfl, rfl, rfl, rfl, rfl, trivial⟩ rfl
                                · refine wCF hp399 tm (s1 rfl) ?_
                                  refine rg (cp (oEq rfl tm (cI (by decide))) (s1 rfl) <| cp (oAs tm) (s1 rfl) <| .nil) (by kernel_rfl) ?_
                                  refine pSeq ?_
                                  rcases ic h with ⟨hp402, h⟩ | ⟨hp402, h⟩
                                  · refine wCT hp402 tm (s1 rfl) ?_
                                    refine wSeq ?_
                                    obtain ⟨y403, hy403, h⟩ := bd h
                                    refine rg (cp (oMv tm) (s1 rfl) <| cm (oCallN (ins := [.d (kB.sig true)]) (caps := [none]) (kn := [70100]) (rest := []) (R' := [.row 580040 237 kB y403.1, .box 4 290 [.v 580040]]) (out' := .d (kB.sig y403.2)) [(70100, 4), (70101, 5200)] [(70101, 580040)] [1, 0] [] [1, 0] rfl tm (rule_made_1.ok hy403) rfl b214 (oE1 cB oE0) rfl rfl rfl rfl rfl rfl rfl rfl) (s1 rfl) <| cp (oAs tm) (s1 rfl) <| .nil) (by kernel_rfl) ?_
                                    refine pSeq ?_
                                    obtain ⟨hc404, h⟩ := ib h
                                    refine rg (cr (oLdN (n := 1) (k := 0) rfl rfl rfl t290 tm) (s1 rfl) <| cp (oLit (d := kB) el290 (by decide) rfl rfl rfl (e1 cB e0)) trivial <| cw (oApp (n := 0) (id' := 55) el290 (by decide) rfl (by decide) hc404 tm tm) (s2 rfl rfl) <| cwn (oStN (n := 1) (m := 0) (k := 0) rfl rfl rfl rfl z290 rfl tm tm) (s2 rfl rfl) <| .nil) (by kernel_rfl) ?_
                                    refine pBlkN ?_
                                    refine pSub (Γ' := [(0, .d ((kL (kI .i64)).sig a0)), (4, .p 4 0), (5, .f [4] (sCloN 214 [none])), (8, .d (kB.sig y403.2)), (10, .d ((kL (kI .i64)).sig a0)), (11, .d ((kI .i64).sig (a0.length : Int))), (12, .d ((kI .i64).sig v270))]) ⟨rfl, rfl, rfl, rfl, rfl, rfl, rfl, trivial⟩ ?_
                                    refine pRen 55 5200 rfl ?_
                                    exact pJ2 _ _ (so h) ⟨rfl, rfl, rfl, rfl, rfl, rfl, rfl, trivial⟩ rfl
                                  · refine wCF hp402 tm (s1 rfl) ?_
                                    refine rg (cp (oAs cB) trivial <| .nil) (by kernel_rfl) ?_
                                    refine pBlkN ?_
                                    exact pJ2 _ _ (so h) ⟨rfl, rfl, rfl, rfl, rfl, rfl, rfl, trivial⟩ rfl
        · rintro x372 x373 rfl
          replace h := hk3
          refine pSeq ?_
          refine wSeq ?_
          refine rg (cp (oMv tm) (s1 rfl) <| cp (oNot tm) (s1 rfl) <| .nil) (by kernel_rfl) ?_
          refine pSeq ?_
          rcases ic h with ⟨hp405, h⟩ | ⟨hp405, h⟩
          · refine wBT hp405 tm (s1 rfl) ?_
            refine wSeq ?_
            refine rg (cp (oAs cB) trivial <| cp (oAs cB) trivial <| .nil) (by kernel_rfl) ?_
            refine pSeq ?_
            refine wRet ?_
            refine pBlkR ?_
            refine pThenR ?_
            obtain rfl := so h
            replace h := hk2
            refine pThenR ?_
            refine pBlkR ?_
            refine pThenR ?_
            obtain rfl := so h
            replace h := hk1
            refine pThenR ?_
            obtain rfl := so h
            exact pRn (.inl rfl) rfl rfl (.tmp rfl <| .tmp rfl <| .nil)
          · refine wBF hp405 tm (s1 rfl) ?_
            refine wSkip ?_
            refine pBlkN ?_
            exact pJ1 _ (so h) ⟨rfl, rfl, rfl, rfl, rfl, rfl, trivial⟩ rfl
      · rintro x339 rfl
        replace h := hk2
        refine rg (cp (oAdd tm (cI (by decide))) (s1 rfl) <| cp (oMv tm) (s1 rfl) <| .nil) (by kernel_rfl) ?_
        exact pLoop (lW (ih _ _ h) ⟨rfl, rfl, rfl, rfl, rfl, rfl, trivial⟩ rfl)
    · refine wCF hp272 tm (s1 rfl) ?_
      refine wExit ?_
      refine pThenX ?_
      refine pThenX ?_
      refine pBlkX ?_
      exact pJ1 _ (so h) ⟨rfl, rfl, trivial⟩ rfl
  · rintro x271 rfl
    replace h := hk1
    refine pSeq ?_
    refine wSeq ?_
    obtain ⟨o1, h, hk1⟩ := bd h
    refine wJ1 (fun x407 => x407 = o1) (fun x407 => [(4, .p 4 0), (66, .d (kB.sig x407))]) (fun x407 => [.row 5200 237 kB x271, .box 4 290 [.v 5200]]) ?_ ?_
    · rcases ic h with ⟨hp408, h⟩ | ⟨hp408, h⟩
      · refine rg (cr (oLdN (n := 1) (k := 0) rfl rfl rfl t290 tm) (s1 rfl) <| cr (oLenR (n := 0) u290 rfl tm) (s1 rfl) <| cp (oNe rfl tm (cI (by decide))) (s1 rfl) <| cp (oMv tm) (s1 rfl) <| cgB (nf hp408) rfl rfl (oMv tm) (s1 rfl) <| cgB (nf hp408) rfl rfl (oLenL u85 tm) (s1 rfl) <| cgB (nf hp408) rfl rfl (oGt rfl tm (cI (by decide))) (s1 rfl) <| cp (oPkF (nf hp408) tm tm) (s2 rfl rfl) <| .nil) (by kernel_rfl) ?_
        exact pJ1 _ (so h) ⟨rfl, rfl, trivial⟩ rfl
      · refine rg (cr (oLdN (n := 1) (k := 0) rfl rfl rfl t290 tm) (s1 rfl) <| cr (oLenR (n := 0) u290 rfl tm) (s1 rfl) <| cp (oNe rfl tm (cI (by decide))) (s1 rfl) <| cp (oMv tm) (s1 rfl) <| csB (nt hp408) rfl rfl <| csB (nt hp408) rfl rfl <| csB (nt hp408) rfl rfl <| cp (oPkT (nt hp408) tm cB) (s1 rfl) <| .nil) (by kernel_rfl) ?_
        exact pJ1 _ (so h) ⟨rfl, rfl, trivial⟩ rfl
    · rintro x407 rfl
      replace h := hk1
      rcases ic h with ⟨hp409, h⟩ | ⟨hp409, h⟩
      · refine wBT hp409 tm (s1 rfl) ?_
        refine wSeq ?_
        refine rg (cp (oAs cB) trivial <| cp (oAs cB) trivial <| .nil) (by kernel_rfl) ?_
        refine pSeq ?_
        refine wRet ?_
        refine pThenR ?_
        obtain rfl := so h
        exact pRn (.inl rfl) rfl rfl (.tmp rfl <| .tmp rfl <| .nil)
      · refine wBF hp409 tm (s1 rfl) ?_
        refine wSkip ?_
        refine pSeq ?_
        refine wSeq ?_
        obtain ⟨y410, hy410, h⟩ := bd h
        refine rg (cr (oLdN (n := 1) (k := 0) rfl rfl rfl t290 tm) (s1 rfl) <| cr (oIdxR (n := 0) u290 z237 rfl hy410 tm (cI (by decide))) (s1 rfl) <| cr (oLdE (n := 0) rfl hy410 rfl t237 tm) (s1 rfl) <| cp (oAs tm) (s1 rfl) <| cp (oAs cB) trivial <| .nil) (by kernel_rfl) ?_
        refine pSeq ?_
        refine wRet ?_
        obtain rfl := so h
        exact pRn (.inl rfl) rfl rfl (.tmp rfl <| .tmp rfl <| .nil)

theorem rule_Right.ok {a0 : List Int} {a1 : Bool} {r : Bool} (h : rule_Right.f a0 a1 = some r) : FnA Tryd.prog 93 [(kL (kI .i64)).sig a0, kB.sig a1] (kB.sig r) := by
  refine fnIntro Tryd.func93 rfl (by kernel_rfl) fun H0 w0 => ?_
  unfold rule_Right.f at h
  refine wSeq ?_
  refine rg (cp (oAs cB) trivial <| .nil) (by kernel_rfl) ?_
  refine pSeq ?_
  refine wSeq ?_
  obtain ⟨y1, hy1, h⟩ := bd h
  refine rg (cp (oMv tm) (s1 rfl) <| cp (oCall rfl (rule_made.ok hy1) b153 (opds_cons tm opds_nil)) (s1 rfl) <| cp (oMv tm) (s1 rfl) <| cp (oExt (k := 0) rfl tm) (s1 rfl) <| cp (oExt (k := 1) rfl tm) (s1 rfl) <| cp (oAs tm) (s1 rfl) <| cp (oAs tm) (s1 rfl) <| .nil) (by kernel_rfl) ?_
  refine pSeq ?_
  obtain ⟨o1, h, hk1⟩ := bd h
  refine wJ1 (fun x3 => x3 = o1) (fun x3 => [(4, .d (kB.sig x3))]) (fun x3 => []) ?_ ?_
  · rcases ic h with ⟨hp4, h⟩ | ⟨hp4, h⟩
    · refine rg (cp (oMv tm) (s1 rfl) <| cp (oMv tm) (s1 rfl) <| cgB hp4 rfl rfl (oMv tm) (s1 rfl) <| cgB hp4 rfl rfl (oMv tm) (s1 rfl) <| cgB hp4 rfl rfl (oBEq u4 rfl tm tm) (s2 rfl rfl) <| cp (oPkT hp4 tm tm) (s2 rfl rfl) <| cp (oAs tm) (s1 rfl) <| .nil) (by kernel_rfl) ?_
      exact pJ1 _ (so h) ⟨rfl, trivial⟩ rfl
    · refine rg (cp (oMv tm) (s1 rfl) <| cp (oMv tm) (s1 rfl) <| csB (nb hp4) rfl rfl <| csB (nb hp4) rfl rfl <| csB (nb hp4) rfl rfl <| cp (oPkF (nb hp4) tm cB) (s1 rfl) <| cp (oAs tm) (s1 rfl) <| .nil) (by kernel_rfl) ?_
      exact pJ1 _ (so h) ⟨rfl, trivial⟩ rfl
  · rintro x3 rfl
    replace h := hk1
    refine wRet ?_
    obtain rfl := so h
    exact pR1 (.inl rfl) rfl (.tmp rfl <| .nil)

theorem table_right.ok {a0 : api_Row} {r : Bool} (h : table_right.f a0 = some r) : FnA Tryd.prog 53 [(kR f_api_Row).sig a0] (kB.sig r) := by
  refine fnIntro Tryd.func53 rfl (by kernel_rfl) fun H0 w0 => ?_
  unfold table_right.f at h
  refine wSeq ?_
  refine rg (cp (oBox tm) (s1 rfl) <| cp (oAs cB) trivial <| .nil) (by kernel_rfl) ?_
  refine pSeq ?_
  obtain ⟨o1, h, hk1⟩ := bd h
  refine wJ1 (fun x6 => x6 = o1) (fun x6 => [(2, .d (kB.sig x6))]) (fun x6 => []) ?_ ?_
  · obtain ⟨y7, hy7, h⟩ := bd h
    rcases ic h with ⟨hp8, h⟩ | ⟨hp8, h⟩
    · obtain ⟨y9, hy9, h⟩ := bd h
      rcases ic h with ⟨hp10, h⟩ | ⟨hp10, h⟩
      · obtain ⟨y11, hy11, h⟩ := bd h
        refine rg (cp (oFld (fs := f_api_Row) (k := 0) rfl o87_0 tm) (s1 rfl) <| cp (oLd t85 tm) (s1 rfl) <| cp (oCall rfl (rule_Right.ok hy7) b93 (opds_cons tm (opds_cons cB opds_nil))) (s1 rfl) <| cp (oMv tm) (s1 rfl) <| cgB hp8 rfl rfl (oFld (fs := f_api_Row) (k := 1) rfl o87_1 tm) (s1 rfl) <| cgB hp8 rfl rfl (oLd t85 tm) (s1 rfl) <| cgB hp8 rfl rfl (oCall rfl (rule_Right.ok hy9) b93 (opds_cons tm (opds_cons cB opds_nil))) (s1 rfl) <| cp (oPkT hp8 tm tm) (s2 rfl rfl) <| cp (oMv tm) (s1 rfl) <| cgB hp10 rfl rfl (oFld (fs := f_api_Row) (k := 2) rfl o87_2 tm) (s1 rfl) <| cgB hp10 rfl rfl (oLd t85 tm) (s1 rfl) <| cgB hp10 rfl rfl (oCall rfl (rule_Right.ok hy11) b93 (opds_cons tm (opds_cons cB opds_nil))) (s1 rfl) <| cp (oPkT hp10 tm tm) (s2 rfl rfl) <| cp (oAs tm) (s1 rfl) <| .nil) (by kernel_rfl) ?_
        exact pJ1 _ (so h) ⟨rfl, trivial⟩ rfl
      · refine rg (cp (oFld (fs := f_api_Row) (k := 0) rfl o87_0 tm) (s1 rfl) <| cp (oLd t85 tm) (s1 rfl) <| cp (oCall rfl (rule_Right.ok hy7) b93 (opds_cons tm (opds_cons cB opds_nil))) (s1 rfl) <| cp (oMv tm) (s1 rfl) <| cgB hp8 rfl rfl (oFld (fs := f_api_Row) (k := 1) rfl o87_1 tm) (s1 rfl) <| cgB hp8 rfl rfl (oLd t85 tm) (s1 rfl) <| cgB hp8 rfl rfl (oCall rfl (rule_Right.ok hy9) b93 (opds_cons tm (opds_cons cB opds_nil))) (s1 rfl) <| cp (oPkT hp8 tm tm) (s2 rfl rfl) <| cp (oMv tm) (s1 rfl) <| csB (nb hp10) rfl rfl <| csB (nb hp10) rfl rfl <| csB (nb hp10) rfl rfl <| cp (oPkF (nb hp10) tm cB) (s1 rfl) <| cp (oAs tm) (s1 rfl) <| .nil) (by kernel_rfl) ?_
        exact pJ1 _ (so h) ⟨rfl, trivial⟩ rfl
    · refine rg (cp (oFld (fs := f_api_Row) (k := 0) rfl o87_0 tm) (s1 rfl) <| cp (oLd t85 tm) (s1 rfl) <| cp (oCall rfl (rule_Right.ok hy7) b93 (opds_cons tm (opds_cons cB opds_nil))) (s1 rfl) <| cp (oMv tm) (s1 rfl) <| csB (nb hp8) rfl rfl <| csB (nb hp8) rfl rfl <| csB (nb hp8) rfl rfl <| cp (oPkF (nb hp8) tm cB) (s1 rfl) <| cp (oMv tm) (s1 rfl) <| csB rfl rfl rfl <| csB rfl rfl rfl <| csB rfl rfl rfl <| cp (oPkF rfl tm cB) (s1 rfl) <| cp (oAs tm) (s1 rfl) <| .nil) (by kernel_rfl) ?_
      exact pJ1 _ (so h) ⟨rfl, trivial⟩ rfl
  · rintro x6 rfl
    replace h := hk1
    refine wRet ?_
    obtain rfl := so h
    exact pR1 (.inl rfl) rfl (.tmp rfl <| .nil)

theorem rule_Uses.ok {a0 : List Int} {r : Int × Int} (h : rule_Uses.f a0 = some r) : FnA Tryd.prog 154 [(kL (kI .i64)).sig a0] (tup [(kI .u32).sig r.1, (kI .i64).sig r.2]) := by
  refine fnIntro Tryd.func154 rfl (by kernel_rfl) fun H0 w0 => ?_
  unfold rule_Uses.f at h
  refine wSeq ?_
  refine rg (cp (oAs (cI (by decide))) trivial <| cp (oAs (cI (by decide))) trivial <| .nil) (by kernel_rfl) ?_
  refine pSeq ?_
  refine wSeq ?_
  refine wSeq ?_
  obtain ⟨y1, hy1, h⟩ := bd h
  refine rg (cp (oMv tm) (s1 rfl) <| cp (oCall rfl (rule_made.ok hy1) b153 (opds_cons tm opds_nil)) (s1 rfl) <| cp (oMv tm) (s1 rfl) <| cp (oExt (k := 0) rfl tm) (s1 rfl) <| cp (oExt (k := 1) rfl tm) (s1 rfl) <| cp (oAs tm) (s1 rfl) <| cp (oAs tm) (s1 rfl) <| .nil) (by kernel_rfl) ?_
  refine pSeq ?_
  refine wSeq ?_
  refine rg (cp (oMv tm) (s1 rfl) <| cp (oNot tm) (s1 rfl) <| .nil) (by kernel_rfl) ?_
  refine pSeq ?_
  rcases ic h with ⟨hp2, h⟩ | ⟨hp2, h⟩
  · refine wBT hp2 tm (s1 rfl) ?_
    refine wSeq ?_
    refine rg (cp (oAs (cI (by decide))) trivial <| cp (oAs (cI (by decide))) trivial <| .nil) (by kernel_rfl) ?_
    refine pSeq ?_
    refine wRet ?_
    refine pThenR ?_
    obtain rfl := so h
    exact pRn (.inl rfl) rfl rfl (.tmp rfl <| .tmp rfl <| .nil)
  · refine wBF hp2 tm (s1 rfl) ?_
    refine wSkip ?_
    refine pSeq ?_
    refine wSeq ?_
    refine rg (cp (oAs (cI (by decide))) trivial <| .nil) (by kernel_rfl) ?_
    refine pSeq ?_
    refine wSeq ?_
    refine wSeq ?_
    refine rg (cp (oMv tm) (s1 rfl) <| cp (oLenL u85 tm) (s1 rfl) <| cp (oMv (cI (by decide))) trivial <| .nil) (by kernel_rfl) ?_
    refine pSeq ?_
    obtain ⟨o1, h, hk1⟩ := bd h
    refine wK1 (fun x33 => x33 = o1) (fun x33 => [(6, .d ((kI .u32).sig x33))]) (fun x33 => []) ?_ ?_
    · refine wBlock (wLoop ?_)
      refine lW (pc2 o1 (fun v31 v32 => [(6, .d ((kI .u32).sig v32)), (16, .d ((kL (kI .i64)).sig a0)), (17, .d ((kI .i64).sig (a0.length : Int))), (18, .d ((kI .i64).sig v31))]) (fun v31 v32 => []) (rule_Uses.l0.partial_correctness a0) ?_ _ _ h) ⟨rfl, rfl, rfl, rfl, trivial⟩ rfl
      clear h
      intro f' ih v31 v32 h
      refine wSeq ?_
      refine rg (cp (oLt rfl tm tm) (s2 rfl rfl) <| .nil) (by kernel_rfl) ?_
      refine pSeq ?_
      refine wSeq ?_
      rcases ic h with ⟨hp34, h⟩ | ⟨hp34, h⟩
      · refine wCT hp34 tm (s1 rfl) ?_
        refine wSkip ?_
        refine pSeq ?_
        obtain ⟨o2, h, hk2⟩ := bd h
        refine wJ1 (fun x41 => x41 = o2) (fun x41 => [(6, .d ((kI .u32).sig x41)), (16, .d ((kL (kI .i64)).sig a0)), (17, .d ((kI .i64).sig (a0.length : Int))), (18, .d ((kI .i64).sig v31))]) (fun x41 => []) ?_ ?_
        · refine wBlock ?_
          refine wSeq ?_
          obtain ⟨y42, hy42, h⟩ := bd h
          refine rg (cp (oIdx u85 z3 hy42 tm tm) (s2 rfl rfl) <| cp (oLd t3 tm) (s1 rfl) <| cp (oAs tm) (s1 rfl) <| .nil) (by kernel_rfl) ?_
          refine pSeq ?_
          obtain ⟨o3, h, hk3⟩ := bd h
          refine wJ1 (fun x44 => x44 = o3) (fun x44 => [(6, .d ((kI .u32).sig v32)), (8, .d ((kI .i64).sig y42)), (16, .d ((kL (kI .i64)).sig a0)), (17, .d ((kI .i64).sig (a0.length : Int))), (18, .d ((kI .i64).sig v31)), (27, .d (kB.sig x44))]) (fun x44 => []) ?_ ?_
          · rcases ic h with ⟨hp45, h⟩ | ⟨hp45, h⟩
            · refine rg (cp (oMv tm) (s1 rfl) <| cp (oGe rfl tm (cI (by decide))) (s1 rfl) <| cp (oMv tm) (s1 rfl) <| cgB (decide_eq_true hp45) rfl rfl (oMv tm) (s1 rfl) <| cgB (decide_eq_true hp45) rfl rfl (oLe rfl tm (cI (by decide))) (s1 rfl) <| cp (oPkT (decide_eq_true hp45) tm tm) (s2 rfl rfl) <| .nil) (by kernel_rfl) ?_
              exact pJ1 _ (so h) ⟨rfl, rfl, rfl, rfl, rfl, rfl, trivial⟩ rfl
            · refine rg (cp (oMv tm) (s1 rfl) <| cp (oGe rfl tm (cI (by decide))) (s1 rfl) <| cp (oMv tm) (s1 rfl) <| csB (decide_eq_false hp45) rfl rfl <| csB (decide_eq_false hp45) rfl rfl <| cp (oPkF (decide_eq_false hp45) tm cB) (s1 rfl) <| .nil) (by kernel_rfl) ?_
              exact pJ1 _ (so h) ⟨rfl, rfl, rfl, rfl, rfl, rfl, trivial⟩ rfl
          · rintro x44 rfl
            replace h := hk3
            rcases ic h with ⟨hp46, h⟩ | ⟨hp46, h⟩
            · refine wBT hp46 tm (s1 rfl) ?_
              obtain ⟨hc47, h⟩ := ib h
              refine rg (cp (oMv tm) (s1 rfl) <| cp (oMv tm) (s1 rfl) <| cp (oSub tm (cI (by decide))) (s1 rfl) <| cp (oShl hc47 (cI (by decide)) tm) (s1 rfl) <| cp (oOr tm tm) (s2 rfl rfl) <| cp (oAs tm) (s1 rfl) <| .nil) (by kernel_rfl) ?_
              refine pBlkN ?_
              exact pJ1 _ (so h) ⟨rfl, rfl, rfl, rfl, trivial⟩ rfl
            · refine wBF hp46 tm (s1 rfl) ?_
              refine wSkip ?_
              refine pBlkN ?_
              exact pJ1 _ (so h) ⟨rfl, rfl, rfl, rfl, trivial⟩ rfl
        · rintro x41 rfl
          replace h := hk2
          refine rg (cp (oAdd tm (cI (by decide))) (s1 rfl) <| cp (oMv tm) (s1 rfl) <| .nil) (by kernel_rfl) ?_
          exact pLoop (lW (ih _ _ h) ⟨rfl, rfl, rfl, rfl, trivial⟩ rfl)
      · refine wCF hp34 tm (s1 rfl) ?_
        refine wExit ?_
        refine pThenX ?_
        refine pThenX ?_
        refine pBlkX ?_
        exact pJ1 _ (so h) ⟨rfl, trivial⟩ rfl
    · rintro x33 rfl
      replace h := hk1
      refine pSeq ?_
      refine wSeq ?_
      refine rg (cp (oMv tm) (s1 rfl) <| cp (oAs tm) (s1 rfl) <| cp (oAs (cI (by decide))) trivial <| .nil) (by kernel_rfl) ?_
      refine pSeq ?_
      refine wRet ?_
      obtain rfl := so h
      exact pRn (.inl rfl) rfl rfl (.tmp rfl <| .tmp rfl <| .nil)

theorem table_has.ok {a0 : Int} {a1 : List Int} {r : Bool} (h : table_has.f a0 a1 = some r) : FnA Tryd.prog 94 [(kI .i64).sig a0, (kL (kI .i64)).sig a1] (kB.sig r) := by
  refine fnIntro Tryd.func94 rfl (by kernel_rfl) fun H0 w0 => ?_
  unfold table_has.f at h
  refine wSeq ?_
  refine rg (cp (oAs cB) trivial <| .nil) (by kernel_rfl) ?_
  refine pSeq ?_
  refine wSeq ?_
  obtain ⟨y1, hy1, h⟩ := bd h
  refine rg (cp (oMv tm) (s1 rfl) <| cp (oCall rfl (rule_Uses.ok hy1) b154 (opds_cons tm opds_nil)) (s1 rfl) <| cp (oMv tm) (s1 rfl) <| cp (oExt (k := 0) rfl tm) (s1 rfl) <| cp (oExt (k := 1) rfl tm) (s1 rfl) <| cp (oAs tm) (s1 rfl) <| cp (oAs tm) (s1 rfl) <| .nil) (by kernel_rfl) ?_
  refine pSeq ?_
  obtain ⟨o1, h, hk1⟩ := bd h
  refine wJ1 (fun x5 => x5 = o1) (fun x5 => [(4, .d (kB.sig x5))]) (fun x5 => []) ?_ ?_
  · rcases ic h with ⟨hp6, h⟩ | ⟨hp6, h⟩
    · obtain ⟨y7, hy7, h⟩ := bd h
      obtain ⟨hc8, h⟩ := ib h
      refine rg (cp (oMv tm) (s1 rfl) <| cp (oEq rfl tm (cI (by decide))) (s1 rfl) <| cp (oMv tm) (s1 rfl) <| cgB (decide_eq_true hp6) rfl rfl (oMv tm) (s1 rfl) <| cgB (decide_eq_true hp6) rfl rfl (oMv tm) (s1 rfl) <| cgB (decide_eq_true hp6) rfl rfl (oIdxG gm1 u115 rfl z3 hy7 tm) (s1 rfl) <| cgB (decide_eq_true hp6) rfl rfl (oLd t3 tm) (s1 rfl) <| cgB (decide_eq_true hp6) rfl rfl (oAdd tm (cI (by decide))) (s1 rfl) <| cgB (decide_eq_true hp6) rfl rfl (oShr hc8 tm tm) (s2 rfl rfl) <| cgB (decide_eq_true hp6) rfl rfl (oEq rfl tm (cI (by decide))) (s1 rfl) <| cp (oPkT (decide_eq_true hp6) tm tm) (s2 rfl rfl) <| cp (oAs tm) (s1 rfl) <| .nil) (by kernel_rfl) ?_
      exact pJ1 _ (so h) ⟨rfl, trivial⟩ rfl
    · refine rg (cp (oMv tm) (s1 rfl) <| cp (oEq rfl tm (cI (by decide))) (s1 rfl) <| cp (oMv tm) (s1 rfl) <| csB (decide_eq_false hp6) rfl rfl <| csB (decide_eq_false hp6) rfl rfl <| csB (decide_eq_false hp6) rfl rfl <| csB (decide_eq_false hp6) rfl rfl <| csB (decide_eq_false hp6) rfl rfl <| csB (decide_eq_false hp6) rfl rfl <| csB (decide_eq_false hp6) rfl rfl <| cp (oPkF (decide_eq_false hp6) tm cB) (s1 rfl) <| cp (oAs tm) (s1 rfl) <| .nil) (by kernel_rfl) ?_
      exact pJ1 _ (so h) ⟨rfl, trivial⟩ rfl
  · rintro x5 rfl
    replace h := hk1
    refine wRet ?_
    obtain rfl := so h
    exact pR1 (.inl rfl) rfl (.tmp rfl <| .nil)

theorem table_suits.ok {a0 : Int} {a1 : api_Row} {r : Bool} (h : table_suits.f a0 a1 = some r) : FnA Tryd.prog 54 [(kI .i64).sig a0, (kR f_api_Row).sig a1] (kB.sig r) := by
  refine fnIntro Tryd.func54 rfl (by kernel_rfl) fun H0 w0 => ?_
  unfold table_suits.f at h
  refine wSeq ?_
  refine rg (cp (oBox tm) (s1 rfl) <| cp (oAs cB) trivial <| .nil) (by kernel_rfl) ?_
  refine pSeq ?_
  obtain ⟨o1, h, hk1⟩ := bd h
  refine wJ1 (fun x6 => x6 = o1) (fun x6 => [(4, .d (kB.sig x6))]) (fun x6 => []) ?_ ?_
  · obtain ⟨y7, hy7, h⟩ := bd h
    rcases ic h with ⟨hp8, h⟩ | ⟨hp8, h⟩
    · obtain ⟨y9, hy9, h⟩ := bd h
      rcases ic h with ⟨hp10, h⟩ | ⟨hp10, h⟩
      · obtain ⟨y11, hy11, h⟩ := bd h
        refine rg (cp (oMv tm) (s1 rfl) <| cp (oFld (fs := f_api_Row) (k := 0) rfl o87_0 tm) (s1 rfl) <| cp (oLd t85 tm) (s1 rfl) <| cp (oCall rfl (table_has.ok hy7) b94 (opds_cons tm (opds_cons tm opds_nil))) (s2 rfl rfl) <| cp (oMv tm) (s1 rfl) <| cgB hp8 rfl rfl (oMv tm) (s1 rfl) <| cgB hp8 rfl rfl (oFld (fs := f_api_Row) (k := 1) rfl o87_1 tm) (s1 rfl) <| cgB hp8 rfl rfl (oLd t85 tm) (s1 rfl) <| cgB hp8 rfl rfl (oCall rfl (table_has.ok hy9) b94 (opds_cons tm (opds_cons tm opds_nil))) (s2 rfl rfl) <| cp (oPkT hp8 tm tm) (s2 rfl rfl) <| cp (oMv tm) (s1 rfl) <| cgB hp10 rfl rfl (oMv tm) (s1 rfl) <| cgB hp10 rfl rfl (oFld (fs := f_api_Row) (k := 2) rfl o87_2 tm) (s1 rfl) <| cgB hp10 rfl rfl (oLd t85 tm) (s1 rfl) <| cgB hp10 rfl rfl (oCall rfl (table_has.ok hy11) b94 (opds_cons tm (opds_cons tm opds_nil))) (s2 rfl rfl) <| cp (oPkT hp10 tm tm) (s2 rfl rfl) <| cp (oAs tm) (s1 rfl) <| .nil) (by kernel_rfl) ?_
        exact pJ1 _ (so h) ⟨rfl, trivial⟩ rfl
      · refine rg (cp (oMv tm) (s1 rfl) <| cp (oFld (fs := f_api_Row) (k := 0) rfl o87_0 tm) (s1 rfl) <| cp (oLd t85 tm) (s1 rfl) <| cp (oCall rfl (table_has.ok hy7) b94 (opds_cons tm (opds_cons tm opds_nil))) (s2 rfl rfl) <| cp (oMv tm) (s1 rfl) <| cgB hp8 rfl rfl (oMv tm) (s1 rfl) <| cgB hp8 rfl rfl (oFld (fs := f_api_Row) (k := 1) rfl o87_1 tm) (s1 rfl) <| cgB hp8 rfl rfl (oLd t85 tm) (s1 rfl) <| cgB hp8 rfl rfl (oCall rfl (table_has.ok hy9) b94 (opds_cons tm (opds_cons tm opds_nil))) (s2 rfl rfl) <| cp (oPkT hp8 tm tm) (s2 rfl rfl) <| cp (oMv tm) (s1 rfl) <| csB (nb hp10) rfl rfl <| csB (nb hp10) rfl rfl <| csB (nb hp10) rfl rfl <| csB (nb hp10) rfl rfl <| cp (oPkF (nb hp10) tm cB) (s1 rfl) <| cp (oAs tm) (s1 rfl) <| .nil) (by kernel_rfl) ?_
        exact pJ1 _ (so h) ⟨rfl, trivial⟩ rfl
    · refine rg (cp (oMv tm) (s1 rfl) <| cp (oFld (fs := f_api_Row) (k := 0) rfl o87_0 tm) (s1 rfl) <| cp (oLd t85 tm) (s1 rfl) <| cp (oCall rfl (table_has.ok hy7) b94 (opds_cons tm (opds_cons tm opds_nil))) (s2 rfl rfl) <| cp (oMv tm) (s1 rfl) <| csB (nb hp8) rfl rfl <| csB (nb hp8) rfl rfl <| csB (nb hp8) rfl rfl <| csB (nb hp8) rfl rfl <| cp (oPkF (nb hp8) tm cB) (s1 rfl) <| cp (oMv tm) (s1 rfl) <| csB rfl rfl rfl <| csB rfl rfl rfl <| csB rfl rfl rfl <| csB rfl rfl rfl <| cp (oPkF rfl tm cB) (s1 rfl) <| cp (oAs tm) (s1 rfl) <| .nil) (by kernel_rfl) ?_
      exact pJ1 _ (so h) ⟨rfl, trivial⟩ rfl
  · rintro x6 rfl
    replace h := hk1
    refine wRet ?_
    obtain rfl := so h
    exact pR1 (.inl rfl) rfl (.tmp rfl <| .nil)

theorem table_Check.ok {a0 : api_Table} {r : Int × Int} (h : table_Check.f a0 = some r) : FnA Tryd.prog 12 [(kR f_api_Table).sig a0] (tup [(kI .i64).sig r.1, (kI .i64).sig r.2]) := by
  refine fnIntro Tryd.func12 rfl (by kernel_rfl) fun H0 w0 => ?_
  unfold table_Check.f at h
  refine wSeq ?_
  refine rg (cp (oBox tm) (s1 rfl) <| cp (oAs (cI (by decide))) trivial <| cp (oAs (cI (by decide))) trivial <| .nil) (by kernel_rfl) ?_
  refine pSeq ?_
  refine wSeq ?_
  refine wSeq ?_
  refine rg (cp (oFld (fs := f_api_Table) (k := 0) rfl o24_0 tm) (s1 rfl) <| cp (oLd t22 tm) (s1 rfl) <| cp (oLenL u22 tm) (s1 rfl) <| cp (oNe rfl tm (cI (by decide))) (s1 rfl) <| .nil) (by kernel_rfl) ?_
  refine pSeq ?_
  rcases ic h with ⟨hp1, h⟩ | ⟨hp1, h⟩
  · refine wNT hp1 tm (s1 rfl) ?_
    refine wSkip ?_
    refine pSeq ?_
    refine wSeq ?_
    refine wSeq ?_
    refine rg (cp (oFld (fs := f_api_Table) (k := 0) rfl o24_0 tm) (s1 rfl) <| cp (oLd t22 tm) (s1 rfl) <| cp (oLenL u22 tm) (s1 rfl) <| cp (oMv (cI (by decide))) trivial <| .nil) (by kernel_rfl) ?_
    refine pSeq ?_
    obtain ⟨o1, h, hk1⟩ := bd h
    refine wK0 (.inr () = o1) ([]) ([]) ?_ ?_
    · refine wBlock (wLoop ?_)
      refine lW (pc1 o1 (fun v14 => [(11, .d ((kL (kR f_api_Row)).sig a0.Rows)), (12, .d ((kI .i64).sig (a0.Rows.length : Int))), (13, .d ((kI .i64).sig v14))]) (fun v14 => []) (table_Check.l0.partial_correctness a0) ?_ _ h) ⟨rfl, rfl, rfl, trivial⟩ rfl
      clear h
      intro f' ih v14 h
      refine wSeq ?_
      refine rg (cp (oLt rfl tm tm) (s2 rfl rfl) <| .nil) (by kernel_rfl) ?_
      refine pSeq ?_
      refine wSeq ?_
      rcases ic h with ⟨hp15, h⟩ | ⟨hp15, h⟩
      · refine wCT hp15 tm (s1 rfl) ?_
        refine wSkip ?_
        refine pSeq ?_
        refine wSeq ?_
        refine wBlock ?_
        refine wSeq ?_
        obtain ⟨y16, hy16, h⟩ := bd h
        refine rg (cp (oMv tm) (s1 rfl) <| cp (oIdx u22 z87 hy16 tm tm) (s2 rfl rfl) <| cp (oLd t87 tm) (s1 rfl) <| cw (oAlloc (id := 5) (ls := [.d (kL (kI .i64)) [], .d (kL (kI .i64)) [], .d (kL (kI .i64)) []]) ze87 (fun g => ⟨[(.slice none 0 0)], _, rfl, zL g.H, ⟨[(.slice none 0 0)], _, rfl, zL g.H, ⟨[(.slice none 0 0)], _, rfl, zL g.H, rfl⟩⟩⟩)) trivial <| cp (oAs tm) (s1 rfl) <| cwn (oStA (n := 0) (fs := f_api_Row) rfl rfl z87 tm tm) (s2 rfl rfl) <| .nil) (by kernel_rfl) ?_
        refine pSeq ?_
        refine wBlock ?_
        refine wSeq ?_
        obtain ⟨y17, hy17, h⟩ := bd h
        refine rg (cr (oLdA (n := 0) (fs := f_api_Row) (u := ⟨y16.May, y16.Res, y16.Pc⟩) rfl ⟨rfl, rfl, rfl, trivial⟩ t87 tm) (s1 rfl) <| cp (oCall rfl (table_right.ok hy17) b53 (opds_cons tm opds_nil)) (s1 rfl) <| cp (oNot tm) (s1 rfl) <| cp (oAs tm) (s1 rfl) <| .nil) (by kernel_rfl) ?_
        refine pSeq ?_
        rcases ic h with ⟨hp18, h⟩ | ⟨hp18, h⟩
        · refine wBT hp18 tm (s1 rfl) ?_
          refine wSeq ?_
          refine rg (cp (oMv tm) (s1 rfl) <| cp (oAs tm) (s1 rfl) <| cp (oAs (cI (by decide))) trivial <| .nil) (by kernel_rfl) ?_
          refine pSeq ?_
          refine wRet ?_
          refine pBlkR ?_
          refine pBlkR ?_
          refine pThenR ?_
          refine pThenR ?_
          refine pBlkR ?_
          refine pThenR ?_
          obtain rfl := so h
          replace h := hk1
          refine pThenR ?_
          obtain rfl := so h
          exact pRn (.inl rfl) rfl rfl (.tmp rfl <| .tmp rfl <| .nil)
        · refine wBF hp18 tm (s1 rfl) ?_
          refine wSeq ?_
          obtain ⟨y19, hy19, h⟩ := bd h
          refine rg (cp (oMv tm) (s1 rfl) <| cr (oLdA (n := 0) (fs := f_api_Row) (u := ⟨y16.May, y16.Res, y16.Pc⟩) rfl ⟨rfl, rfl, rfl, trivial⟩ t87 tm) (s1 rfl) <| cp (oCall rfl (table_suits.ok hy19) b54 (opds_cons tm (opds_cons tm opds_nil))) (s2 rfl rfl) <| cp (oNot tm) (s1 rfl) <| cp (oAs tm) (s1 rfl) <| .nil) (by kernel_rfl) ?_
          refine pSeq ?_
          rcases ic h with ⟨hp20, h⟩ | ⟨hp20, h⟩
          · refine wBT hp20 tm (s1 rfl) ?_
            refine wSeq ?_
            refine rg (cp (oMv tm) (s1 rfl) <| cp (oAs tm) (s1 rfl) <| cp (oAs (cI (by decide))) trivial <| .nil) (by kernel_rfl) ?_
            refine pSeq ?_
            refine wRet ?_
            refine pBlkR ?_
            refine pBlkR ?_
            refine pThenR ?_
            refine pThenR ?_
            refine pBlkR ?_
            refine pThenR ?_
            obtain rfl := so h
            replace h := hk1
            refine pThenR ?_
            obtain rfl := so h
            exact pRn (.inl rfl) rfl rfl (.tmp rfl <| .tmp rfl <| .nil)
          · refine wBF hp20 tm (s1 rfl) ?_
            refine wSkip ?_
            refine pBlkN ?_
            refine pBlkN ?_
            refine pSeq ?_
            refine rg (cp (oAdd tm (cI (by decide))) (s1 rfl) <| cp (oMv tm) (s1 rfl) <| .nil) (by kernel_rfl) ?_
            refine pDrop (.cons _ .slnil) ?_
            exact pLoop (lW (ih _ h) ⟨rfl, rfl, rfl, trivial⟩ rfl)
      · refine wCF hp15 tm (s1 rfl) ?_
        refine wExit ?_
        refine pThenX ?_
        refine pThenX ?_
        refine pBlkX ?_
        exact pJ0 (so h) trivial rfl
    · rintro rfl
      replace h := hk1
      refine pSeq ?_
      refine wSeq ?_
      refine rg (cp (oAs (cI (by decide))) trivial <| cp (oAs (cI (by decide))) trivial <| .nil) (by kernel_rfl) ?_
      refine pSeq ?_
      refine wRet ?_
      obtain rfl := so h
      exact pRn (.inl rfl) rfl rfl (.tmp rfl <| .tmp rfl <| .nil)
  · refine wNF hp1 tm (s1 rfl) ?_
    refine wSeq ?_
    refine rg (cp (oAs (cI (by decide))) trivial <| cp (oAs (cI (by decide))) trivial <| .nil) (by kernel_rfl) ?_
    refine pSeq ?_
    refine wRet ?_
    refine pThenR ?_
    obtain rfl := so h
    exact pRn (.inl rfl) rfl rfl (.tmp rfl <| .tmp rfl <| .nil)

theorem strings_Builder_WriteString.ok {a0 : Str} {a1 : Str} {r : Str × Int × Unit} (h : strings_Builder_WriteString.f a0 a1 = some r) : FnS Tryd.prog 55 [.p 70000 0, .d (kS.sig a1)] [.box 70000 105 [.o 70000, .v 70002], .row 70002 5 kU a0] [70000] (.d (tup [(kI .i64).sig r.2.1, (sV .nilIface)])) [.box 70000 105 [.o 70000, .v 70002], .row 70002 5 kU r.1] := by
  refine fnIntroS Tryd.func55 rfl (by kernel_rfl) fun X H0 w0 pv => ?_
  unfold strings_Builder_WriteString.f at h
  refine wSeq ?_
  refine rg (cp (oAs (cI (by decide))) trivial <| cp (oAs cV) trivial <| .nil) (by kernel_rfl) ?_
  refine pSeq ?_
  refine wSeq ?_
  refine rg (cp (oMv tm) (s1 rfl) <| cw (oCC (n := 0) bldCC rfl tm) (s1 rfl) <| .nil) (by kernel_rfl) ?_
  refine pSeq ?_
  refine wSeq ?_
  obtain ⟨hc1, h⟩ := ib h
  refine rg (cp (oMv tm) (s1 rfl) <| cp (oMv tm) (s1 rfl) <| cp (oNilP tm) (s1 rfl) <| cp (oFldP o105_1 tm) (s1 rfl) <| cr (oLdN (n := 0) (k := 1) rfl rfl rfl t103 tm) (s1 rfl) <| cp (oMv tm) (s1 rfl) <| cw (oAppS (n := 1) (id' := 14) el103 zb5 u9 rfl hc1 tm tm) (s2 rfl rfl) <| cp (oNilP tm) (s1 rfl) <| cp (oFldP o105_1 tm) (s1 rfl) <| cwn (oStN (n := 0) (m := 1) (k := 1) rfl rfl rfl rfl z103 rfl tm tm) (s2 rfl rfl) <| .nil) (by kernel_rfl) ?_
  refine pSeq ?_
  refine wSeq ?_
  refine rg (cp (oMv tm) (s1 rfl) <| cp (oLenS u9 tm) (s1 rfl) <| cp (oAs tm) (s1 rfl) <| cp (oAs cV) trivial <| .nil) (by kernel_rfl) ?_
  refine pSeq ?_
  refine wRet ?_
  obtain rfl := so h
  refine pSub (Γ' := [(4, .d ((kI .i64).sig (a1.length : Int))), (5, .d ((sV .nilIface)))]) ⟨rfl, rfl, trivial⟩ ?_
  refine pRen 14 70002 rfl ?_
  exact pSn [0, 1] rfl rfl (.inl rfl) rfl rfl (.tmp rfl <| .tmp rfl <| .nil)

theorem show_word.ok {a0 : Int} {r : Str × Int × Bool} (h : show_word.f a0 = some r) : FnA Tryd.prog 96 [(kI .i64).sig a0] (tup [kS.sig r.1, (kI .i64).sig r.2.1, kB.sig r.2.2]) := by
  refine fnIntro Tryd.func96 rfl (by kernel_rfl) fun H0 w0 => ?_
  unfold show_word.f at h
  refine wSeq ?_
  refine rg (cp (oAs (cS (by decide))) trivial <| cp (oAs (cI (by decide))) trivial <| cp (oAs cB) trivial <| .nil) (by kernel_rfl) ?_
  refine pSeq ?_
  refine wSeq ?_
  refine wSeq ?_
  refine rg (cp (oMv tm) (s1 rfl) <| .nil) (by kernel_rfl) ?_
  refine pSeq ?_
  refine wBlock ?_
  refine wSeq ?_
  refine rg (cp (oEq rfl tm (cI (by decide))) (s1 rfl) <| cp (oAs tm) (s1 rfl) <| .nil) (by kernel_rfl) ?_
  refine pSeq ?_
  rcases ic h with ⟨hp1, h⟩ | ⟨hp1, h⟩
  · refine wCT hp1 tm (s1 rfl) ?_
    refine wSeq ?_
    refine rg (cp (oAs (cS (by decide))) trivial <| cp (oAs (cI (by decide))) trivial <| cp (oAs cB) trivial <| .nil) (by kernel_rfl) ?_
    refine pSeq ?_
    refine wRet ?_
    refine pBlkR ?_
    refine pThenR ?_
    obtain rfl := so h
    exact pRn (.inl rfl) rfl rfl (.tmp rfl <| .tmp rfl <| .tmp rfl <| .nil)
  · refine wCF hp1 tm (s1 rfl) ?_
    refine wSeq ?_
    refine rg (cp (oEq rfl tm (cI (by decide))) (s1 rfl) <| cp (oAs tm) (s1 rfl) <| .nil) (by kernel_rfl) ?_
    refine pSeq ?_
    rcases ic h with ⟨hp2, h⟩ | ⟨hp2, h⟩
    · refine wCT hp2 tm (s1 rfl) ?_
      refine wSeq ?_
      refine rg (cp (oAs (cS (by decide))) trivial <| cp (oAs (cI (by decide))) trivial <| cp (oAs cB) trivial <| .nil) (by kernel_rfl) ?_
      refine pSeq ?_
      refine wRet ?_
      refine pBlkR ?_
      refine pThenR ?_
      obtain rfl := so h
      exact pRn (.inl rfl) rfl rfl (.tmp rfl <| .tmp rfl <| .tmp rfl <| .nil)
    · refine wCF hp2 tm (s1 rfl) ?_
      refine wSeq ?_
      refine rg (cp (oEq rfl tm (cI (by decide))) (s1 rfl) <| cp (oAs tm) (s1 rfl) <| .nil) (by kernel_rfl) ?_
      refine pSeq ?_
      rcases ic h with ⟨hp3, h⟩ | ⟨hp3, h⟩
      · refine wCT hp3 tm (s1 rfl) ?_
        refine wSeq ?_
        refine rg (cp (oAs (cS (by decide))) trivial <| cp (oAs (cI (by decide))) trivial <| cp (oAs cB) trivial <| .nil) (by kernel_rfl) ?_
        refine pSeq ?_
        refine wRet ?_
        refine pBlkR ?_
        refine pThenR ?_
        obtain rfl := so h
        exact pRn (.inl rfl) rfl rfl (.tmp rfl <| .tmp rfl <| .tmp rfl <| .nil)
      · refine wCF hp3 tm (s1 rfl) ?_
        refine wSeq ?_
        refine rg (cp (oEq rfl tm (cI (by decide))) (s1 rfl) <| cp (oAs tm) (s1 rfl) <| .nil) (by kernel_rfl) ?_
        refine pSeq ?_
        rcases ic h with ⟨hp4, h⟩ | ⟨hp4, h⟩
        · refine wCT hp4 tm (s1 rfl) ?_
          refine wSeq ?_
          refine rg (cp (oAs (cS (by decide))) trivial <| cp (oAs (cI (by decide))) trivial <| cp (oAs cB) trivial <| .nil) (by kernel_rfl) ?_
          refine pSeq ?_
          refine wRet ?_
          refine pBlkR ?_
          refine pThenR ?_
          obtain rfl := so h
          exact pRn (.inl rfl) rfl rfl (.tmp rfl <| .tmp rfl <| .tmp rfl <| .nil)
        · refine wCF hp4 tm (s1 rfl) ?_
          refine wSeq ?_
          refine rg (cp (oEq rfl tm (cI (by decide))) (s1 rfl) <| cp (oAs tm) (s1 rfl) <| .nil) (by kernel_rfl) ?_
          refine pSeq ?_
          rcases ic h with ⟨hp5, h⟩ | ⟨hp5, h⟩
          · refine wCT hp5 tm (s1 rfl) ?_
            refine wSeq ?_
            refine rg (cp (oAs (cS (by decide))) trivial <| cp (oAs (cI (by decide))) trivial <| cp (oAs cB) trivial <| .nil) (by kernel_rfl) ?_
            refine pSeq ?_
            refine wRet ?_
            refine pBlkR ?_
            refine pThenR ?_
            obtain rfl := so h
            exact pRn (.inl rfl) rfl rfl (.tmp rfl <| .tmp rfl <| .tmp rfl <| .nil)
          · refine wCF hp5 tm (s1 rfl) ?_
            refine wSeq ?_
            refine rg (cp (oEq rfl tm (cI (by decide))) (s1 rfl) <| cp (oAs tm) (s1 rfl) <| .nil) (by kernel_rfl) ?_
            refine pSeq ?_
            rcases ic h with ⟨hp6, h⟩ | ⟨hp6, h⟩
            · refine wCT hp6 tm (s1 rfl) ?_
              refine wSeq ?_
              refine rg (cp (oAs (cS (by decide))) trivial <| cp (oAs (cI (by decide))) trivial <| cp (oAs cB) trivial <| .nil) (by kernel_rfl) ?_
              refine pSeq ?_
              refine wRet ?_
              refine pBlkR ?_
              refine pThenR ?_
              obtain rfl := so h
              exact pRn (.inl rfl) rfl rfl (.tmp rfl <| .tmp rfl <| .tmp rfl <| .nil)
            · refine wCF hp6 tm (s1 rfl) ?_
              refine wSeq ?_
              refine rg (cp (oEq rfl tm (cI (by decide))) (s1 rfl) <| cp (oAs tm) (s1 rfl) <| .nil) (by kernel_rfl) ?_
              refine pSeq ?_
              rcases ic h with ⟨hp7, h⟩ | ⟨hp7, h⟩
              · refine wCT hp7 tm (s1 rfl) ?_
                refine wSeq ?_
                refine rg (cp (oAs (cS (by decide))) trivial <| cp (oAs (cI (by decide))) trivial <| cp (oAs cB) trivial <| .nil) (by kernel_rfl) ?_
                refine pSeq ?_
                refine wRet ?_
                refine pBlkR ?_
                refine pThenR ?_
                obtain rfl := so h
                exact pRn (.inl rfl) rfl rfl (.tmp rfl <| .tmp rfl <| .tmp rfl <| .nil)
              · refine wCF hp7 tm (s1 rfl) ?_
                refine wSkip ?_
                refine pBlkN ?_
                refine pSeq ?_
                refine wSeq ?_
                obtain ⟨y8, hy8, h⟩ := bd h
                refine rg (cp (oLit (d := kS) el56 (by decide) rfl rfl rfl (e1 (cS (by decide)) (e1 (cS (by decide)) (e1 (cS (by decide)) (e1 (cS (by decide)) (e1 (cS (by decide)) (e1 (cS (by decide)) e0))))))) trivial <| cp (oMv tm) (s1 rfl) <| cp (oSub tm (cI (by decide))) (s1 rfl) <| cp (oIdx u56 z9 hy8 tm tm) (s2 rfl rfl) <| cp (oLd t9 tm) (s1 rfl) <| cp (oAs tm) (s1 rfl) <| cp (oAs (cI (by decide))) trivial <| cp (oAs cB) trivial <| .nil) (by kernel_rfl) ?_
                refine pSeq ?_
                refine wRet ?_
                obtain rfl := so h
                exact pRn (.inl rfl) rfl rfl (.tmp rfl <| .tmp rfl <| .tmp rfl <| .nil)

theorem show_pile_show_piece_put.ok {a0 : show_piece_171} {a1 : show_piece} {r : show_piece_171} (h : show_pile_show_piece_put.f a0 a1 = some r) : FnS Tryd.prog 97 [.p 70000 0, .d ((kR f_show_piece).sig a1)] [.box 70000 171 [.v 70001], .row 70001 176 (kR f_show_piece) a0.l_] [70000] (.d (tup [])) [.box 70000 171 [.v 70001], .row 70001 176 (kR f_show_piece) r.l_] := by
  refine fnIntroS Tryd.func97 rfl (by kernel_rfl) fun X H0 w0 pv => ?_
  unfold show_pile_show_piece_put.f at h
  refine wSeq ?_
  refine rg (cp (oBox tm) (s1 rfl) <| .nil) (by kernel_rfl) ?_
  refine pSeq ?_
  obtain ⟨hc1, h⟩ := ib h
  refine rgD hm (cp (oMv tm) (s1 rfl) <| cp (oMv tm) (s1 rfl) <| cp (oNilP tm) (s1 rfl) <| cp (oFldP o171_0 tm) (s1 rfl) <| cr (oLdN (n := 0) (k := 0) rfl rfl rfl t169 tm) (s1 rfl) <| cp (oLd t176 tm) (s1 rfl) <| cp (oLit (d := (kR f_show_piece)) el169 (by decide) rfl rfl rfl (e1 tm e0)) (s1 rfl) <| cw (oApp (n := 1) (id' := 11) el169 (by decide) rfl (by decide) hc1 tm tm) (s2 rfl rfl) <| cp (oNilP tm) (s1 rfl) <| cp (oFldP o171_0 tm) (s1 rfl) <| cwn (oStN (n := 0) (m := 1) (k := 0) rfl rfl rfl rfl z169 rfl tm tm) (s2 rfl rfl) <| .nil) (by kernel_rfl) (by kernel_rfl) ?_
  obtain rfl := so h
  refine pSub (Γ' := []) trivial ?_
  refine pRen 11 70001 rfl ?_
  exact pSn [0, 1] rfl rfl (.inr rfl) rfl rfl (.nil)

theorem show_pile_show_piece_take.ok {a0 : show_piece_171} {r : show_piece_171 × show_piece} (h : show_pile_show_piece_take.f a0 = some r) : FnS Tryd.prog 98 [.p 70000 0] [.box 70000 171 [.v 70001], .row 70001 176 (kR f_show_piece) a0.l_] [70000] (.d ((kR f_show_piece).sig r.2)) [.box 70000 171 [.v 70001], .row 70001 176 (kR f_show_piece) r.1.l_] := by
  refine fnIntroS Tryd.func98 rfl (by kernel_rfl) fun X H0 w0 pv => ?_
  unfold show_pile_show_piece_take.f at h
  refine wSeq ?_
  refine rg (cw (oAlloc (id := 2) (ls := [.d kS [], .d (kI .i64) 0, .d (kI .i64) 0]) ze176 (fun g => ⟨[(.string ⟨⟨[]⟩⟩)], _, rfl, zS g.H, ⟨[(.int .i64 0)], _, rfl, zI_i64 g.H, ⟨[(.int .i64 0)], _, rfl, zI_i64 g.H, rfl⟩⟩⟩)) trivial <| .nil) (by kernel_rfl) ?_
  refine pSeq ?_
  refine wSeq ?_
  refine rg (cp (oMv tm) (s1 rfl) <| cp (oNilP tm) (s1 rfl) <| cp (oFldP o171_0 tm) (s1 rfl) <| cr (oLdN (n := 1) (k := 0) rfl rfl rfl t169 tm) (s1 rfl) <| cr (oLenR (n := 2) u169 rfl tm) (s1 rfl) <| cp (oSub tm (cI (by decide))) (s1 rfl) <| cp (oAs tm) (s1 rfl) <| .nil) (by kernel_rfl) ?_
  refine pSeq ?_
  refine wSeq ?_
  obtain ⟨y1, hy1, h⟩ := bd h
  refine rg (cp (oMv tm) (s1 rfl) <| cp (oNilP tm) (s1 rfl) <| cp (oFldP o171_0 tm) (s1 rfl) <| cr (oLdN (n := 1) (k := 0) rfl rfl rfl t169 tm) (s1 rfl) <| cp (oMv tm) (s1 rfl) <| cr (oIdxR (n := 2) u169 z176 rfl hy1 tm tm) (s2 rfl rfl) <| cr (oLdE (n := 2) rfl hy1 rfl t176 tm) (s1 rfl) <| cw (oAlloc (id := 4) (ls := [.d kS [], .d (kI .i64) 0, .d (kI .i64) 0]) ze176 (fun g => ⟨[(.string ⟨⟨[]⟩⟩)], _, rfl, zS g.H, ⟨[(.int .i64 0)], _, rfl, zI_i64 g.H, ⟨[(.int .i64 0)], _, rfl, zI_i64 g.H, rfl⟩⟩⟩)) trivial <| cwn (oStA (n := 0) (fs := f_show_piece) rfl rfl z176 tm tm) (s2 rfl rfl) <| .nil) (by kernel_rfl) ?_
  refine pSeq ?_
  refine wSeq ?_
  obtain ⟨hc2, h⟩ := ib h
  refine rg (cp (oMv tm) (s1 rfl) <| cp (oMv tm) (s1 rfl) <| cp (oNilP tm) (s1 rfl) <| cp (oFldP o171_0 tm) (s1 rfl) <| cr (oLdN (n := 2) (k := 0) rfl rfl rfl t169 tm) (s1 rfl) <| cp (oMv tm) (s1 rfl) <| cw (oCutR (n := 3) (id' := 24) u169 z176 rfl hc2.1 hc2.2 tm tm) (s2 rfl rfl) <| cp (oNilP tm) (s1 rfl) <| cp (oFldP o171_0 tm) (s1 rfl) <| cwn (oStN (n := 2) (m := 3) (k := 0) rfl rfl rfl rfl z169 rfl tm tm) (s2 rfl rfl) <| .nil) (by kernel_rfl) ?_
  refine pSeq ?_
  refine wSeq ?_
  refine rg (cr (oLdA (n := 0) (fs := f_show_piece) (u := ⟨y1.text_, y1.binds_, y1.deep_⟩) rfl ⟨rfl, rfl, rfl, trivial⟩ t176 tm) (s1 rfl) <| cwn (oStA (n := 1) (fs := f_show_piece) rfl rfl z176 tm tm) (s2 rfl rfl) <| .nil) (by kernel_rfl) ?_
  refine pSeq ?_
  refine wRet ?_
  obtain rfl := so h
  refine pSub (Γ' := [(2, .p 2 0)]) ⟨rfl, trivial⟩ ?_
  refine pRen 24 70001 rfl ?_
  exact pS1 [2, 3] rfl rfl (.inl rfl) rfl (.box (n := 1) (fs := f_show_piece) (u := ⟨y1.text_, y1.binds_, y1.deep_⟩) rfl rfl ⟨rfl, rfl, rfl, trivial⟩ t176 <| .nil)

theorem show_within.ok {a0 : show_piece} {a1 : Int} {a2 : Str} {a3 : Str} {r : show_piece} (h : show_within.f a0 a1 a2 a3 = some r) : FnA Tryd.prog 99 [(kR f_show_piece).sig a0, (kI .i64).sig a1, kS.sig a2, kS.sig a3] ((kR f_show_piece).sig r) := by
  refine fnIntro Tryd.func99 rfl (by kernel_rfl) fun H0 w0 => ?_
  unfold show_within.f at h
  refine wSeq ?_
  refine rg (cp (oBox tm) (s1 rfl) <| cw (oAlloc (id := 8) (ls := [.d kS [], .d (kI .i64) 0, .d (kI .i64) 0]) ze176 (fun g => ⟨[(.string ⟨⟨[]⟩⟩)], _, rfl, zS g.H, ⟨[(.int .i64 0)], _, rfl, zI_i64 g.H, ⟨[(.int .i64 0)], _, rfl, zI_i64 g.H, rfl⟩⟩⟩)) trivial <| .nil) (by kernel_rfl) ?_
  refine pSeq ?_
  refine wSeq ?_
  refine wSeq ?_
  refine rg (cp (oFld (fs := f_show_piece) (k := 1) rfl o176_1 tm) (s1 rfl) <| cp (oLd t3 tm) (s1 rfl) <| cp (oMv tm) (s1 rfl) <| cp (oGe rfl tm tm) (s2 rfl rfl) <| .nil) (by kernel_rfl) ?_
  refine pSeq ?_
  rcases ic h with ⟨hp1, h⟩ | ⟨hp1, h⟩
  · refine wCT hp1 tm (s1 rfl) ?_
    refine wSeq ?_
    refine rg (cp (oLd t176 tm) (s1 rfl) <| cwn (oStA (n := 0) (fs := f_show_piece) rfl rfl z176 tm tm) (s2 rfl rfl) <| .nil) (by kernel_rfl) ?_
    refine pSeq ?_
    refine wRet ?_
    refine pThenR ?_
    obtain rfl := so h
    exact pR1 (.inl rfl) rfl (.box (n := 0) (fs := f_show_piece) (u := ⟨a0.text_, a0.binds_, a0.deep_⟩) rfl rfl ⟨rfl, rfl, rfl, trivial⟩ t176 <| .nil)
  · refine wCF hp1 tm (s1 rfl) ?_
    refine wSkip ?_
    refine pSeq ?_
    refine wSeq ?_
    obtain ⟨hc2, h⟩ := ib h
    obtain ⟨hc3, h⟩ := ib h
    refine rg (cp (oMv tm) (s1 rfl) <| cp (oFld (fs := f_show_piece) (k := 0) rfl o176_0 tm) (s1 rfl) <| cp (oLd t9 tm) (s1 rfl) <| cp (oSAdd hc2 tm tm) (s2 rfl rfl) <| cp (oMv tm) (s1 rfl) <| cp (oSAdd hc3 tm tm) (s2 rfl rfl) <| cp (oFld (fs := f_show_piece) (k := 2) rfl o176_2 tm) (s1 rfl) <| cp (oLd t3 tm) (s1 rfl) <| cp (oAdd tm (cI (by decide))) (s1 rfl) <| cp (oBuild (fs := f_show_piece) (u := ⟨(a2 ++ a0.text_) ++ a3, 3, IntKind.i64.wrap (a0.deep_ + 1)⟩) rfl ze176 pl176 po176 (.op (zc := [(.string ⟨⟨[]⟩⟩)]) tm rfl (.op (zc := [(.int .i64 0)]) (cI (by decide)) rfl (.op (zc := [(.int .i64 0)]) tm rfl .nil)))) (s2 rfl rfl) <| cwn (oStA (n := 0) (fs := f_show_piece) rfl rfl z176 tm tm) (s2 rfl rfl) <| .nil) (by kernel_rfl) ?_
    refine pSeq ?_
    refine wRet ?_
    obtain rfl := so h
    exact pR1 (.inl rfl) rfl (.box (n := 0) (fs := f_show_piece) (u := ⟨(a2 ++ a0.text_) ++ a3, 3, IntKind.i64.wrap (a0.deep_ + 1)⟩) rfl rfl ⟨rfl, rfl, rfl, trivial⟩ t176 <| .nil)

theorem show_Text.ok {a0 : List Int} {r : Str × Int} (h : show_Text.f a0 = some r) : FnA Tryd.prog 56 [(kL (kI .i64)).sig a0] (tup [kS.sig r.1, (kI .i64).sig r.2]) := by
  refine fnIntro Tryd.func56 rfl (by kernel_rfl) fun H0 w0 => ?_
  unfold show_Text.f at h
  refine wSeq ?_
  refine rg (cp (oAs (cS (by decide))) trivial <| cp (oAs (cI (by decide))) trivial <| .nil) (by kernel_rfl) ?_
  refine pSeq ?_
  refine wSeq ?_
  obtain ⟨o1, h, hk1⟩ := bd h
  refine wJ1 (fun x4 => x4 = o1) (fun x4 => [(0, .d ((kL (kI .i64)).sig a0)), (22, .d (kB.sig x4))]) (fun x4 => []) ?_ ?_
  · obtain ⟨y5, hy5, h⟩ := bd h
    rcases ic h with ⟨hp6, h⟩ | ⟨hp6, h⟩
    · obtain ⟨y7, hy7, h⟩ := bd h
      refine rg (cp (oMv tm) (s1 rfl) <| cp (oCall rfl (rule_Right.ok hy5) b93 (opds_cons tm (opds_cons cB opds_nil))) (s1 rfl) <| cp (oNot tm) (s1 rfl) <| cp (oMv tm) (s1 rfl) <| cgB hp6 rfl rfl (oMv tm) (s1 rfl) <| cgB hp6 rfl rfl (oCall rfl (rule_Right.ok hy7) b93 (opds_cons tm (opds_cons cB opds_nil))) (s1 rfl) <| cgB hp6 rfl rfl (oNot tm) (s1 rfl) <| cp (oPkT hp6 tm tm) (s2 rfl rfl) <| .nil) (by kernel_rfl) ?_
      exact pJ1 _ (so h) ⟨rfl, rfl, trivial⟩ rfl
    · refine rg (cp (oMv tm) (s1 rfl) <| cp (oCall rfl (rule_Right.ok hy5) b93 (opds_cons tm (opds_cons cB opds_nil))) (s1 rfl) <| cp (oNot tm) (s1 rfl) <| cp (oMv tm) (s1 rfl) <| csB (nb hp6) rfl rfl <| csB (nb hp6) rfl rfl <| csB (nb hp6) rfl rfl <| cp (oPkF (nb hp6) tm cB) (s1 rfl) <| .nil) (by kernel_rfl) ?_
      exact pJ1 _ (so h) ⟨rfl, rfl, trivial⟩ rfl
  · rintro x4 rfl
    replace h := hk1
    rcases ic h with ⟨hp8, h⟩ | ⟨hp8, h⟩
    · refine wBT hp8 tm (s1 rfl) ?_
      refine wSeq ?_
      refine rg (cp (oAs (cS (by decide))) trivial <| cp (oAs (cI (by decide))) trivial <| .nil) (by kernel_rfl) ?_
      refine pSeq ?_
      refine wRet ?_
      refine pThenR ?_
      obtain rfl := so h
      exact pRn (.inl rfl) rfl rfl (.tmp rfl <| .tmp rfl <| .nil)
    · refine wBF hp8 tm (s1 rfl) ?_
      refine wSkip ?_
      refine pSeq ?_
      refine wSeq ?_
      refine rg (cw (oAlloc (id := 4) (ls := [.d (kN show_piece) []]) ze171 (fun g => ⟨[(.slice none 0 0)], _, rfl, zN g.H, rfl⟩)) trivial <| .nil) (by kernel_rfl) ?_
      refine pSeq ?_
      refine wSeq ?_
      refine wSeq ?_
      refine rg (cp (oMv tm) (s1 rfl) <| cp (oLenL u85 tm) (s1 rfl) <| cp (oMv (cI (by decide))) trivial <| .nil) (by kernel_rfl) ?_
      refine pSeq ?_
      refine wNilL (kR f_show_piece) 176 5200 (n := 0) (k := 0) rfl rfl rfl ?_
      obtain ⟨o1, h, hk1⟩ := bd h
      refine wK1 (fun x159 => x159 = o1) (fun x159 => [(4, .p 4 0)]) (fun x159 => [.row 5200 176 (kR f_show_piece) x159, .box 4 171 [.v 5200]]) ?_ ?_
      · refine wBlock (wLoop ?_)
        refine lW (pc2 o1 (fun v157 v158 => [(4, .p 4 0), (23, .d ((kL (kI .i64)).sig a0)), (24, .d ((kI .i64).sig (a0.length : Int))), (25, .d ((kI .i64).sig v158))]) (fun v157 v158 => [.row 5200 176 (kR f_show_piece) v157, .box 4 171 [.v 5200]]) (show_Text.l0.partial_correctness a0) ?_ _ _ h) ⟨rfl, rfl, rfl, rfl, trivial⟩ rfl
        clear h
        intro f' ih v157 v158 h
        refine wSeq ?_
        refine rg (cp (oLt rfl tm tm) (s2 rfl rfl) <| .nil) (by kernel_rfl) ?_
        refine pSeq ?_
        refine wSeq ?_
        rcases ic h with ⟨hp160, h⟩ | ⟨hp160, h⟩
        · refine wCT hp160 tm (s1 rfl) ?_
          refine wSkip ?_
          refine pSeq ?_
          obtain ⟨o2, h, hk2⟩ := bd h
          refine wJ1 (fun x197 => x197 = o2) (fun x197 => [(4, .p 4 0), (23, .d ((kL (kI .i64)).sig a0)), (24, .d ((kI .i64).sig (a0.length : Int))), (25, .d ((kI .i64).sig v158))]) (fun x197 => [.row 5200 176 (kR f_show_piece) x197, .box 4 171 [.v 5200]]) ?_ ?_
          · refine wBlock ?_
            refine wSeq ?_
            obtain ⟨y198, hy198, h⟩ := bd h
            refine rg (cp (oIdx u85 z3 hy198 tm tm) (s2 rfl rfl) <| cp (oLd t3 tm) (s1 rfl) <| cp (oAs tm) (s1 rfl) <| .nil) (by kernel_rfl) ?_
            refine pSeq ?_
            refine wSeq ?_
            obtain ⟨y199, hy199, h⟩ := bd h
            refine rg (cp (oMv tm) (s1 rfl) <| cp (oCall rfl (show_word.ok hy199) b96 (opds_cons tm opds_nil)) (s1 rfl) <| cp (oMv tm) (s1 rfl) <| cp (oExt (k := 0) rfl tm) (s1 rfl) <| cp (oExt (k := 1) rfl tm) (s1 rfl) <| cp (oExt (k := 2) rfl tm) (s1 rfl) <| cp (oAs tm) (s1 rfl) <| cp (oAs tm) (s1 rfl) <| cp (oAs tm) (s1 rfl) <| .nil) (by kernel_rfl) ?_
            refine pSeq ?_
            refine wSeq ?_
            refine wSeq ?_
            refine rg (cp (oMv tm) (s1 rfl) <| cp (oNot tm) (s1 rfl) <| .nil) (by kernel_rfl) ?_
            refine pSeq ?_
            rcases ic h with ⟨hp200, h⟩ | ⟨hp200, h⟩
            · refine wBT hp200 tm (s1 rfl) ?_
              refine wSeq ?_
              obtain ⟨y201, hy201, h⟩ := bd h
              refine rg (cp (oMv tm) (s1 rfl) <| cp (oMv tm) (s1 rfl) <| cp (oBuild (fs := f_show_piece) (u := ⟨y199.1, y199.2.1, 0⟩) rfl ze176 pl176 po176 (.op (zc := [(.string ⟨⟨[]⟩⟩)]) tm rfl (.op (zc := [(.int .i64 0)]) tm rfl (.op (zc := [(.int .i64 0)]) (cI (by decide)) rfl .nil)))) (s2 rfl rfl) <| cm (oCallS (rest := []) (R' := [.row 390120 176 (kR f_show_piece) y201.l_, .box 4 171 [.v 390120]]) (out' := .d (tup [])) [(70000, 4), (70001, 5200)] [(70001, 390120)] [1, 0] [] [1, 0] rfl (show_pile_show_piece_put.ok hy201) b97 (oE1 tm (oE1 tm oE0)) rfl rfl rfl rfl rfl rfl rfl rfl) (s2 rfl rfl) <| .nil) (by kernel_rfl) ?_
              refine pSeq ?_
              refine wExit ?_
              refine pThenX ?_
              refine pBlkX ?_
              refine pSub (Γ' := [(4, .p 4 0), (23, .d ((kL (kI .i64)).sig a0)), (24, .d ((kI .i64).sig (a0.length : Int))), (25, .d ((kI .i64).sig v158))]) ⟨rfl, rfl, rfl, rfl, trivial⟩ ?_
              refine pRen 390120 5200 rfl ?_
              exact pJ1 _ (so h) ⟨rfl, rfl, rfl, rfl, trivial⟩ rfl
            · refine wBF hp200 tm (s1 rfl) ?_
              refine wSkip ?_
              refine pSeq ?_
              refine wSeq ?_
              obtain ⟨y202, hy202, h⟩ := bd h
              obtain ⟨y203, hy203, h⟩ := bd h
              refine rg (cm (oCallS (rest := []) (R' := [.row 400000 176 (kR f_show_piece) y202.1.l_, .box 4 171 [.v 400000]]) (out' := .d ((kR f_show_piece).sig y202.2)) [(70000, 4), (70001, 5200)] [(70001, 400000)] [1, 0] [] [1, 0] rfl (show_pile_show_piece_take.ok hy202) b98 (oE1 tm oE0) rfl rfl rfl rfl rfl rfl rfl rfl) (s1 rfl) <| cm (oCallS (rest := []) (R' := [.row 400040 176 (kR f_show_piece) y203.1.l_, .box 4 171 [.v 400040]]) (out' := .d ((kR f_show_piece).sig y203.2)) [(70000, 4), (70001, 400000)] [(70001, 400040)] [1, 0] [] [1, 0] rfl (show_pile_show_piece_take.ok hy203) b98 (oE1 tm oE0) rfl rfl rfl rfl rfl rfl rfl rfl) (s1 rfl) <| cw (oAlloc (id := 10) (ls := [.d kS [], .d (kI .i64) 0, .d (kI .i64) 0]) ze176 (fun g => ⟨[(.string ⟨⟨[]⟩⟩)], _, rfl, zS g.H, ⟨[(.int .i64 0)], _, rfl, zI_i64 g.H, ⟨[(.int .i64 0)], _, rfl, zI_i64 g.H, rfl⟩⟩⟩)) trivial <| cw (oAlloc (id := 11) (ls := [.d kS [], .d (kI .i64) 0, .d (kI .i64) 0]) ze176 (fun g => ⟨[(.string ⟨⟨[]⟩⟩)], _, rfl, zS g.H, ⟨[(.int .i64 0)], _, rfl, zI_i64 g.H, ⟨[(.int .i64 0)], _, rfl, zI_i64 g.H, rfl⟩⟩⟩)) trivial <| cwn (oStA (n := 1) (fs := f_show_piece) rfl rfl z176 tm tm) (s2 rfl rfl) <| cwn (oStA (n := 0) (fs := f_show_piece) rfl rfl z176 tm tm) (s2 rfl rfl) <| .nil) (by kernel_rfl) ?_
              refine pSeq ?_
              refine wSeq ?_
              refine rg (cp (oAs (cS (by decide))) trivial <| cp (oAs (cS (by decide))) trivial <| .nil) (by kernel_rfl) ?_
              refine pSeq ?_
              refine wSeq ?_
              refine wWeak (Γ' := [(4, .p 4 0), (6, .d ((kI .i64).sig y198)), (7, .d (kS.sig y199.1)), (8, .d ((kI .i64).sig y199.2.1)), (10, .p 10 0), (11, .p 11 0), (12, .d (kS.sig ([40] : Str))), (13, .d (kS.sig ([41] : Str))), (23, .d ((kL (kI .i64)).sig a0)), (24, .d ((kI .i64).sig (a0.length : Int))), (25, .d ((kI .i64).sig v158))]) ⟨rfl, rfl, rfl, rfl, rfl, rfl, rfl, rfl, rfl, rfl, rfl, trivial⟩ ?_
              refine wRen 400040 5200 rfl ?_
              obtain ⟨o3, h, hk3⟩ := bd h
              refine wJ1 (fun x205 => x205 = o3) (fun x205 => [(4, .p 4 0), (6, .d ((kI .i64).sig y198)), (7, .d (kS.sig y199.1)), (8, .d ((kI .i64).sig y199.2.1)), (10, .p 10 0), (11, .p 11 0), (12, .d (kS.sig ([40] : Str))), (13, .d (kS.sig ([41] : Str))), (23, .d ((kL (kI .i64)).sig a0)), (24, .d ((kI .i64).sig (a0.length : Int))), (25, .d ((kI .i64).sig v158)), (48, .d (kB.sig x205))]) (fun x205 => [.box 11 176 [.d kS y203.2.text_, .d (kI .i64) y203.2.binds_, .d (kI .i64) y203.2.deep_], .box 10 176 [.d kS y202.2.text_, .d (kI .i64) y202.2.binds_, .d (kI .i64) y202.2.deep_], .row 5200 176 (kR f_show_piece) y203.1.l_, .box 4 171 [.v 5200]]) ?_ ?_
              · rcases ic h with ⟨hp206, h⟩ | ⟨hp206, h⟩
                · refine rg (cp (oMv tm) (s1 rfl) <| cp (oEq rfl tm (cI (by decide))) (s1 rfl) <| cp (oMv tm) (s1 rfl) <| csB (decide_eq_true hp206) rfl rfl <| csB (decide_eq_true hp206) rfl rfl <| cp (oPkT (decide_eq_true hp206) tm cB) (s1 rfl) <| .nil) (by kernel_rfl) ?_
                  exact pJ1 _ (so h) ⟨rfl, rfl, rfl, rfl, rfl, rfl, rfl, rfl, rfl, rfl, rfl, rfl, trivial⟩ rfl
                · refine rg (cp (oMv tm) (s1 rfl) <| cp (oEq rfl tm (cI (by decide))) (s1 rfl) <| cp (oMv tm) (s1 rfl) <| cgB (decide_eq_false hp206) rfl rfl (oMv tm) (s1 rfl) <| cgB (decide_eq_false hp206) rfl rfl (oEq rfl tm (cI (by decide))) (s1 rfl) <| cp (oPkF (decide_eq_false hp206) tm tm) (s2 rfl rfl) <| .nil) (by kernel_rfl) ?_
                  exact pJ1 _ (so h) ⟨rfl, rfl, rfl, rfl, rfl, rfl, rfl, rfl, rfl, rfl, rfl, rfl, trivial⟩ rfl
              · rintro x205 rfl
                replace h := hk3
                rcases ic h with ⟨hp207, h⟩ | ⟨hp207, h⟩
                · refine wBT hp207 tm (s1 rfl) ?_
                  refine rg (cp (oAs (cS (by decide))) trivial <| cp (oAs (cS (by decide))) trivial <| .nil) (by kernel_rfl) ?_
                  refine pSeq ?_
                  refine wSeq ?_
                  refine wSeq ?_
                  refine rg (cp (oMv tm) (s1 rfl) <| cp (oNe rfl tm (cI (by decide))) (s1 rfl) <| .nil) (by kernel_rfl) ?_
                  refine pSeq ?_
                  rcases ic h with ⟨hp208, h⟩ | ⟨hp208, h⟩
                  · refine wNT hp208 tm (s1 rfl) ?_
                    refine wSkip ?_
                    refine pSeq ?_
                    obtain ⟨hc209, h⟩ := ib h
                    obtain ⟨hc210, h⟩ := ib h
                    obtain ⟨hc211, h⟩ := ib h
                    obtain ⟨hc212, h⟩ := ib h
                    obtain ⟨y213, hy213, h⟩ := bd h
                    refine rg (cp (oFldP o176_0 tm) (s1 rfl) <| cr (oLdB (n := 0) (k := 0) rfl rfl rfl t9 tm) (s1 rfl) <| cp (oSAdd hc209 tm (cS (by decide))) (s1 rfl) <| cp (oMv tm) (s1 rfl) <| cp (oSAdd hc210 tm tm) (s2 rfl rfl) <| cp (oSAdd hc211 tm (cS (by decide))) (s1 rfl) <| cp (oFldP o176_0 tm) (s1 rfl) <| cr (oLdB (n := 1) (k := 0) rfl rfl rfl t9 tm) (s1 rfl) <| cp (oSAdd hc212 tm tm) (s2 rfl rfl) <| cp (oMv tm) (s1 rfl) <| cp (oFldP o176_2 tm) (s1 rfl) <| cr (oLdB (n := 0) (k := 2) rfl rfl rfl t3 tm) (s1 rfl) <| cp (oFldP o176_2 tm) (s1 rfl) <| cr (oLdB (n := 1) (k := 2) rfl rfl rfl t3 tm) (s1 rfl) <| cp (oMax tm tm) (s2 rfl rfl) <| cp (oBuild (fs := f_show_piece) (u := ⟨(((y203.2.text_ ++ ([32] : Str)) ++ y199.1) ++ ([32] : Str)) ++ y202.2.text_, y199.2.1, (if y203.2.deep_ < y202.2.deep_ then y202.2.deep_ else y203.2.deep_)⟩) rfl ze176 pl176 po176 (.op (zc := [(.string ⟨⟨[]⟩⟩)]) tm rfl (.op (zc := [(.int .i64 0)]) tm rfl (.op (zc := [(.int .i64 0)]) tm rfl .nil)))) (s3 rfl rfl rfl) <| cm (oCallS (rest := [.box 11 176 [.d kS y203.2.text_, .d (kI .i64) y203.2.binds_, .d (kI .i64) y203.2.deep_], .box 10 176 [.d kS y202.2.text_, .d (kI .i64) y202.2.binds_, .d (kI .i64) y202.2.deep_]]) (R' := [.box 11 176 [.d kS y203.2.text_, .d (kI .i64) y203.2.binds_, .d (kI .i64) y203.2.deep_], .box 10 176 [.d kS y202.2.text_, .d (kI .i64) y202.2.binds_, .d (kI .i64) y202.2.deep_], .row 460640 176 (kR f_show_piece) y213.l_, .box 4 171 [.v 460640]]) (out' := .d (tup [])) [(70000, 4), (70001, 5200)] [(70001, 460640)] [3, 2] [0, 1] [2, 3, 1, 0] rfl (show_pile_show_piece_put.ok hy213) b97 (oE1 tm (oE1 tm oE0)) rfl rfl rfl rfl rfl rfl rfl rfl) (s2 rfl rfl) <| .nil) (by kernel_rfl) ?_
                    refine pBlkN ?_
                    refine pDrop (.cons _ (.cons _ (.cons_cons _ (.cons_cons _ .slnil)))) ?_
                    refine pSub (Γ' := [(4, .p 4 0), (23, .d ((kL (kI .i64)).sig a0)), (24, .d ((kI .i64).sig (a0.length : Int))), (25, .d ((kI .i64).sig v158))]) ⟨rfl, rfl, rfl, rfl, trivial⟩ ?_
                    refine pRen 460640 5200 rfl ?_
                    exact pJ1 _ (so h) ⟨rfl, rfl, rfl, rfl, trivial⟩ rfl
                  · refine wNF hp208 tm (s1 rfl) ?_
                    obtain ⟨y214, hy214, h⟩ := bd h
                    obtain ⟨y215, hy215, h⟩ := bd h
                    refine rgD hm (cr (oLdA (n := 0) (fs := f_show_piece) (u := ⟨y203.2.text_, y203.2.binds_, y203.2.deep_⟩) rfl ⟨rfl, rfl, rfl, trivial⟩ t176 tm) (s1 rfl) <| cp (oMv tm) (s1 rfl) <| cp (oMv tm) (s1 rfl) <| cp (oMv tm) (s1 rfl) <| cp (oCall rfl (show_within.ok hy214) b99 (opds_cons tm (opds_cons tm (opds_cons tm (opds_cons tm opds_nil))))) ⟨rfl, rfl, rfl, rfl, trivial⟩ <| cr (oLdA (n := 1) (fs := f_show_piece) (u := ⟨y202.2.text_, y202.2.binds_, y202.2.deep_⟩) rfl ⟨rfl, rfl, rfl, trivial⟩ t176 tm) (s1 rfl) <| cp (oMv tm) (s1 rfl) <| cp (oAdd tm (cI (by decide))) (s1 rfl) <| cp (oMv tm) (s1 rfl) <| cp (oMv tm) (s1 rfl) <| cp (oCall rfl (show_within.ok hy215) b99 (opds_cons tm (opds_cons tm (opds_cons tm (opds_cons tm opds_nil))))) ⟨rfl, rfl, rfl, rfl, trivial⟩ <| cwn (oStA (n := 0) (fs := f_show_piece) rfl rfl z176 tm tm) (s2 rfl rfl) <| cwn (oStA (n := 1) (fs := f_show_piece) rfl rfl z176 tm tm) (s2 rfl rfl) <| .nil) (by kernel_rfl) (by kernel_rfl) ?_
                    refine pSeq ?_
                    obtain ⟨hc216, h⟩ := ib h
                    obtain ⟨hc217, h⟩ := ib h
                    obtain ⟨hc218, h⟩ := ib h
                    obtain ⟨hc219, h⟩ := ib h
                    obtain ⟨y220, hy220, h⟩ := bd h
                    refine rg (cp (oFldP o176_0 tm) (s1 rfl) <| cr (oLdB (n := 0) (k := 0) rfl rfl rfl t9 tm) (s1 rfl) <| cp (oSAdd hc216 tm (cS (by decide))) (s1 rfl) <| cp (oMv tm) (s1 rfl) <| cp (oSAdd hc217 tm tm) (s2 rfl rfl) <| cp (oSAdd hc218 tm (cS (by decide))) (s1 rfl) <| cp (oFldP o176_0 tm) (s1 rfl) <| cr (oLdB (n := 1) (k := 0) rfl rfl rfl t9 tm) (s1 rfl) <| cp (oSAdd hc219 tm tm) (s2 rfl rfl) <| cp (oMv tm) (s1 rfl) <| cp (oFldP o176_2 tm) (s1 rfl) <| cr (oLdB (n := 0) (k := 2) rfl rfl rfl t3 tm) (s1 rfl) <| cp (oFldP o176_2 tm) (s1 rfl) <| cr (oLdB (n := 1) (k := 2) rfl rfl rfl t3 tm) (s1 rfl) <| cp (oMax tm tm) (s2 rfl rfl) <| cp (oBuild (fs := f_show_piece) (u := ⟨(((y214.text_ ++ ([32] : Str)) ++ y199.1) ++ ([32] : Str)) ++ y215.text_, y199.2.1, (if y214.deep_ < y215.deep_ then y215.deep_ else y214.deep_)⟩) rfl ze176 pl176 po176 (.op (zc := [(.string ⟨⟨[]⟩⟩)]) tm rfl (.op (zc := [(.int .i64 0)]) tm rfl (.op (zc := [(.int .i64 0)]) tm rfl .nil)))) (s3 rfl rfl rfl) <| cm (oCallS (rest := [.box 11 176 [.d kS y214.text_, .d (kI .i64) y214.binds_, .d (kI .i64) y214.deep_], .box 10 176 [.d kS y215.text_, .d (kI .i64) y215.binds_, .d (kI .i64) y215.deep_]]) (R' := [.box 11 176 [.d kS y214.text_, .d (kI .i64) y214.binds_, .d (kI .i64) y214.deep_], .box 10 176 [.d kS y215.text_, .d (kI .i64) y215.binds_, .d (kI .i64) y215.deep_], .row 460640 176 (kR f_show_piece) y220.l_, .box 4 171 [.v 460640]]) (out' := .d (tup [])) [(70000, 4), (70001, 5200)] [(70001, 460640)] [3, 2] [0, 1] [2, 3, 1, 0] rfl (show_pile_show_piece_put.ok hy220) b97 (oE1 tm (oE1 tm oE0)) rfl rfl rfl rfl rfl rfl rfl rfl) (s2 rfl rfl) <| .nil) (by kernel_rfl) ?_
                    refine pBlkN ?_
                    refine pDrop (.cons _ (.cons _ (.cons_cons _ (.cons_cons _ .slnil)))) ?_
                    refine pSub (Γ' := [(4, .p 4 0), (23, .d ((kL (kI .i64)).sig a0)), (24, .d ((kI .i64).sig (a0.length : Int))), (25, .d ((kI .i64).sig v158))]) ⟨rfl, rfl, rfl, rfl, trivial⟩ ?_
                    refine pRen 460640 5200 rfl ?_
                    exact pJ1 _ (so h) ⟨rfl, rfl, rfl, rfl, trivial⟩ rfl
                · refine wBF hp207 tm (s1 rfl) ?_
                  refine wSkip ?_
                  refine pSeq ?_
                  refine wSeq ?_
                  refine wSeq ?_
                  refine rg (cp (oMv tm) (s1 rfl) <| cp (oNe rfl tm (cI (by decide))) (s1 rfl) <| .nil) (by kernel_rfl) ?_
                  refine pSeq ?_
                  rcases ic h with ⟨hp221, h⟩ | ⟨hp221, h⟩
                  · refine wNT hp221 tm (s1 rfl) ?_
                    refine wSkip ?_
                    refine pSeq ?_
                    obtain ⟨hc222, h⟩ := ib h
                    obtain ⟨hc223, h⟩ := ib h
                    obtain ⟨hc224, h⟩ := ib h
                    obtain ⟨hc225, h⟩ := ib h
                    obtain ⟨y226, hy226, h⟩ := bd h
                    refine rg (cp (oFldP o176_0 tm) (s1 rfl) <| cr (oLdB (n := 0) (k := 0) rfl rfl rfl t9 tm) (s1 rfl) <| cp (oSAdd hc222 tm (cS (by decide))) (s1 rfl) <| cp (oMv tm) (s1 rfl) <| cp (oSAdd hc223 tm tm) (s2 rfl rfl) <| cp (oSAdd hc224 tm (cS (by decide))) (s1 rfl) <| cp (oFldP o176_0 tm) (s1 rfl) <| cr (oLdB (n := 1) (k := 0) rfl rfl rfl t9 tm) (s1 rfl) <| cp (oSAdd hc225 tm tm) (s2 rfl rfl) <| cp (oMv tm) (s1 rfl) <| cp (oFldP o176_2 tm) (s1 rfl) <| cr (oLdB (n := 0) (k := 2) rfl rfl rfl t3 tm) (s1 rfl) <| cp (oFldP o176_2 tm) (s1 rfl) <| cr (oLdB (n := 1) (k := 2) rfl rfl rfl t3 tm) (s1 rfl) <| cp (oMax tm tm) (s2 rfl rfl) <| cp (oBuild (fs := f_show_piece) (u := ⟨(((y203.2.text_ ++ ([32] : Str)) ++ y199.1) ++ ([32] : Str)) ++ y202.2.text_, y199.2.1, (if y203.2.deep_ < y202.2.deep_ then y202.2.deep_ else y203.2.deep_)⟩) rfl ze176 pl176 po176 (.op (zc := [(.string ⟨⟨[]⟩⟩)]) tm rfl (.op (zc := [(.int .i64 0)]) tm rfl (.op (zc := [(.int .i64 0)]) tm rfl .nil)))) (s3 rfl rfl rfl) <| cm (oCallS (rest := [.box 11 176 [.d kS y203.2.text_, .d (kI .i64) y203.2.binds_, .d (kI .i64) y203.2.deep_], .box 10 176 [.d kS y202.2.text_, .d (kI .i64) y202.2.binds_, .d (kI .i64) y202.2.deep_]]) (R' := [.box 11 176 [.d kS y203.2.text_, .d (kI .i64) y203.2.binds_, .d (kI .i64) y203.2.deep_], .box 10 176 [.d kS y202.2.text_, .d (kI .i64) y202.2.binds_, .d (kI .i64) y202.2.deep_], .row 460640 176 (kR f_show_piece) y226.l_, .box 4 171 [.v 460640]]) (out' := .d (tup [])) [(70000, 4), (70001, 5200)] [(70001, 460640)] [3, 2] [0, 1] [2, 3, 1, 0] rfl (show_pile_show_piece_put.ok hy226) b97 (oE1 tm (oE1 tm oE0)) rfl rfl rfl rfl rfl rfl rfl rfl) (s2 rfl rfl) <| .nil) (by kernel_rfl) ?_
                    refine pBlkN ?_
                    refine pDrop (.cons _ (.cons _ (.cons_cons _ (.cons_cons _ .slnil)))) ?_
                    refine pSub (Γ' := [(4, .p 4 0), (23, .d ((kL (kI .i64)).sig a0)), (24, .d ((kI .i64).sig (a0.length : Int))), (25, .d ((kI .i64).sig v158))]) ⟨rfl, rfl, rfl, rfl, trivial⟩ ?_
                    refine pRen 460640 5200 rfl ?_
                    exact pJ1 _ (so h) ⟨rfl, rfl, rfl, rfl, trivial⟩ rfl
                  · refine wNF hp221 tm (s1 rfl) ?_
                    obtain ⟨y227, hy227, h⟩ := bd h
                    obtain ⟨y228, hy228, h⟩ := bd h
                    refine rgD hm (cr (oLdA (n := 0) (fs := f_show_piece) (u := ⟨y203.2.text_, y203.2.binds_, y203.2.deep_⟩) rfl ⟨rfl, rfl, rfl, trivial⟩ t176 tm) (s1 rfl) <| cp (oMv tm) (s1 rfl) <| cp (oMv tm) (s1 rfl) <| cp (oMv tm) (s1 rfl) <| cp (oCall rfl (show_within.ok hy227) b99 (opds_cons tm (opds_cons tm (opds_cons tm (opds_cons tm opds_nil))))) ⟨rfl, rfl, rfl, rfl, trivial⟩ <| cr (oLdA (n := 1) (fs := f_show_piece) (u := ⟨y202.2.text_, y202.2.binds_, y202.2.deep_⟩) rfl ⟨rfl, rfl, rfl, trivial⟩ t176 tm) (s1 rfl) <| cp (oMv tm) (s1 rfl) <| cp (oAdd tm (cI (by decide))) (s1 rfl) <| cp (oMv tm) (s1 rfl) <| cp (oMv tm) (s1 rfl) <| cp (oCall rfl (show_within.ok hy228) b99 (opds_cons tm (opds_cons tm (opds_cons tm (opds_cons tm opds_nil))))) ⟨rfl, rfl, rfl, rfl, trivial⟩ <| cwn (oStA (n := 0) (fs := f_show_piece) rfl rfl z176 tm tm) (s2 rfl rfl) <| cwn (oStA (n := 1) (fs := f_show_piece) rfl rfl z176 tm tm) (s2 rfl rfl) <| .nil) (by kernel_rfl) (by kernel_rfl) ?_
                    refine pSeq ?_
                    obtain ⟨hc229, h⟩ := ib h
                    obtain ⟨hc230, h⟩ := ib h
                    obtain ⟨hc231, h⟩ := ib h
                    obtain ⟨hc232, h⟩ := ib h
                    obtain ⟨y233, hy233, h⟩ := bd h
                    refine rg (cp (oFldP o176_0 tm) (s1 rfl) <| cr (oLdB (n := 0) (k := 0) rfl rfl rfl t9 tm) (s1 rfl) <| cp (oSAdd hc229 tm (cS (by decide))) (s1 rfl) <| cp (oMv tm) (s1 rfl) <| cp (oSAdd hc230 tm tm) (s2 rfl rfl) <| cp (oSAdd hc231 tm (cS (by decide))) (s1 rfl) <| cp (oFldP o176_0 tm) (s1 rfl) <| cr (oLdB (n := 1) (k := 0) rfl rfl rfl t9 tm) (s1 rfl) <| cp (oSAdd hc232 tm tm) (s2 rfl rfl) <| cp (oMv tm) (s1 rfl) <| cp (oFldP o176_2 tm) (s1 rfl) <| cr (oLdB (n := 0) (k := 2) rfl rfl rfl t3 tm) (s1 rfl) <| cp (oFldP o176_2 tm) (s1 rfl) <| cr (oLdB (n := 1) (k := 2) rfl rfl rfl t3 tm) (s1 rfl) <| cp (oMax tm tm) (s2 rfl rfl) <| cp (oBuild (fs := f_show_piece) (u := ⟨(((y227.text_ ++ ([32] : Str)) ++ y199.1) ++ ([32] : Str)) ++ y228.text_, y199.2.1, (if y227.deep_ < y228.deep_ then y228.deep_ else y227.deep_)⟩) rfl ze176 pl176 po176 (.op (zc := [(.string ⟨⟨[]⟩⟩)]) tm rfl (.op (zc := [(.int .i64 0)]) tm rfl (.op (zc := [(.int .i64 0)]) tm rfl .nil)))) (s3 rfl rfl rfl) <| cm (oCallS (rest := [.box 11 176 [.d kS y227.text_, .d (kI .i64) y227.binds_, .d (kI .i64) y227.deep_], .box 10 176 [.d kS y228.text_, .d (kI .i64) y228.binds_, .d (kI .i64) y228.deep_]]) (R' := [.box 11 176 [.d kS y227.text_, .d (kI .i64) y227.binds_, .d (kI .i64) y227.deep_], .box 10 176 [.d kS y228.text_, .d (kI .i64) y228.binds_, .d (kI .i64) y228.deep_], .row 460640 176 (kR f_show_piece) y233.l_, .box 4 171 [.v 460640]]) (out' := .d (tup [])) [(70000, 4), (70001, 5200)] [(70001, 460640)] [3, 2] [0, 1] [2, 3, 1, 0] rfl (show_pile_show_piece_put.ok hy233) b97 (oE1 tm (oE1 tm oE0)) rfl rfl rfl rfl rfl rfl rfl rfl) (s2 rfl rfl) <| .nil) (by kernel_rfl) ?_
                    refine pBlkN ?_
                    refine pDrop (.cons _ (.cons _ (.cons_cons _ (.cons_cons _ .slnil)))) ?_
                    refine pSub (Γ' := [(4, .p 4 0), (23, .d ((kL (kI .i64)).sig a0)), (24, .d ((kI .i64).sig (a0.length : Int))), (25, .d ((kI .i64).sig v158))]) ⟨rfl, rfl, rfl, rfl, trivial⟩ ?_
                    refine pRen 460640 5200 rfl ?_
                    exact pJ1 _ (so h) ⟨rfl, rfl, rfl, rfl, trivial⟩ rfl
          · rintro x197 rfl
            replace h := hk2
            refine rg (cp (oAdd tm (cI (by decide))) (s1 rfl) <| cp (oMv tm) (s1 rfl) <| .nil) (by kernel_rfl) ?_
            exact pLoop (lW (ih _ _ h) ⟨rfl, rfl, rfl, rfl, trivial⟩ rfl)
        · refine wCF hp160 tm (s1 rfl) ?_
          refine wExit ?_
          refine pThenX ?_
          refine pThenX ?_
          refine pBlkX ?_
          exact pJ1 _ (so h) ⟨rfl, trivial⟩ rfl
      · rintro x159 rfl
        replace h := hk1
        refine pSeq ?_
        refine wSeq ?_
        obtain ⟨y234, hy234, h⟩ := bd h
        refine rg (cm (oCallS (rest := []) (R' := [.row 480000 176 (kR f_show_piece) y234.1.l_, .box 4 171 [.v 480000]]) (out' := .d ((kR f_show_piece).sig y234.2)) [(70000, 4), (70001, 5200)] [(70001, 480000)] [1, 0] [] [1, 0] rfl (show_pile_show_piece_take.ok hy234) b98 (oE1 tm oE0) rfl rfl rfl rfl rfl rfl rfl rfl) (s1 rfl) <| cw (oAlloc (id := 14) (ls := [.d kS [], .d (kI .i64) 0, .d (kI .i64) 0]) ze176 (fun g => ⟨[(.string ⟨⟨[]⟩⟩)], _, rfl, zS g.H, ⟨[(.int .i64 0)], _, rfl, zI_i64 g.H, ⟨[(.int .i64 0)], _, rfl, zI_i64 g.H, rfl⟩⟩⟩)) trivial <| cwn (oStA (n := 0) (fs := f_show_piece) rfl rfl z176 tm tm) (s2 rfl rfl) <| .nil) (by kernel_rfl) ?_
        refine pSeq ?_
        refine wSeq ?_
        refine wSeq ?_
        refine rg (cp (oFldP o176_2 tm) (s1 rfl) <| cr (oLdB (n := 0) (k := 2) rfl rfl rfl t3 tm) (s1 rfl) <| cp (oGt rfl tm (cI (by decide))) (s1 rfl) <| .nil) (by kernel_rfl) ?_
        refine pSeq ?_
        rcases ic h with ⟨hp235, h⟩ | ⟨hp235, h⟩
        · refine wCT hp235 tm (s1 rfl) ?_
          refine wSeq ?_
          refine rg (cp (oAs (cS (by decide))) trivial <| cp (oAs (cI (by decide))) trivial <| .nil) (by kernel_rfl) ?_
          refine pSeq ?_
          refine wRet ?_
          refine pThenR ?_
          obtain rfl := so h
          exact pRn (.inl rfl) rfl rfl (.tmp rfl <| .tmp rfl <| .nil)
        · refine wCF hp235 tm (s1 rfl) ?_
          refine wSkip ?_
          refine pSeq ?_
          refine wSeq ?_
          refine rg (cp (oFldP o176_0 tm) (s1 rfl) <| cr (oLdB (n := 0) (k := 0) rfl rfl rfl t9 tm) (s1 rfl) <| cp (oAs tm) (s1 rfl) <| cp (oAs (cI (by decide))) trivial <| .nil) (by kernel_rfl) ?_
          refine pSeq ?_
          refine wRet ?_
          obtain rfl := so h
          exact pRn (.inl rfl) rfl rfl (.tmp rfl <| .tmp rfl <| .nil)

theorem table_Text.ok {a0 : api_Table} {r : Str × Int} (h : table_Text.f a0 = some r) : FnA Tryd.prog 13 [(kR f_api_Table).sig a0] (tup [kS.sig r.1, (kI .i64).sig r.2]) := by
  refine fnIntro Tryd.func13 rfl (by kernel_rfl) fun H0 w0 => ?_
  unfold table_Text.f at h
  refine wSeq ?_
  refine rg (cp (oBox tm) (s1 rfl) <| cp (oAs (cS (by decide))) trivial <| cp (oAs (cI (by decide))) trivial <| .nil) (by kernel_rfl) ?_
  refine pSeq ?_
  refine wSeq ?_
  refine wSeq ?_
  obtain ⟨y1, hy1, h⟩ := bd h
  refine rg (cp (oLd t24 tm) (s1 rfl) <| cp (oCall rfl (table_Check.ok hy1) b12 (opds_cons tm opds_nil)) (s1 rfl) <| cp (oMv tm) (s1 rfl) <| cp (oExt (k := 0) rfl tm) (s1 rfl) <| cp (oExt (k := 1) rfl tm) (s1 rfl) <| cp (oAs tm) (s1 rfl) <| cp (oAs tm) (s1 rfl) <| .nil) (by kernel_rfl) ?_
  refine pSeq ?_
  refine wSeq ?_
  refine rg (cp (oMv tm) (s1 rfl) <| cp (oNe rfl tm (cI (by decide))) (s1 rfl) <| .nil) (by kernel_rfl) ?_
  refine pSeq ?_
  rcases ic h with ⟨hp2, h⟩ | ⟨hp2, h⟩
  · refine wNT hp2 tm (s1 rfl) ?_
    refine wSkip ?_
    refine pSeq ?_
    refine wSeq ?_
    refine rg (cw (oAlloc (id := 6) (ls := [.o 6, .d (kN UInt8) []]) ze105 (fun g => ⟨[(.pointer none)], _, rfl, .inl rfl, ⟨[(.slice none 0 0)], _, rfl, zN g.H, rfl⟩⟩)) trivial <| .nil) (by kernel_rfl) ?_
    refine pSeq ?_
    refine wSeq ?_
    refine wSeq ?_
    refine rg (cp (oFld (fs := f_api_Table) (k := 0) rfl o24_0 tm) (s1 rfl) <| cp (oLd t22 tm) (s1 rfl) <| cp (oLenL u22 tm) (s1 rfl) <| cp (oMv (cI (by decide))) trivial <| .nil) (by kernel_rfl) ?_
    refine pSeq ?_
    refine wNilL kU 5 5301 (n := 0) (k := 1) rfl rfl rfl ?_
    obtain ⟨o1, h, hk1⟩ := bd h
    refine wK1 (fun x143 => .inr x143 = o1) (fun x143 => [(6, .p 6 0)]) (fun x143 => [.row 5301 5 kU x143, .box 6 105 [.o 6, .v 5301]]) ?_ ?_
    · refine wBlock (wLoop ?_)
      refine lW (pc2 o1 (fun v141 v142 => [(6, .p 6 0), (22, .d ((kL (kR f_api_Row)).sig a0.Rows)), (23, .d ((kI .i64).sig (a0.Rows.length : Int))), (24, .d ((kI .i64).sig v142))]) (fun v141 v142 => [.row 5301 5 kU v141, .box 6 105 [.o 6, .v 5301]]) (table_Text.l2.partial_correctness a0) ?_ _ _ h) ⟨rfl, rfl, rfl, rfl, trivial⟩ rfl
      clear h
      intro f' ih v141 v142 h
      refine wSeq ?_
      refine rg (cp (oLt rfl tm tm) (s2 rfl rfl) <| .nil) (by kernel_rfl) ?_
      refine pSeq ?_
      refine wSeq ?_
      rcases ic h with ⟨hp144, h⟩ | ⟨hp144, h⟩
      · refine wCT hp144 tm (s1 rfl) ?_
        refine wSkip ?_
        refine pSeq ?_
        refine wSeq ?_
        refine wBlock ?_
        refine wSeq ?_
        obtain ⟨y145, hy145, h⟩ := bd h
        refine rg (cp (oMv tm) (s1 rfl) <| cp (oIdx u22 z87 hy145 tm tm) (s2 rfl rfl) <| cp (oLd t87 tm) (s1 rfl) <| cw (oAlloc (id := 8) (ls := [.d (kL (kI .i64)) [], .d (kL (kI .i64)) [], .d (kL (kI .i64)) []]) ze87 (fun g => ⟨[(.slice none 0 0)], _, rfl, zL g.H, ⟨[(.slice none 0 0)], _, rfl, zL g.H, ⟨[(.slice none 0 0)], _, rfl, zL g.H, rfl⟩⟩⟩)) trivial <| cp (oAs tm) (s1 rfl) <| cwn (oStA (n := 0) (fs := f_api_Row) rfl rfl z87 tm tm) (s2 rfl rfl) <| .nil) (by kernel_rfl) ?_
        refine pSeq ?_
        refine wSeq ?_
        obtain ⟨y146, hy146, h⟩ := bd h
        obtain ⟨hc147, h⟩ := ib h
        obtain ⟨y148, hy148, h⟩ := bd h
        refine rg (cp (oMv tm) (s1 rfl) <| cp (oIdxG gm0 u110 rfl z9 hy146 tm) (s1 rfl) <| cp (oLd t9 tm) (s1 rfl) <| cp (oSAdd hc147 tm (cS (by decide))) (s1 rfl) <| cm (oCallS (rest := [.box 8 87 [.d (kL (kI .i64)) y145.May, .d (kL (kI .i64)) y145.Res, .d (kL (kI .i64)) y145.Pc]]) (R' := [.box 8 87 [.d (kL (kI .i64)) y145.May, .d (kL (kI .i64)) y145.Res, .d (kL (kI .i64)) y145.Pc], .row 380160 5 kU y148.1, .box 6 105 [.o 6, .v 380160]]) (out' := .d (tup [(kI .i64).sig y148.2.1, (sV .nilIface)])) [(70000, 6), (70002, 5301)] [(70002, 380160)] [2, 1] [0] [2, 1, 0] rfl (strings_Builder_WriteString.ok hy148) b55 (oE1 tm (oE1 tm oE0)) rfl rfl rfl rfl rfl rfl rfl rfl) (s2 rfl rfl) <| .nil) (by kernel_rfl) ?_
        refine pSeq ?_
        refine wSeq ?_
        refine wSeq ?_
        refine rg (cp (oFldP o87_0 tm) (s1 rfl) <| cr (oLdB (n := 0) (k := 0) rfl rfl rfl t85 tm) (s1 rfl) <| cp (oFldP o87_1 tm) (s1 rfl) <| cr (oLdB (n := 0) (k := 1) rfl rfl rfl t85 tm) (s1 rfl) <| cp (oFldP o87_2 tm) (s1 rfl) <| cr (oLdB (n := 0) (k := 2) rfl rfl rfl t85 tm) (s1 rfl) <| cp (oLit (d := (kL (kI .i64))) el111 (by decide) rfl rfl rfl (e1 tm (e1 tm (e1 tm e0)))) (s3 rfl rfl rfl) <| cp (oLenL u111 tm) (s1 rfl) <| cp (oMv (cI (by decide))) trivial <| .nil) (by kernel_rfl) ?_
        refine pSeq ?_
        refine wWeak (Γ' := [(6, .p 6 0), (22, .d ((kL (kR f_api_Row)).sig a0.Rows)), (23, .d ((kI .i64).sig (a0.Rows.length : Int))), (24, .d ((kI .i64).sig v142)), (40, .d ((kL (kL (kI .i64))).sig ([y145.May, y145.Res, y145.Pc] : List (List Int)))), (41, .d ((kI .i64).sig (([y145.May, y145.Res, y145.Pc] : List (List Int)).length : Int))), (42, .d ((kI .i64).sig 0))]) ⟨rfl, rfl, rfl, rfl, rfl, rfl, rfl, trivial⟩ ?_
        refine wRen 380160 5301 rfl ?_
        obtain ⟨o2, h, hk2⟩ := bd h
        refine wK1 (fun x191 => .inr x191 = o2) (fun x191 => [(6, .p 6 0), (22, .d ((kL (kR f_api_Row)).sig a0.Rows)), (23, .d ((kI .i64).sig (a0.Rows.length : Int))), (24, .d ((kI .i64).sig v142))]) (fun x191 => [.box 8 87 [.d (kL (kI .i64)) y145.May, .d (kL (kI .i64)) y145.Res, .d (kL (kI .i64)) y145.Pc], .row 5301 5 kU x191, .box 6 105 [.o 6, .v 5301]]) ?_ ?_
        · refine wBlock (wLoop ?_)
          refine lW (pc2 o2 (fun v189 v190 => [(6, .p 6 0), (22, .d ((kL (kR f_api_Row)).sig a0.Rows)), (23, .d ((kI .i64).sig (a0.Rows.length : Int))), (24, .d ((kI .i64).sig v142)), (40, .d ((kL (kL (kI .i64))).sig ([y145.May, y145.Res, y145.Pc] : List (List Int)))), (41, .d ((kI .i64).sig (([y145.May, y145.Res, y145.Pc] : List (List Int)).length : Int))), (42, .d ((kI .i64).sig v190))]) (fun v189 v190 => [.box 8 87 [.d (kL (kI .i64)) y145.May, .d (kL (kI .i64)) y145.Res, .d (kL (kI .i64)) y145.Pc], .row 5301 5 kU v189, .box 6 105 [.o 6, .v 5301]]) (table_Text.l3.partial_correctness y145) ?_ _ _ h) ⟨rfl, rfl, rfl, rfl, rfl, rfl, rfl, trivial⟩ rfl
          clear h
          intro f' ih v189 v190 h
          refine wSeq ?_
          refine rg (cp (oLt rfl tm tm) (s2 rfl rfl) <| .nil) (by kernel_rfl) ?_
          refine pSeq ?_
          refine wSeq ?_
          rcases ic h with ⟨hp192, h⟩ | ⟨hp192, h⟩
          · refine wCT hp192 tm (s1 rfl) ?_
            refine wSkip ?_
            refine pSeq ?_
            obtain ⟨o3, h, hk3⟩ := bd h
            refine wJ1 (fun x202 => .inr x202 = o3) (fun x202 => [(6, .p 6 0), (22, .d ((kL (kR f_api_Row)).sig a0.Rows)), (23, .d ((kI .i64).sig (a0.Rows.length : Int))), (24, .d ((kI .i64).sig v142)), (40, .d ((kL (kL (kI .i64))).sig ([y145.May, y145.Res, y145.Pc] : List (List Int)))), (41, .d ((kI .i64).sig (([y145.May, y145.Res, y145.Pc] : List (List Int)).length : Int))), (42, .d ((kI .i64).sig v190))]) (fun x202 => [.box 8 87 [.d (kL (kI .i64)) y145.May, .d (kL (kI .i64)) y145.Res, .d (kL (kI .i64)) y145.Pc], .row 5301 5 kU x202, .box 6 105 [.o 6, .v 5301]]) ?_ ?_
            · refine wBlock ?_
              refine wSeq ?_
              obtain ⟨y203, hy203, h⟩ := bd h
              refine rg (cp (oMv tm) (s1 rfl) <| cp (oIdx u111 z85 hy203 tm tm) (s2 rfl rfl) <| cp (oLd t85 tm) (s1 rfl) <| cp (oAs tm) (s1 rfl) <| cp (oAs tm) (s1 rfl) <| .nil) (by kernel_rfl) ?_
              refine pSeq ?_
              refine wSeq ?_
              obtain ⟨y204, hy204, h⟩ := bd h
              refine rg (cp (oMv tm) (s1 rfl) <| cp (oCall rfl (show_Text.ok hy204) b56 (opds_cons tm opds_nil)) (s1 rfl) <| cp (oMv tm) (s1 rfl) <| cp (oExt (k := 0) rfl tm) (s1 rfl) <| cp (oExt (k := 1) rfl tm) (s1 rfl) <| cp (oAs tm) (s1 rfl) <| cp (oAs tm) (s1 rfl) <| .nil) (by kernel_rfl) ?_
              refine pSeq ?_
              refine wSeq ?_
              refine wSeq ?_
              refine rg (cp (oMv tm) (s1 rfl) <| cp (oNe rfl tm (cI (by decide))) (s1 rfl) <| .nil) (by kernel_rfl) ?_
              refine pSeq ?_
              rcases ic h with ⟨hp205, h⟩ | ⟨hp205, h⟩
              · refine wNT hp205 tm (s1 rfl) ?_
                refine wSkip ?_
                refine pSeq ?_
                refine wSeq ?_
                refine wSeq ?_
                refine rg (cp (oMv tm) (s1 rfl) <| cp (oGt rfl tm (cI (by decide))) (s1 rfl) <| .nil) (by kernel_rfl) ?_
                refine pSeq ?_
                rcases ic h with ⟨hp206, h⟩ | ⟨hp206, h⟩
                · refine wCT hp206 tm (s1 rfl) ?_
                  obtain ⟨y207, hy207, h⟩ := bd h
                  refine rg (cm (oCallS (rest := [.box 8 87 [.d (kL (kI .i64)) y145.May, .d (kL (kI .i64)) y145.Res, .d (kL (kI .i64)) y145.Pc]]) (R' := [.box 8 87 [.d (kL (kI .i64)) y145.May, .d (kL (kI .i64)) y145.Res, .d (kL (kI .i64)) y145.Pc], .row 460000 5 kU y207.1, .box 6 105 [.o 6, .v 460000]]) (out' := .d (tup [(kI .i64).sig y207.2.1, (sV .nilIface)])) [(70000, 6), (70002, 5301)] [(70002, 460000)] [2, 1] [0] [2, 1, 0] rfl (strings_Builder_WriteString.ok hy207) b55 (oE1 tm (oE1 (cS (by decide)) oE0)) rfl rfl rfl rfl rfl rfl rfl rfl) (s1 rfl) <| .nil) (by kernel_rfl) ?_
                  refine pSeq ?_
                  obtain ⟨hc208, h⟩ := ib h
                  obtain ⟨y209, hy209, h⟩ := bd h
                  refine rg (cp (oMv tm) (s1 rfl) <| cp (oSAdd hc208 (cS (by decide)) tm) (s1 rfl) <| cm (oCallS (rest := [.box 8 87 [.d (kL (kI .i64)) y145.May, .d (kL (kI .i64)) y145.Res, .d (kL (kI .i64)) y145.Pc]]) (R' := [.box 8 87 [.d (kL (kI .i64)) y145.May, .d (kL (kI .i64)) y145.Res, .d (kL (kI .i64)) y145.Pc], .row 470080 5 kU y209.1, .box 6 105 [.o 6, .v 470080]]) (out' := .d (tup [(kI .i64).sig y209.2.1, (sV .nilIface)])) [(70000, 6), (70002, 460000)] [(70002, 470080)] [2, 1] [0] [2, 1, 0] rfl (strings_Builder_WriteString.ok hy209) b55 (oE1 tm (oE1 tm oE0)) rfl rfl rfl rfl rfl rfl rfl rfl) (s2 rfl rfl) <| .nil) (by kernel_rfl) ?_
                  refine pBlkN ?_
                  refine pSub (Γ' := [(6, .p 6 0), (22, .d ((kL (kR f_api_Row)).sig a0.Rows)), (23, .d ((kI .i64).sig (a0.Rows.length : Int))), (24, .d ((kI .i64).sig v142)), (40, .d ((kL (kL (kI .i64))).sig ([y145.May, y145.Res, y145.Pc] : List (List Int)))), (41, .d ((kI .i64).sig (([y145.May, y145.Res, y145.Pc] : List (List Int)).length : Int))), (42, .d ((kI .i64).sig v190))]) ⟨rfl, rfl, rfl, rfl, rfl, rfl, rfl, trivial⟩ ?_
                  refine pRen 470080 5301 rfl ?_
                  exact pJ1 _ (so h) ⟨rfl, rfl, rfl, rfl, rfl, rfl, rfl, trivial⟩ rfl
                · refine wCF hp206 tm (s1 rfl) ?_
                  refine wSkip ?_
                  refine pSeq ?_
                  obtain ⟨hc210, h⟩ := ib h
                  obtain ⟨y211, hy211, h⟩ := bd h
                  refine rg (cp (oMv tm) (s1 rfl) <| cp (oSAdd hc210 (cS (by decide)) tm) (s1 rfl) <| cm (oCallS (rest := [.box 8 87 [.d (kL (kI .i64)) y145.May, .d (kL (kI .i64)) y145.Res, .d (kL (kI .i64)) y145.Pc]]) (R' := [.box 8 87 [.d (kL (kI .i64)) y145.May, .d (kL (kI .i64)) y145.Res, .d (kL (kI .i64)) y145.Pc], .row 470080 5 kU y211.1, .box 6 105 [.o 6, .v 470080]]) (out' := .d (tup [(kI .i64).sig y211.2.1, (sV .nilIface)])) [(70000, 6), (70002, 5301)] [(70002, 470080)] [2, 1] [0] [2, 1, 0] rfl (strings_Builder_WriteString.ok hy211) b55 (oE1 tm (oE1 tm oE0)) rfl rfl rfl rfl rfl rfl rfl rfl) (s2 rfl rfl) <| .nil) (by kernel_rfl) ?_
                  refine pBlkN ?_
                  refine pSub (Γ' := [(6, .p 6 0), (22, .d ((kL (kR f_api_Row)).sig a0.Rows)), (23, .d ((kI .i64).sig (a0.Rows.length : Int))), (24, .d ((kI .i64).sig v142)), (40, .d ((kL (kL (kI .i64))).sig ([y145.May, y145.Res, y145.Pc] : List (List Int)))), (41, .d ((kI .i64).sig (([y145.May, y145.Res, y145.Pc] : List (List Int)).length : Int))), (42, .d ((kI .i64).sig v190))]) ⟨rfl, rfl, rfl, rfl, rfl, rfl, rfl, trivial⟩ ?_
                  refine pRen 470080 5301 rfl ?_
                  exact pJ1 _ (so h) ⟨rfl, rfl, rfl, rfl, rfl, rfl, rfl, trivial⟩ rfl
              · refine wNF hp205 tm (s1 rfl) ?_
                refine wSeq ?_
                refine rg (cp (oMv tm) (s1 rfl) <| cp (oAs (cS (by decide))) trivial <| cp (oAs tm) (s1 rfl) <| .nil) (by kernel_rfl) ?_
                refine pSeq ?_
                refine wRet ?_
                refine pThenR ?_
                refine pBlkR ?_
                refine pThenR ?_
                obtain rfl := so h
                replace h := hk3
                refine pThenR ?_
                refine pBlkR ?_
                refine pThenR ?_
                obtain rfl := so h
                replace h := hk2
                refine pThenR ?_
                refine pBlkR ?_
                refine pThenR ?_
                refine pThenR ?_
                refine pBlkR ?_
                refine pThenR ?_
                obtain rfl := so h
                replace h := hk1
                refine pThenR ?_
                obtain rfl := so h
                exact pRn (.inl rfl) rfl rfl (.tmp rfl <| .tmp rfl <| .nil)
            · rintro x202 rfl
              replace h := hk3
              refine rg (cp (oAdd tm (cI (by decide))) (s1 rfl) <| cp (oMv tm) (s1 rfl) <| .nil) (by kernel_rfl) ?_
              exact pLoop (lW (ih _ _ h) ⟨rfl, rfl, rfl, rfl, rfl, rfl, rfl, trivial⟩ rfl)
          · refine wCF hp192 tm (s1 rfl) ?_
            refine wExit ?_
            refine pThenX ?_
            refine pThenX ?_
            refine pBlkX ?_
            exact pJ1 _ (so h) ⟨rfl, rfl, rfl, rfl, trivial⟩ rfl
        · rintro x191 rfl
          replace h := hk2
          refine pSeq ?_
          obtain ⟨y212, hy212, h⟩ := bd h
          refine rg (cm (oCallS (rest := [.box 8 87 [.d (kL (kI .i64)) y145.May, .d (kL (kI .i64)) y145.Res, .d (kL (kI .i64)) y145.Pc]]) (R' := [.box 8 87 [.d (kL (kI .i64)) y145.May, .d (kL (kI .i64)) y145.Res, .d (kL (kI .i64)) y145.Pc], .row 490000 5 kU y212.1, .box 6 105 [.o 6, .v 490000]]) (out' := .d (tup [(kI .i64).sig y212.2.1, (sV .nilIface)])) [(70000, 6), (70002, 5301)] [(70002, 490000)] [2, 1] [0] [2, 1, 0] rfl (strings_Builder_WriteString.ok hy212) b55 (oE1 tm (oE1 (cS (by decide)) oE0)) rfl rfl rfl rfl rfl rfl rfl rfl) (s1 rfl) <| .nil) (by kernel_rfl) ?_
          refine pBlkN ?_
          refine pSeq ?_
          refine rg (cp (oAdd tm (cI (by decide))) (s1 rfl) <| cp (oMv tm) (s1 rfl) <| .nil) (by kernel_rfl) ?_
          refine pDrop (.cons _ (.cons_cons _ (.cons_cons _ .slnil))) ?_
          refine pSub (Γ' := [(6, .p 6 0), (22, .d ((kL (kR f_api_Row)).sig a0.Rows)), (23, .d ((kI .i64).sig (a0.Rows.length : Int))), (24, .d ((kI .i64).sig (IntKind.i64.wrap (v142 + 1))))]) ⟨rfl, rfl, rfl, rfl, trivial⟩ ?_
          refine pRen 490000 5301 rfl ?_
          exact pLoop (lW (ih _ _ h) ⟨rfl, rfl, rfl, rfl, trivial⟩ rfl)
      · refine wCF hp144 tm (s1 rfl) ?_
        refine wExit ?_
        refine pThenX ?_
        refine pThenX ?_
        refine pBlkX ?_
        exact pJ1 _ (so h) ⟨rfl, trivial⟩ rfl
    · rintro x143 rfl
      replace h := hk1
      refine pSeq ?_
      refine wSeq ?_
      obtain ⟨y213, hy213, h⟩ := bd h
      refine rg (cw (oBS (n := 1) (m := 0) bldStr hy213 rfl rfl tm) (s1 rfl) <| cp (oAs tm) (s1 rfl) <| cp (oAs (cI (by decide))) trivial <| .nil) (by kernel_rfl) ?_
      refine pSeq ?_
      refine wRet ?_
      obtain rfl := so h
      exact pRn (.inl rfl) rfl rfl (.tmp rfl <| .tmp rfl <| .nil)
  · refine wNF hp2 tm (s1 rfl) ?_
    refine wSeq ?_
    refine rg (cp (oMv tm) (s1 rfl) <| cp (oAs (cS (by decide))) trivial <| cp (oAs tm) (s1 rfl) <| .nil) (by kernel_rfl) ?_
    refine pSeq ?_
    refine wRet ?_
    refine pThenR ?_
    obtain rfl := so h
    exact pRn (.inl rfl) rfl rfl (.tmp rfl <| .tmp rfl <| .nil)

theorem reticentlaw06_alive.ok {r : Bool} (h : reticentlaw06_alive.f = some r) : FnA Tryd.prog 15 [] (kB.sig r) := by
  refine fnIntro Tryd.func15 rfl (by kernel_rfl) fun H0 w0 => ?_
  unfold reticentlaw06_alive.f at h
  refine wSeq ?_
  refine rg (cp (oAs cB) trivial <| .nil) (by kernel_rfl) ?_
  refine pSeq ?_
  refine wSeq ?_
  obtain ⟨y1, hy1, h⟩ := bd h
  obtain ⟨y2, hy2, h⟩ := bd h
  refine rg (cp (oCall rfl (table_Usual.ok hy1) b20 opds_nil) trivial <| cp (oCall rfl (table_Text.ok hy2) b13 (opds_cons tm opds_nil)) (s1 rfl) <| cp (oMv tm) (s1 rfl) <| cp (oExt (k := 0) rfl tm) (s1 rfl) <| cp (oExt (k := 1) rfl tm) (s1 rfl) <| cp (oAs tm) (s1 rfl) <| cp (oAs tm) (s1 rfl) <| .nil) (by kernel_rfl) ?_
  refine pSeq ?_
  obtain ⟨o1, h, hk1⟩ := bd h
  refine wJ1 (fun x6 => x6 = o1) (fun x6 => [(0, .d (kB.sig x6))]) (fun x6 => []) ?_ ?_
  · rcases ic h with ⟨hp7, h⟩ | ⟨hp7, h⟩
    · rcases ic h with ⟨hp8, h⟩ | ⟨hp8, h⟩
      · obtain ⟨y9, hy9, h⟩ := bd h
        refine rg (cp (oMv tm) (s1 rfl) <| cp (oEq rfl tm (cI (by decide))) (s1 rfl) <| cp (oMv tm) (s1 rfl) <| cgB (decide_eq_true hp7) rfl rfl (oMv tm) (s1 rfl) <| cgB (decide_eq_true hp7) rfl rfl (oLenS u9 tm) (s1 rfl) <| cgB (decide_eq_true hp7) rfl rfl (oGt rfl tm (cI (by decide))) (s1 rfl) <| cp (oPkT (decide_eq_true hp7) tm tm) (s2 rfl rfl) <| cp (oMv tm) (s1 rfl) <| cgB (decide_eq_true hp8) rfl rfl (oMv tm) (s1 rfl) <| cgB (decide_eq_true hp8) rfl rfl (oCall rfl (libContains (.head _) Tryd.strings_Contains hy9) b59 (opds_cons tm (opds_cons (cS (by decide)) opds_nil))) (s1 rfl) <| cp (oPkT (decide_eq_true hp8) tm tm) (s2 rfl rfl) <| cp (oAs tm) (s1 rfl) <| .nil) (by kernel_rfl) ?_
        exact pJ1 _ (so h) ⟨rfl, trivial⟩ rfl
      · refine rg (cp (oMv tm) (s1 rfl) <| cp (oEq rfl tm (cI (by decide))) (s1 rfl) <| cp (oMv tm) (s1 rfl) <| cgB (decide_eq_true hp7) rfl rfl (oMv tm) (s1 rfl) <| cgB (decide_eq_true hp7) rfl rfl (oLenS u9 tm) (s1 rfl) <| cgB (decide_eq_true hp7) rfl rfl (oGt rfl tm (cI (by decide))) (s1 rfl) <| cp (oPkT (decide_eq_true hp7) tm tm) (s2 rfl rfl) <| cp (oMv tm) (s1 rfl) <| csB (decide_eq_false hp8) rfl rfl <| csB (decide_eq_false hp8) rfl rfl <| cp (oPkF (decide_eq_false hp8) tm cB) (s1 rfl) <| cp (oAs tm) (s1 rfl) <| .nil) (by kernel_rfl) ?_
        exact pJ1 _ (so h) ⟨rfl, trivial⟩ rfl
    · refine rg (cp (oMv tm) (s1 rfl) <| cp (oEq rfl tm (cI (by decide))) (s1 rfl) <| cp (oMv tm) (s1 rfl) <| csB (decide_eq_false hp7) rfl rfl <| csB (decide_eq_false hp7) rfl rfl <| csB (decide_eq_false hp7) rfl rfl <| cp (oPkF (decide_eq_false hp7) tm cB) (s1 rfl) <| cp (oMv tm) (s1 rfl) <| csB rfl rfl rfl <| csB rfl rfl rfl <| cp (oPkF rfl tm cB) (s1 rfl) <| cp (oAs tm) (s1 rfl) <| .nil) (by kernel_rfl) ?_
      exact pJ1 _ (so h) ⟨rfl, trivial⟩ rfl
  · rintro x6 rfl
    replace h := hk1
    refine wRet ?_
    obtain rfl := so h
    exact pR1 (.inl rfl) rfl (.tmp rfl <| .nil)

theorem reticentlaw06_TableNames.ok {a0 : Int} {a1 : api_Table} {a2 : api_Table} {r : Bool} (h : reticentlaw06_TableNames.f a0 a1 a2 = some r) : FnA Tryd.prog 4 [(kI .i64).sig a0, (kR f_api_Table).sig a1, (kR f_api_Table).sig a2] (kB.sig r) := by
  refine fnIntro Tryd.func4 rfl (by kernel_rfl) fun H0 w0 => ?_
  unfold reticentlaw06_TableNames.f at h
  refine wSeq ?_
  refine rg (cw (oBoxS (id := 4) (fs := f_api_Table) tm) (s1 rfl) <| cw (oBoxS (id := 5) (fs := f_api_Table) tm) (s1 rfl) <| cp (oAs cB) trivial <| .nil) (by kernel_rfl) ?_
  refine pSeq ?_
  refine wSeq ?_
  obtain ⟨y1, hy1, h⟩ := bd h
  obtain ⟨y2, hy2, h⟩ := bd h
  refine rgD hm (cr (oLdA (n := 1) (fs := f_api_Table) (u := ⟨a1.Rows⟩) rfl ⟨rfl, trivial⟩ t24 tm) (s1 rfl) <| cp (oCall rfl (reticentlaw06_few.ok hy1) b11 (opds_cons tm opds_nil)) (s1 rfl) <| cr (oLdA (n := 0) (fs := f_api_Table) (u := ⟨a2.Rows⟩) rfl ⟨rfl, trivial⟩ t24 tm) (s1 rfl) <| cp (oCall rfl (reticentlaw06_few.ok hy2) b11 (opds_cons tm opds_nil)) (s1 rfl) <| cwn (oStA (n := 1) (fs := f_api_Table) rfl rfl z24 tm tm) (s2 rfl rfl) <| cwn (oStA (n := 0) (fs := f_api_Table) rfl rfl z24 tm tm) (s2 rfl rfl) <| .nil) (by kernel_rfl) (by kernel_rfl) ?_
  refine pSeq ?_
  refine wSeq ?_
  obtain ⟨y3, hy3, h⟩ := bd h
  refine rg (cp (oMv tm) (s1 rfl) <| cp (oCall rfl (table_Name.ok hy3) b17 (opds_cons tm opds_nil)) (s1 rfl) <| cp (oMv tm) (s1 rfl) <| cp (oExt (k := 0) rfl tm) (s1 rfl) <| cp (oExt (k := 1) rfl tm) (s1 rfl) <| cp (oAs tm) (s1 rfl) <| cp (oAs tm) (s1 rfl) <| .nil) (by kernel_rfl) ?_
  refine pSeq ?_
  refine wSeq ?_
  obtain ⟨y4, hy4, h⟩ := bd h
  refine rg (cp (oMv tm) (s1 rfl) <| cp (oCall rfl (table_Arity.ok hy4) b18 (opds_cons tm opds_nil)) (s1 rfl) <| cp (oMv tm) (s1 rfl) <| cp (oExt (k := 0) rfl tm) (s1 rfl) <| cp (oExt (k := 1) rfl tm) (s1 rfl) <| cp (oAs tm) (s1 rfl) <| cp (oAs tm) (s1 rfl) <| .nil) (by kernel_rfl) ?_
  refine pSeq ?_
  refine wSeq ?_
  obtain ⟨o1, h, hk1⟩ := bd h
  refine wJ1 (fun x16 => x16 = o1) (fun x16 => [(0, .d ((kI .i64).sig a0)), (7, .d (kS.sig y3.1)), (8, .d ((kI .i64).sig y3.2)), (9, .d ((kI .i64).sig y4.1)), (10, .d ((kI .i64).sig y4.2)), (49, .d (kB.sig x16))]) (fun x16 => [.box 5 24 [.d (kL (kR f_api_Row)) y2.Rows], .box 4 24 [.d (kL (kR f_api_Row)) y1.Rows]]) ?_ ?_
  · obtain ⟨y17, hy17, h⟩ := bd h
    obtain ⟨y18, hy18, h⟩ := bd h
    obtain ⟨y19, hy19, h⟩ := bd h
    obtain ⟨y20, hy20, h⟩ := bd h
    rcases ic h with ⟨hp21, h⟩ | ⟨hp21, h⟩
    · refine rgD hm (cp (oCall rfl (table_Usual.ok hy17) b20 opds_nil) trivial <| cp (oCall rfl (reticentref06_Usual.ok hy18) b22 opds_nil) trivial <| cp (oCall rfl (reticentref06_Parse.ok hy19) b21 (opds_cons tm opds_nil)) (s1 rfl) <| cp (oField (fs := f_reticentref06_R) (k := 0) rfl ff41_0 t24 tm) (s1 rfl) <| cp (oCall rfl (table_Like.ok hy20) b19 (opds_cons tm (opds_cons tm opds_nil))) (s2 rfl rfl) <| cp (oNot tm) (s1 rfl) <| cp (oMv tm) (s1 rfl) <| csB hp21 rfl rfl <| csB hp21 rfl rfl <| csB hp21 rfl rfl <| csB hp21 rfl rfl <| csB hp21 rfl rfl <| csB hp21 rfl rfl <| csB hp21 rfl rfl <| cp (oPkT hp21 tm cB) (s1 rfl) <| cp (oMv tm) (s1 rfl) <| csB rfl rfl rfl <| csB rfl rfl rfl <| csB rfl rfl rfl <| csB rfl rfl rfl <| cp (oPkT rfl tm cB) (s1 rfl) <| cp (oMv tm) (s1 rfl) <| csB rfl rfl rfl <| csB rfl rfl rfl <| cp (oPkT rfl tm cB) (s1 rfl) <| .nil) (by kernel_rfl) (by kernel_rfl) ?_
      exact pJ1 _ (so h) ⟨rfl, rfl, rfl, rfl, rfl, rfl, trivial⟩ rfl
    · obtain ⟨y22, hy22, h⟩ := bd h
      obtain ⟨y23, hy23, h⟩ := bd h
      rcases ic h with ⟨hp24, h⟩ | ⟨hp24, h⟩
      · obtain ⟨y25, hy25, h⟩ := bd h
        rcases ic h with ⟨hp26, h⟩ | ⟨hp26, h⟩
        · refine rgD hm (cp (oCall rfl (table_Usual.ok hy17) b20 opds_nil) trivial <| cp (oCall rfl (reticentref06_Usual.ok hy18) b22 opds_nil) trivial <| cp (oCall rfl (reticentref06_Parse.ok hy19) b21 (opds_cons tm opds_nil)) (s1 rfl) <| cp (oField (fs := f_reticentref06_R) (k := 0) rfl ff41_0 t24 tm) (s1 rfl) <| cp (oCall rfl (table_Like.ok hy20) b19 (opds_cons tm (opds_cons tm opds_nil))) (s2 rfl rfl) <| cp (oNot tm) (s1 rfl) <| cp (oMv tm) (s1 rfl) <| crgB (nb hp21) rfl rfl (oLdA (n := 1) (fs := f_api_Table) (u := ⟨y1.Rows⟩) rfl ⟨rfl, trivial⟩ t24 tm) (s1 rfl) <| crgB (nb hp21) rfl rfl (oLdA (n := 0) (fs := f_api_Table) (u := ⟨y2.Rows⟩) rfl ⟨rfl, trivial⟩ t24 tm) (s1 rfl) <| cgB (nb hp21) rfl rfl (oCall rfl (table_Like.ok hy22) b19 (opds_cons tm (opds_cons tm opds_nil))) (s2 rfl rfl) <| crgB (nb hp21) rfl rfl (oLdA (n := 1) (fs := f_api_Table) (u := ⟨y1.Rows⟩) rfl ⟨rfl, trivial⟩ t24 tm) (s1 rfl) <| crgB (nb hp21) rfl rfl (oLdA (n := 0) (fs := f_api_Table) (u := ⟨y2.Rows⟩) rfl ⟨rfl, trivial⟩ t24 tm) (s1 rfl) <| cgB (nb hp21) rfl rfl (oCall rfl (reticentref06_Like.ok hy23) b23 (opds_cons tm (opds_cons tm opds_nil))) (s2 rfl rfl) <| cgB (nb hp21) rfl rfl (oBNe u4 rfl tm tm) (s2 rfl rfl) <| cp (oPkF (nb hp21) tm tm) (s2 rfl rfl) <| cp (oMv tm) (s1 rfl) <| crgB (nf hp24) rfl rfl (oLdA (n := 1) (fs := f_api_Table) (u := ⟨y1.Rows⟩) rfl ⟨rfl, trivial⟩ t24 tm) (s1 rfl) <| crgB (nf hp24) rfl rfl (oLdA (n := 1) (fs := f_api_Table) (u := ⟨y1.Rows⟩) rfl ⟨rfl, trivial⟩ t24 tm) (s1 rfl) <| cgB (nf hp24) rfl rfl (oCall rfl (table_Like.ok hy25) b19 (opds_cons tm (opds_cons tm opds_nil))) (s2 rfl rfl) <| cgB (nf hp24) rfl rfl (oNot tm) (s1 rfl) <| cp (oPkF (nf hp24) tm tm) (s2 rfl rfl) <| cp (oMv tm) (s1 rfl) <| csB hp26 rfl rfl <| csB hp26 rfl rfl <| cp (oPkT hp26 tm cB) (s1 rfl) <| .nil) (by kernel_rfl) (by kernel_rfl) ?_
          exact pJ1 _ (so h) ⟨rfl, rfl, rfl, rfl, rfl, rfl, trivial⟩ rfl
        · obtain ⟨y27, hy27, h⟩ := bd h
          refine rgD hm (cp (oCall rfl (table_Usual.ok hy17) b20 opds_nil) trivial <| cp (oCall rfl (reticentref06_Usual.ok hy18) b22 opds_nil) trivial <| cp (oCall rfl (reticentref06_Parse.ok hy19) b21 (opds_cons tm opds_nil)) (s1 rfl) <| cp (oField (fs := f_reticentref06_R) (k := 0) rfl ff41_0 t24 tm) (s1 rfl) <| cp (oCall rfl (table_Like.ok hy20) b19 (opds_cons tm (opds_cons tm opds_nil))) (s2 rfl rfl) <| cp (oNot tm) (s1 rfl) <| cp (oMv tm) (s1 rfl) <| crgB (nb hp21) rfl rfl (oLdA (n := 1) (fs := f_api_Table) (u := ⟨y1.Rows⟩) rfl ⟨rfl, trivial⟩ t24 tm) (s1 rfl) <| crgB (nb hp21) rfl rfl (oLdA (n := 0) (fs := f_api_Table) (u := ⟨y2.Rows⟩) rfl ⟨rfl, trivial⟩ t24 tm) (s1 rfl) <| cgB (nb hp21) rfl rfl (oCall rfl (table_Like.ok hy22) b19 (opds_cons tm (opds_cons tm opds_nil))) (s2 rfl rfl) <| crgB (nb hp21) rfl rfl (oLdA (n := 1) (fs := f_api_Table) (u := ⟨y1.Rows⟩) rfl ⟨rfl, trivial⟩ t24 tm) (s1 rfl) <| crgB (nb hp21) rfl rfl (oLdA (n := 0) (fs := f_api_Table) (u := ⟨y2.Rows⟩) rfl ⟨rfl, trivial⟩ t24 tm) (s1 rfl) <| cgB (nb hp21) rfl rfl (oCall rfl (reticentref06_Like.ok hy23) b23 (opds_cons tm (opds_cons tm opds_nil))) (s2 rfl rfl) <| cgB (nb hp21) rfl rfl (oBNe u4 rfl tm tm) (s2 rfl rfl) <| cp (oPkF (nb hp21) tm tm) (s2 rfl rfl) <| cp (oMv tm) (s1 rfl) <| crgB (nf hp24) rfl rfl (oLdA (n := 1) (fs := f_api_Table) (u := ⟨y1.Rows⟩) rfl ⟨rfl, trivial⟩ t24 tm) (s1 rfl) <| crgB (nf hp24) rfl rfl (oLdA (n := 1) (fs := f_api_Table) (u := ⟨y1.Rows⟩) rfl ⟨rfl, trivial⟩ t24 tm) (s1 rfl) <| cgB (nf hp24) rfl rfl (oCall rfl (table_Like.ok hy25) b19 (opds_cons tm (opds_cons tm opds_nil))) (s2 rfl rfl) <| cgB (nf hp24) rfl rfl (oNot tm) (s1 rfl) <| cp (oPkF (nf hp24) tm tm) (s2 rfl rfl) <| cp (oMv tm) (s1 rfl) <| cgB (nb hp26) rfl rfl (oCall rfl (reticentlaw06_alive.ok hy27) b15 opds_nil) trivial <| cgB (nb hp26) rfl rfl (oNot tm) (s1 rfl) <| cp (oPkF (nb hp26) tm tm) (s2 rfl rfl) <| .nil) (by kernel_rfl) (by kernel_rfl) ?_
          exact pJ1 _ (so h) ⟨rfl, rfl, rfl, rfl, rfl, rfl, trivial⟩ rfl
      · refine rgD hm (cp (oCall rfl (table_Usual.ok hy17) b20 opds_nil) trivial <| cp (oCall rfl (reticentref06_Usual.ok hy18) b22 opds_nil) trivial <| cp (oCall rfl (reticentref06_Parse.ok hy19) b21 (opds_cons tm opds_nil)) (s1 rfl) <| cp (oField (fs := f_reticentref06_R) (k := 0) rfl ff41_0 t24 tm) (s1 rfl) <| cp (oCall rfl (table_Like.ok hy20) b19 (opds_cons tm (opds_cons tm opds_nil))) (s2 rfl rfl) <| cp (oNot tm) (s1 rfl) <| cp (oMv tm) (s1 rfl) <| crgB (nb hp21) rfl rfl (oLdA (n := 1) (fs := f_api_Table) (u := ⟨y1.Rows⟩) rfl ⟨rfl, trivial⟩ t24 tm) (s1 rfl) <| crgB (nb hp21) rfl rfl (oLdA (n := 0) (fs := f_api_Table) (u := ⟨y2.Rows⟩) rfl ⟨rfl, trivial⟩ t24 tm) (s1 rfl) <| cgB (nb hp21) rfl rfl (oCall rfl (table_Like.ok hy22) b19 (opds_cons tm (opds_cons tm opds_nil))) (s2 rfl rfl) <| crgB (nb hp21) rfl rfl (oLdA (n := 1) (fs := f_api_Table) (u := ⟨y1.Rows⟩) rfl ⟨rfl, trivial⟩ t24 tm) (s1 rfl) <| crgB (nb hp21) rfl rfl (oLdA (n := 0) (fs := f_api_Table) (u := ⟨y2.Rows⟩) rfl ⟨rfl, trivial⟩ t24 tm) (s1 rfl) <| cgB (nb hp21) rfl rfl (oCall rfl (reticentref06_Like.ok hy23) b23 (opds_cons tm (opds_cons tm opds_nil))) (s2 rfl rfl) <| cgB (nb hp21) rfl rfl (oBNe u4 rfl tm tm) (s2 rfl rfl) <| cp (oPkF (nb hp21) tm tm) (s2 rfl rfl) <| cp (oMv tm) (s1 rfl) <| csB (nt hp24) rfl rfl <| csB (nt hp24) rfl rfl <| csB (nt hp24) rfl rfl <| csB (nt hp24) rfl rfl <| cp (oPkT (nt hp24) tm cB) (s1 rfl) <| cp (oMv tm) (s1 rfl) <| csB rfl rfl rfl <| csB rfl rfl rfl <| cp (oPkT rfl tm cB) (s1 rfl) <| .nil) (by kernel_rfl) (by kernel_rfl) ?_
        exact pJ1 _ (so h) ⟨rfl, rfl, rfl, rfl, rfl, rfl, trivial⟩ rfl
  · rintro x16 rfl
    replace h := hk1
    rcases ic h with ⟨hp28, h⟩ | ⟨hp28, h⟩
    · refine wBT hp28 tm (s1 rfl) ?_
      refine wSeq ?_
      refine rg (cp (oAs cB) trivial <| .nil) (by kernel_rfl) ?_
      refine pSeq ?_
      refine wRet ?_
      refine pThenR ?_
      obtain rfl := so h
      exact pR1 (.inl rfl) rfl (.tmp rfl <| .nil)
    · refine wBF hp28 tm (s1 rfl) ?_
      refine wSkip ?_
      refine pSeq ?_
      refine wSeq ?_
      obtain ⟨o1, h, hk1⟩ := bd h
      refine wJ1 (fun x30 => x30 = o1) (fun x30 => [(0, .d ((kI .i64).sig a0)), (7, .d (kS.sig y3.1)), (8, .d ((kI .i64).sig y3.2)), (9, .d ((kI .i64).sig y4.1)), (10, .d ((kI .i64).sig y4.2)), (55, .d (kB.sig x30))]) (fun x30 => [.box 5 24 [.d (kL (kR f_api_Row)) y2.Rows], .box 4 24 [.d (kL (kR f_api_Row)) y1.Rows]]) ?_ ?_
      · rcases ic h with ⟨hp31, h⟩ | ⟨hp31, h⟩
        · refine rg (cp (oMv tm) (s1 rfl) <| cp (oLt rfl tm (cI (by decide))) (s1 rfl) <| cp (oMv tm) (s1 rfl) <| csB (decide_eq_true hp31) rfl rfl <| csB (decide_eq_true hp31) rfl rfl <| cp (oPkT (decide_eq_true hp31) tm cB) (s1 rfl) <| .nil) (by kernel_rfl) ?_
          exact pJ1 _ (so h) ⟨rfl, rfl, rfl, rfl, rfl, rfl, trivial⟩ rfl
        · refine rg (cp (oMv tm) (s1 rfl) <| cp (oLt rfl tm (cI (by decide))) (s1 rfl) <| cp (oMv tm) (s1 rfl) <| cgB (decide_eq_false hp31) rfl rfl (oMv tm) (s1 rfl) <| cgB (decide_eq_false hp31) rfl rfl (oGt rfl tm (cI (by decide))) (s1 rfl) <| cp (oPkF (decide_eq_false hp31) tm tm) (s2 rfl rfl) <| .nil) (by kernel_rfl) ?_
          exact pJ1 _ (so h) ⟨rfl, rfl, rfl, rfl, rfl, rfl, trivial⟩ rfl
      · rintro x30 rfl
        replace h := hk1
        rcases ic h with ⟨hp32, h⟩ | ⟨hp32, h⟩
        · refine wBT hp32 tm (s1 rfl) ?_
          obtain ⟨o1, h, hk1⟩ := bd h
          refine wJ1 (fun x36 => x36 = o1) (fun x36 => [(6, .d (kB.sig x36))]) (fun x36 => [.box 5 24 [.d (kL (kR f_api_Row)) y2.Rows], .box 4 24 [.d (kL (kR f_api_Row)) y1.Rows]]) ?_ ?_
          · rcases ic h with ⟨hp37, h⟩ | ⟨hp37, h⟩
            · rcases ic h with ⟨hp38, h⟩ | ⟨hp38, h⟩
              · rcases ic h with ⟨hp39, h⟩ | ⟨hp39, h⟩
                · refine rg (cp (oMv tm) (s1 rfl) <| cp (oEq rfl tm (cI (by decide))) (s1 rfl) <| cp (oMv tm) (s1 rfl) <| cgB (decide_eq_true hp37) rfl rfl (oMv tm) (s1 rfl) <| cgB (decide_eq_true hp37) rfl rfl (oEq rfl tm (cI (by decide))) (s1 rfl) <| cp (oPkT (decide_eq_true hp37) tm tm) (s2 rfl rfl) <| cp (oMv tm) (s1 rfl) <| cgB (decide_eq_true hp38) rfl rfl (oMv tm) (s1 rfl) <| cgB (decide_eq_true hp38) rfl rfl (oSEq rfl tm (cS (by decide))) (s1 rfl) <| cp (oPkT (decide_eq_true hp38) tm tm) (s2 rfl rfl) <| cp (oMv tm) (s1 rfl) <| cgB (decide_eq_true hp39) rfl rfl (oMv tm) (s1 rfl) <| cgB (decide_eq_true hp39) rfl rfl (oEq rfl tm (cI (by decide))) (s1 rfl) <| cp (oPkT (decide_eq_true hp39) tm tm) (s2 rfl rfl) <| cp (oAs tm) (s1 rfl) <| .nil) (by kernel_rfl) ?_
                  exact pJ1 _ (so h) ⟨rfl, trivial⟩ rfl
                · refine rg (cp (oMv tm) (s1 rfl) <| cp (oEq rfl tm (cI (by decide))) (s1 rfl) <| cp (oMv tm) (s1 rfl) <| cgB (decide_eq_true hp37) rfl rfl (oMv tm) (s1 rfl) <| cgB (decide_eq_true hp37) rfl rfl (oEq rfl tm (cI (by decide))) (s1 rfl) <| cp (oPkT (decide_eq_true hp37) tm tm) (s2 rfl rfl) <| cp (oMv tm) (s1 rfl) <| cgB (decide_eq_true hp38) rfl rfl (oMv tm) (s1 rfl) <| cgB (decide_eq_true hp38) rfl rfl (oSEq rfl tm (cS (by decide))) (s1 rfl) <| cp (oPkT (decide_eq_true hp38) tm tm) (s2 rfl rfl) <| cp (oMv tm) (s1 rfl) <| csB (decide_eq_false hp39) rfl rfl <| csB (decide_eq_false hp39) rfl rfl <| cp (oPkF (decide_eq_false hp39) tm cB) (s1 rfl) <| cp (oAs tm) (s1 rfl) <| .nil) (by kernel_rfl) ?_
                  exact pJ1 _ (so h) ⟨rfl, trivial⟩ rfl
              · refine rg (cp (oMv tm) (s1 rfl) <| cp (oEq rfl tm (cI (by decide))) (s1 rfl) <| cp (oMv tm) (s1 rfl) <| cgB (decide_eq_true hp37) rfl rfl (oMv tm) (s1 rfl) <| cgB (decide_eq_true hp37) rfl rfl (oEq rfl tm (cI (by decide))) (s1 rfl) <| cp (oPkT (decide_eq_true hp37) tm tm) (s2 rfl rfl) <| cp (oMv tm) (s1 rfl) <| csB (decide_eq_false hp38) rfl rfl <| csB (decide_eq_false hp38) rfl rfl <| cp (oPkF (decide_eq_false hp38) tm cB) (s1 rfl) <| cp (oMv tm) (s1 rfl) <| csB rfl rfl rfl <| csB rfl rfl rfl <| cp (oPkF rfl tm cB) (s1 rfl) <| cp (oAs tm) (s1 rfl) <| .nil) (by kernel_rfl) ?_
                exact pJ1 _ (so h) ⟨rfl, trivial⟩ rfl
            · refine rg (cp (oMv tm) (s1 rfl) <| cp (oEq rfl tm (cI (by decide))) (s1 rfl) <| cp (oMv tm) (s1 rfl) <| csB (decide_eq_false hp37) rfl rfl <| csB (decide_eq_false hp37) rfl rfl <| cp (oPkF (decide_eq_false hp37) tm cB) (s1 rfl) <| cp (oMv tm) (s1 rfl) <| csB rfl rfl rfl <| csB rfl rfl rfl <| cp (oPkF rfl tm cB) (s1 rfl) <| cp (oMv tm) (s1 rfl) <| csB rfl rfl rfl <| csB rfl rfl rfl <| cp (oPkF rfl tm cB) (s1 rfl) <| cp (oAs tm) (s1 rfl) <| .nil) (by kernel_rfl) ?_
              exact pJ1 _ (so h) ⟨rfl, trivial⟩ rfl
          · rintro x36 rfl
            replace h := hk1
            refine wRet ?_
            refine pThenR ?_
            obtain rfl := so h
            exact pR1 (.inl rfl) rfl (.tmp rfl <| .nil)
        · refine wBF hp32 tm (s1 rfl) ?_
          refine wSkip ?_
          refine pSeq ?_
          obtain ⟨o1, h, hk1⟩ := bd h
          refine wJ1 (fun x45 => x45 = o1) (fun x45 => [(6, .d (kB.sig x45))]) (fun x45 => [.box 5 24 [.d (kL (kR f_api_Row)) y2.Rows], .box 4 24 [.d (kL (kR f_api_Row)) y1.Rows]]) ?_ ?_
          · rcases ic h with ⟨hp46, h⟩ | ⟨hp46, h⟩
            · rcases ic h with ⟨hp47, h⟩ | ⟨hp47, h⟩
              · obtain ⟨y48, hy48, h⟩ := bd h
                rcases ic h with ⟨hp49, h⟩ | ⟨hp49, h⟩
                · obtain ⟨y50, hy50, h⟩ := bd h
                  refine rg (cp (oMv tm) (s1 rfl) <| cp (oEq rfl tm (cI (by decide))) (s1 rfl) <| cp (oMv tm) (s1 rfl) <| cgB (decide_eq_true hp46) rfl rfl (oMv tm) (s1 rfl) <| cgB (decide_eq_true hp46) rfl rfl (oEq rfl tm (cI (by decide))) (s1 rfl) <| cp (oPkT (decide_eq_true hp46) tm tm) (s2 rfl rfl) <| cp (oMv tm) (s1 rfl) <| cgB (decide_eq_true hp47) rfl rfl (oMv tm) (s1 rfl) <| cgB (decide_eq_true hp47) rfl rfl (oMv tm) (s1 rfl) <| cgB (decide_eq_true hp47) rfl rfl (oCall rfl (reticentref06_Word.ok hy48) b24 (opds_cons tm opds_nil)) (s1 rfl) <| cgB (decide_eq_true hp47) rfl rfl (oSEq rfl tm tm) (s2 rfl rfl) <| cp (oPkT (decide_eq_true hp47) tm tm) (s2 rfl rfl) <| cp (oMv tm) (s1 rfl) <| cgB (decide_eq_true hp49) rfl rfl (oMv tm) (s1 rfl) <| cgB (decide_eq_true hp49) rfl rfl (oMv tm) (s1 rfl) <| cgB (decide_eq_true hp49) rfl rfl (oCall rfl (reticentref06_Arity.ok hy50) b25 (opds_cons tm opds_nil)) (s1 rfl) <| cgB (decide_eq_true hp49) rfl rfl (oEq rfl tm tm) (s2 rfl rfl) <| cp (oPkT (decide_eq_true hp49) tm tm) (s2 rfl rfl) <| cp (oAs tm) (s1 rfl) <| .nil) (by kernel_rfl) ?_
                  exact pJ1 _ (so h) ⟨rfl, trivial⟩ rfl
                · refine rg (cp (oMv tm) (s1 rfl) <| cp (oEq rfl tm (cI (by decide))) (s1 rfl) <| cp (oMv tm) (s1 rfl) <| cgB (decide_eq_true hp46) rfl rfl (oMv tm) (s1 rfl) <| cgB (decide_eq_true hp46) rfl rfl (oEq rfl tm (cI (by decide))) (s1 rfl) <| cp (oPkT (decide_eq_true hp46) tm tm) (s2 rfl rfl) <| cp (oMv tm) (s1 rfl) <| cgB (decide_eq_true hp47) rfl rfl (oMv tm) (s1 rfl) <| cgB (decide_eq_true hp47) rfl rfl (oMv tm) (s1 rfl) <| cgB (decide_eq_true hp47) rfl rfl (oCall rfl (reticentref06_Word.ok hy48) b24 (opds_cons tm opds_nil)) (s1 rfl) <| cgB (decide_eq_true hp47) rfl rfl (oSEq rfl tm tm) (s2 rfl rfl) <| cp (oPkT (decide_eq_true hp47) tm tm) (s2 rfl rfl) <| cp (oMv tm) (s1 rfl) <| csB (decide_eq_false hp49) rfl rfl <| csB (decide_eq_false hp49) rfl rfl <| csB (decide_eq_false hp49) rfl rfl <| csB (decide_eq_false hp49) rfl rfl <| cp (oPkF (decide_eq_false hp49) tm cB) (s1 rfl) <| cp (oAs tm) (s1 rfl) <| .nil) (by kernel_rfl) ?_
                  exact pJ1 _ (so h) ⟨rfl, trivial⟩ rfl
              · refine rg (cp (oMv tm) (s1 rfl) <| cp (oEq rfl tm (cI (by decide))) (s1 rfl) <| cp (oMv tm) (s1 rfl) <| cgB (decide_eq_true hp46) rfl rfl (oMv tm) (s1 rfl) <| cgB (decide_eq_true hp46) rfl rfl (oEq rfl tm (cI (by decide))) (s1 rfl) <| cp (oPkT (decide_eq_true hp46) tm tm) (s2 rfl rfl) <| cp (oMv tm) (s1 rfl) <| csB (decide_eq_false hp47) rfl rfl <| csB (decide_eq_false hp47) rfl rfl <| csB (decide_eq_false hp47) rfl rfl <| csB (decide_eq_false hp47) rfl rfl <| cp (oPkF (decide_eq_false hp47) tm cB) (s1 rfl) <| cp (oMv tm) (s1 rfl) <| csB rfl rfl rfl <| csB rfl rfl rfl <| csB rfl rfl rfl <| csB rfl rfl rfl <| cp (oPkF rfl tm cB) (s1 rfl) <| cp (oAs tm) (s1 rfl) <| .nil) (by kernel_rfl) ?_
                exact pJ1 _ (so h) ⟨rfl, trivial⟩ rfl
            · refine rg (cp (oMv tm) (s1 rfl) <| cp (oEq rfl tm (cI (by decide))) (s1 rfl) <| cp (oMv tm) (s1 rfl) <| csB (decide_eq_false hp46) rfl rfl <| csB (decide_eq_false hp46) rfl rfl <| cp (oPkF (decide_eq_false hp46) tm cB) (s1 rfl) <| cp (oMv tm) (s1 rfl) <| csB rfl rfl rfl <| csB rfl rfl rfl <| csB rfl rfl rfl <| csB rfl rfl rfl <| cp (oPkF rfl tm cB) (s1 rfl) <| cp (oMv tm) (s1 rfl) <| csB rfl rfl rfl <| csB rfl rfl rfl <| csB rfl rfl rfl <| csB rfl rfl rfl <| cp (oPkF rfl tm cB) (s1 rfl) <| cp (oAs tm) (s1 rfl) <| .nil) (by kernel_rfl) ?_
              exact pJ1 _ (so h) ⟨rfl, trivial⟩ rfl
          · rintro x45 rfl
            replace h := hk1
            refine wRet ?_
            obtain rfl := so h
            exact pR1 (.inl rfl) rfl (.tmp rfl <| .nil)

end Go.Proofs.YtjkijjhjffodcaaDoor.TN
