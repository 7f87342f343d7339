import Derived.Test.YtkcpghpglhamfaaGreatDoorShelf
import Derived.Test.YtkcpghpglhamfaaGreatDoorWSKp2
import Derived.Test.YtkcpghpglhamfaaGreatDoorProg
set_option linter.unusedVariables false
set_option maxRecDepth 10000
set_option maxHeartbeats 2000000
namespace Go.Proofs.YtkcpghpglhamfaaGreatDoor.SK
open Go Go.Proofs.YtkcpghpglhamfaaGreatDoor.Ab

theorem state_Parse.ok {a0 : api_Lattice} {a1 : Str} {r : api_State × Int × Int} (h : state_Parse.f a0 a1 = some r) : FnA Tryz.prog 8 [(kR f_api_Lattice).sig a0, kS.sig a1] (tup [(kR f_api_State).sig r.1, (kI .i64).sig r.2.1, (kI .i64).sig r.2.2]) := by
  refine fnIntro Tryz.func8 rfl (by kernel_rfl) fun H0 w0 => ?_
  unfold state_Parse.f at h
  refine wSeq ?_
  refine rg (cp (oBox tm) (s1 rfl) <| cw (oAlloc (id := 4) (ls := [.d (kI .i64) 0, .d (kI .i64) 0, .d (kL (kR f_api_Instr)) [], .d (kL (kR f_api_Atom)) [], .d (kL (kR f_api_Slot)) [], .d (kL (kR f_api_Atom)) []]) ze32 (fun g => ⟨[(.int .i64 0)], _, rfl, zI_i64 g.H, ⟨[(.int .i64 0)], _, rfl, zI_i64 g.H, ⟨[(.slice none 0 0)], _, rfl, zL g.H, ⟨[(.slice none 0 0)], _, rfl, zL g.H, ⟨[(.slice none 0 0)], _, rfl, zL g.H, ⟨[(.slice none 0 0)], _, rfl, zL g.H, rfl⟩⟩⟩⟩⟩⟩)) trivial <| cp (oAs (cI (by decide))) trivial <| cp (oAs (cI (by decide))) trivial <| .nil) (by kernel_rfl) ?_
  refine pSeq ?_
  refine wSeq ?_
  refine wSeq ?_
  obtain ⟨y1, hy1, h⟩ := bd h
  refine rg (cp (oLd t25 tm) (s1 rfl) <| cp (oCall rfl (lattice_Check.ok hy1) b16 (opds_cons tm opds_nil)) (s1 rfl) <| cp (oAs tm) (s1 rfl) <| .nil) (by kernel_rfl) ?_
  refine pSeq ?_
  refine wSeq ?_
  refine rg (cp (oMv tm) (s1 rfl) <| cp (oNe rfl tm (cI (by decide))) (s1 rfl) <| .nil) (by kernel_rfl) ?_
  refine pSeq ?_
  rcases ic h with ⟨hp2, h⟩ | ⟨hp2, h⟩
  · refine wNT hp2 tm (s1 rfl) ?_
    refine wSkip ?_
    refine pSeq ?_
    refine wSeq ?_
    obtain ⟨y3, hy3, h⟩ := bd h
    refine rg (cp (oMv tm) (s1 rfl) <| cp (oCall rfl (lex_Lex.ok hy3) b21 (opds_cons tm opds_nil)) (s1 rfl) <| cp (oMv tm) (s1 rfl) <| cp (oExt (k := 0) rfl tm) (s1 rfl) <| cp (oExt (k := 1) rfl tm) (s1 rfl) <| cp (oExt (k := 2) rfl tm) (s1 rfl) <| cp (oAs tm) (s1 rfl) <| cp (oAs tm) (s1 rfl) <| cp (oAs tm) (s1 rfl) <| .nil) (by kernel_rfl) ?_
    refine pSeq ?_
    refine wSeq ?_
    refine wSeq ?_
    refine rg (cp (oMv tm) (s1 rfl) <| cp (oNe rfl tm (cI (by decide))) (s1 rfl) <| .nil) (by kernel_rfl) ?_
    refine pSeq ?_
    rcases ic h with ⟨hp4, h⟩ | ⟨hp4, h⟩
    · refine wNT hp4 tm (s1 rfl) ?_
      refine wSkip ?_
      refine pSeq ?_
      refine wSeq ?_
      obtain ⟨y5, hy5, h⟩ := bd h
      refine rg (cp (oLd t25 tm) (s1 rfl) <| cp (oMv tm) (s1 rfl) <| cp (oCall rfl (state_From.ok hy5) b22 (opds_cons tm (opds_cons tm (opds_cons (cI (by decide)) opds_nil)))) (s2 rfl rfl) <| cp (oMv tm) (s1 rfl) <| cp (oExt (k := 0) rfl tm) (s1 rfl) <| cp (oExt (k := 1) rfl tm) (s1 rfl) <| cp (oExt (k := 2) rfl tm) (s1 rfl) <| cw (oAlloc (id := 11) (ls := [.d (kI .i64) 0, .d (kI .i64) 0, .d (kL (kR f_api_Instr)) [], .d (kL (kR f_api_Atom)) [], .d (kL (kR f_api_Slot)) [], .d (kL (kR f_api_Atom)) []]) ze32 (fun g => ⟨[(.int .i64 0)], _, rfl, zI_i64 g.H, ⟨[(.int .i64 0)], _, rfl, zI_i64 g.H, ⟨[(.slice none 0 0)], _, rfl, zL g.H, ⟨[(.slice none 0 0)], _, rfl, zL g.H, ⟨[(.slice none 0 0)], _, rfl, zL g.H, ⟨[(.slice none 0 0)], _, rfl, zL g.H, rfl⟩⟩⟩⟩⟩⟩)) trivial <| cwn (oStP (n := 0) (k := 0) (m := 6) (d := (kR f_api_State)) (u := y5.1) (lfS (lfC (lfS (lfC lf1 (lfC lf1 lfN))) (lfC lf1 (lfC lf1 (lfC lf1 (lfC lf1 lfN)))))) rfl rfl rfl z32 tm tm) (s2 rfl rfl) <| cp (oAs tm) (s1 rfl) <| cp (oAs tm) (s1 rfl) <| .nil) (by kernel_rfl) ?_
      refine pSeq ?_
      refine wSeq ?_
      refine wBlock ?_
      refine wSeq ?_
      refine rg (cp (oMv tm) (s1 rfl) <| cp (oNe rfl tm (cI (by decide))) (s1 rfl) <| cp (oAs tm) (s1 rfl) <| .nil) (by kernel_rfl) ?_
      refine pSeq ?_
      rcases ic h with ⟨hp6, h⟩ | ⟨hp6, h⟩
      · refine wNT hp6 tm (s1 rfl) ?_
        refine wSeq ?_
        obtain ⟨y7, hy7, h⟩ := bd h
        refine rg (cp (oMv tm) (s1 rfl) <| cp (oMv tm) (s1 rfl) <| cp (oIdx u53 z58 hy7 tm tm) (s2 rfl rfl) <| cp (oFld (fs := f_api_Tok) (k := 0) rfl o58_0 tm) (s1 rfl) <| cp (oLd t3 tm) (s1 rfl) <| cp (oNe rfl tm (cI (by decide))) (s1 rfl) <| cp (oAs tm) (s1 rfl) <| .nil) (by kernel_rfl) ?_
        refine pSeq ?_
        rcases ic h with ⟨hp8, h⟩ | ⟨hp8, h⟩
        · refine wNT hp8 tm (s1 rfl) ?_
          refine wSkip ?_
          refine pBlkN ?_
          refine pSeq ?_
          refine wSeq ?_
          refine rg (cr (oLdP (n := 0) (k := 0) (m := 6) (d := (kR f_api_State)) (u := y5.1) (lfS (lfC (lfS (lfC lf1 (lfC lf1 lfN))) (lfC lf1 (lfC lf1 (lfC lf1 (lfC lf1 lfN)))))) rfl rfl rfl t32 tm) (s1 rfl) <| cwn (oStP (n := 1) (k := 0) (m := 6) (d := (kR f_api_State)) (u := y5.1) (lfS (lfC (lfS (lfC lf1 (lfC lf1 lfN))) (lfC lf1 (lfC lf1 (lfC lf1 (lfC lf1 lfN)))))) rfl rfl rfl z32 tm tm) (s2 rfl rfl) <| cp (oAs (cI (by decide))) trivial <| cp (oAs (cI (by decide))) trivial <| .nil) (by kernel_rfl) ?_
          refine pSeq ?_
          refine wRet ?_
          obtain rfl := so h
          exact pRn (.inl rfl) rfl rfl (.boxP (n := 1) (d := (kR f_api_State)) (u := y5.1) rfl rfl (lfS (lfC (lfS (lfC lf1 (lfC lf1 lfN))) (lfC lf1 (lfC lf1 (lfC lf1 (lfC lf1 lfN)))))) rfl t32 <| .tmp rfl <| .tmp rfl <| .nil)
        · refine wNF hp8 tm (s1 rfl) ?_
          refine wSeq ?_
          obtain ⟨y9, hy9, h⟩ := bd h
          refine rgD hm (cp (oBuild (fs := f_api_State) (u := ⟨(⟨0, 0⟩ : api_Atom), [], [], [], []⟩) rfl ze32 pl32 po32 (.ze (zc := [(.int .i64 0), (.int .i64 0)]) zR_api_Atom (.ze (zc := [(.slice none 0 0)]) zL (.ze (zc := [(.slice none 0 0)]) zL (.ze (zc := [(.slice none 0 0)]) zL (.ze (zc := [(.slice none 0 0)]) zL .nil)))))) trivial <| cp (oMv tm) (s1 rfl) <| cp (oMv tm) (s1 rfl) <| cp (oIdx u53 z58 hy9 tm tm) (s2 rfl rfl) <| cp (oFld (fs := f_api_Tok) (k := 2) rfl o58_2 tm) (s1 rfl) <| cp (oLd t3 tm) (s1 rfl) <| cwn (oStP (n := 1) (k := 0) (m := 6) (d := (kR f_api_State)) (u := (⟨(⟨0, 0⟩ : api_Atom), [], [], [], []⟩ : api_State)) (lfS (lfC (lfS (lfC lf1 (lfC lf1 lfN))) (lfC lf1 (lfC lf1 (lfC lf1 (lfC lf1 lfN)))))) rfl rfl rfl z32 tm tm) (s2 rfl rfl) <| cp (oAs tm) (s1 rfl) <| cp (oAs (cI (by decide))) trivial <| .nil) (by kernel_rfl) (by kernel_rfl) ?_
          refine pSeq ?_
          refine wRet ?_
          refine pBlkR ?_
          refine pThenR ?_
          obtain rfl := so h
          exact pRn (.inl rfl) rfl rfl (.boxP (n := 1) (d := (kR f_api_State)) (u := (⟨⟨0, 0⟩, [], [], [], []⟩ : api_State)) rfl rfl (lfS (lfC (lfS (lfC lf1 (lfC lf1 lfN))) (lfC lf1 (lfC lf1 (lfC lf1 (lfC lf1 lfN)))))) rfl t32 <| .tmp rfl <| .tmp rfl <| .nil)
      · refine wNF hp6 tm (s1 rfl) ?_
        refine wSeq ?_
        obtain ⟨y10, hy10, h⟩ := bd h
        refine rgD hm (cp (oBuild (fs := f_api_State) (u := ⟨(⟨0, 0⟩ : api_Atom), [], [], [], []⟩) rfl ze32 pl32 po32 (.ze (zc := [(.int .i64 0), (.int .i64 0)]) zR_api_Atom (.ze (zc := [(.slice none 0 0)]) zL (.ze (zc := [(.slice none 0 0)]) zL (.ze (zc := [(.slice none 0 0)]) zL (.ze (zc := [(.slice none 0 0)]) zL .nil)))))) trivial <| cp (oMv tm) (s1 rfl) <| cp (oMv tm) (s1 rfl) <| cp (oIdx u53 z58 hy10 tm tm) (s2 rfl rfl) <| cp (oFld (fs := f_api_Tok) (k := 2) rfl o58_2 tm) (s1 rfl) <| cp (oLd t3 tm) (s1 rfl) <| cp (oMv tm) (s1 rfl) <| cwn (oStP (n := 1) (k := 0) (m := 6) (d := (kR f_api_State)) (u := (⟨(⟨0, 0⟩ : api_Atom), [], [], [], []⟩ : api_State)) (lfS (lfC (lfS (lfC lf1 (lfC lf1 lfN))) (lfC lf1 (lfC lf1 (lfC lf1 (lfC lf1 lfN)))))) rfl rfl rfl z32 tm tm) (s2 rfl rfl) <| cp (oAs tm) (s1 rfl) <| cp (oAs tm) (s1 rfl) <| .nil) (by kernel_rfl) (by kernel_rfl) ?_
        refine pSeq ?_
        refine wRet ?_
        refine pBlkR ?_
        refine pThenR ?_
        obtain rfl := so h
        exact pRn (.inl rfl) rfl rfl (.boxP (n := 1) (d := (kR f_api_State)) (u := (⟨⟨0, 0⟩, [], [], [], []⟩ : api_State)) rfl rfl (lfS (lfC (lfS (lfC lf1 (lfC lf1 lfN))) (lfC lf1 (lfC lf1 (lfC lf1 (lfC lf1 lfN)))))) rfl t32 <| .tmp rfl <| .tmp rfl <| .nil)
    · refine wNF hp4 tm (s1 rfl) ?_
      refine wSeq ?_
      refine rg (cp (oBuild (fs := f_api_State) (u := ⟨(⟨0, 0⟩ : api_Atom), [], [], [], []⟩) rfl ze32 pl32 po32 (.ze (zc := [(.int .i64 0), (.int .i64 0)]) zR_api_Atom (.ze (zc := [(.slice none 0 0)]) zL (.ze (zc := [(.slice none 0 0)]) zL (.ze (zc := [(.slice none 0 0)]) zL (.ze (zc := [(.slice none 0 0)]) zL .nil)))))) trivial <| cp (oMv tm) (s1 rfl) <| cp (oMv tm) (s1 rfl) <| cwn (oStP (n := 0) (k := 0) (m := 6) (d := (kR f_api_State)) (u := (⟨(⟨0, 0⟩ : api_Atom), [], [], [], []⟩ : api_State)) (lfS (lfC (lfS (lfC lf1 (lfC lf1 lfN))) (lfC lf1 (lfC lf1 (lfC lf1 (lfC lf1 lfN)))))) rfl rfl rfl z32 tm tm) (s2 rfl rfl) <| cp (oAs tm) (s1 rfl) <| cp (oAs tm) (s1 rfl) <| .nil) (by kernel_rfl) ?_
      refine pSeq ?_
      refine wRet ?_
      refine pThenR ?_
      obtain rfl := so h
      exact pRn (.inl rfl) rfl rfl (.boxP (n := 0) (d := (kR f_api_State)) (u := (⟨⟨0, 0⟩, [], [], [], []⟩ : api_State)) rfl rfl (lfS (lfC (lfS (lfC lf1 (lfC lf1 lfN))) (lfC lf1 (lfC lf1 (lfC lf1 (lfC lf1 lfN)))))) rfl t32 <| .tmp rfl <| .tmp rfl <| .nil)
  · refine wNF hp2 tm (s1 rfl) ?_
    refine wSeq ?_
    refine rg (cp (oBuild (fs := f_api_State) (u := ⟨(⟨0, 0⟩ : api_Atom), [], [], [], []⟩) rfl ze32 pl32 po32 (.ze (zc := [(.int .i64 0), (.int .i64 0)]) zR_api_Atom (.ze (zc := [(.slice none 0 0)]) zL (.ze (zc := [(.slice none 0 0)]) zL (.ze (zc := [(.slice none 0 0)]) zL (.ze (zc := [(.slice none 0 0)]) zL .nil)))))) trivial <| cp (oMv tm) (s1 rfl) <| cwn (oStP (n := 0) (k := 0) (m := 6) (d := (kR f_api_State)) (u := (⟨(⟨0, 0⟩ : api_Atom), [], [], [], []⟩ : api_State)) (lfS (lfC (lfS (lfC lf1 (lfC lf1 lfN))) (lfC lf1 (lfC lf1 (lfC lf1 (lfC lf1 lfN)))))) rfl rfl rfl z32 tm tm) (s2 rfl rfl) <| cp (oAs (cI (by decide))) trivial <| cp (oAs tm) (s1 rfl) <| .nil) (by kernel_rfl) ?_
    refine pSeq ?_
    refine wRet ?_
    refine pThenR ?_
    obtain rfl := so h
    exact pRn (.inl rfl) rfl rfl (.boxP (n := 0) (d := (kR f_api_State)) (u := (⟨⟨0, 0⟩, [], [], [], []⟩ : api_State)) rfl rfl (lfS (lfC (lfS (lfC lf1 (lfC lf1 lfN))) (lfC lf1 (lfC lf1 (lfC lf1 (lfC lf1 lfN)))))) rfl t32 <| .tmp rfl <| .tmp rfl <| .nil)

theorem reticentref08_Same.ok {a0 : List api_Instr} {a1 : List api_Instr} {r : Bool} (h : reticentref08_Same.f a0 a1 = some r) : FnA Tryz.prog 23 [(kL (kR f_api_Instr)).sig a0, (kL (kR f_api_Instr)).sig a1] (kB.sig r) := by
  refine fnIntro Tryz.func23 rfl (by kernel_rfl) fun H0 w0 => ?_
  unfold reticentref08_Same.f at h
  refine wSeq ?_
  refine rg (cp (oAs cB) trivial <| .nil) (by kernel_rfl) ?_
  refine pSeq ?_
  refine wSeq ?_
  refine wSeq ?_
  refine rg (cp (oMv tm) (s1 rfl) <| cp (oLenL u28 tm) (s1 rfl) <| cp (oMv tm) (s1 rfl) <| cp (oLenL u28 tm) (s1 rfl) <| cp (oNe rfl tm tm) (s2 rfl rfl) <| .nil) (by kernel_rfl) ?_
  refine pSeq ?_
  rcases ic h with ⟨hp1, h⟩ | ⟨hp1, h⟩
  · refine wNT hp1 tm (s1 rfl) ?_
    refine wSkip ?_
    refine pSeq ?_
    refine wSeq ?_
    refine wSeq ?_
    refine rg (cp (oMv tm) (s1 rfl) <| cp (oLenL u28 tm) (s1 rfl) <| cp (oMv (cI (by decide))) trivial <| .nil) (by kernel_rfl) ?_
    refine pSeq ?_
    obtain ⟨o1, h, hk1⟩ := bd h
    refine wK0 (.inr () = o1) ([]) ([]) ?_ ?_
    · refine wBlock (wLoop ?_)
      refine lW (pc1 o1 (fun v10 => [(0, .d ((kL (kR f_api_Instr)).sig a0)), (1, .d ((kL (kR f_api_Instr)).sig a1)), (12, .d ((kI .i64).sig (a0.length : Int))), (13, .d ((kI .i64).sig v10))]) (fun v10 => []) (reticentref08_Same.l0.partial_correctness a0 a1) ?_ _ h) ⟨rfl, rfl, rfl, rfl, trivial⟩ rfl
      clear h
      intro f' ih v10 h
      refine wSeq ?_
      refine rg (cp (oLt rfl tm tm) (s2 rfl rfl) <| .nil) (by kernel_rfl) ?_
      refine pSeq ?_
      refine wSeq ?_
      rcases ic h with ⟨hp11, h⟩ | ⟨hp11, h⟩
      · refine wCT hp11 tm (s1 rfl) ?_
        refine wSkip ?_
        refine pSeq ?_
        refine wSeq ?_
        refine wBlock ?_
        refine wSeq ?_
        refine rg (cp (oMv tm) (s1 rfl) <| cp (oAs tm) (s1 rfl) <| .nil) (by kernel_rfl) ?_
        refine pSeq ?_
        refine wSeq ?_
        obtain ⟨y12, hy12, h⟩ := bd h
        obtain ⟨y13, hy13, h⟩ := bd h
        refine rgD hm (cp (oMv tm) (s1 rfl) <| cp (oMv tm) (s1 rfl) <| cp (oIdx u28 z81 hy12 tm tm) (s2 rfl rfl) <| cp (oLd t81 tm) (s1 rfl) <| cp (oMv tm) (s1 rfl) <| cp (oMv tm) (s1 rfl) <| cp (oIdx u28 z81 hy13 tm tm) (s2 rfl rfl) <| cp (oLd t81 tm) (s1 rfl) <| cp (oRNe eqk81 rfl eg81 rfl tm tm) (s2 rfl rfl) <| .nil) (by kernel_rfl) (by kernel_rfl) ?_
        refine pSeq ?_
        rcases ic h with ⟨hp14, h⟩ | ⟨hp14, h⟩
        · refine wNT hp14 tm (s1 rfl) ?_
          refine wSkip ?_
          refine pBlkN ?_
          refine pSeq ?_
          refine rg (cp (oAdd tm (cI (by decide))) (s1 rfl) <| cp (oMv tm) (s1 rfl) <| .nil) (by kernel_rfl) ?_
          exact pLoop (lW (ih _ h) ⟨rfl, rfl, rfl, rfl, trivial⟩ rfl)
        · refine wNF hp14 tm (s1 rfl) ?_
          refine wSeq ?_
          refine rg (cp (oAs cB) trivial <| .nil) (by kernel_rfl) ?_
          refine pSeq ?_
          refine wRet ?_
          refine pBlkR ?_
          refine pThenR ?_
          refine pThenR ?_
          refine pBlkR ?_
          refine pThenR ?_
          obtain rfl := so h
          replace h := hk1
          refine pThenR ?_
          obtain rfl := so h
          exact pR1 (.inl rfl) rfl (.tmp rfl <| .nil)
      · refine wCF hp11 tm (s1 rfl) ?_
        refine wExit ?_
        refine pThenX ?_
        refine pThenX ?_
        refine pBlkX ?_
        exact pJ0 (so h) trivial rfl
    · rintro rfl
      replace h := hk1
      refine pSeq ?_
      refine wSeq ?_
      refine rg (cp (oAs cB) trivial <| .nil) (by kernel_rfl) ?_
      refine pSeq ?_
      refine wRet ?_
      obtain rfl := so h
      exact pR1 (.inl rfl) rfl (.tmp rfl <| .nil)
  · refine wNF hp1 tm (s1 rfl) ?_
    refine wSeq ?_
    refine rg (cp (oAs cB) trivial <| .nil) (by kernel_rfl) ?_
    refine pSeq ?_
    refine wRet ?_
    refine pThenR ?_
    obtain rfl := so h
    exact pR1 (.inl rfl) rfl (.tmp rfl <| .nil)

theorem reticentref09_AtomsSame.ok {a0 : List api_Atom} {a1 : List api_Atom} {r : Bool} (h : reticentref09_AtomsSame.f a0 a1 = some r) : FnA Tryz.prog 24 [(kL (kR f_api_Atom)).sig a0, (kL (kR f_api_Atom)).sig a1] (kB.sig r) := by
  refine fnIntro Tryz.func24 rfl (by kernel_rfl) fun H0 w0 => ?_
  unfold reticentref09_AtomsSame.f at h
  refine wSeq ?_
  refine rg (cp (oAs cB) trivial <| .nil) (by kernel_rfl) ?_
  refine pSeq ?_
  refine wSeq ?_
  refine wSeq ?_
  refine rg (cp (oMv tm) (s1 rfl) <| cp (oLenL u29 tm) (s1 rfl) <| cp (oMv tm) (s1 rfl) <| cp (oLenL u29 tm) (s1 rfl) <| cp (oNe rfl tm tm) (s2 rfl rfl) <| .nil) (by kernel_rfl) ?_
  refine pSeq ?_
  rcases ic h with ⟨hp1, h⟩ | ⟨hp1, h⟩
  · refine wNT hp1 tm (s1 rfl) ?_
    refine wSkip ?_
    refine pSeq ?_
    refine wSeq ?_
    refine wSeq ?_
    refine rg (cp (oMv tm) (s1 rfl) <| cp (oLenL u29 tm) (s1 rfl) <| cp (oMv (cI (by decide))) trivial <| .nil) (by kernel_rfl) ?_
    refine pSeq ?_
    obtain ⟨o1, h, hk1⟩ := bd h
    refine wK0 (.inr () = o1) ([]) ([]) ?_ ?_
    · refine wBlock (wLoop ?_)
      refine lW (pc1 o1 (fun v10 => [(0, .d ((kL (kR f_api_Atom)).sig a0)), (1, .d ((kL (kR f_api_Atom)).sig a1)), (12, .d ((kI .i64).sig (a0.length : Int))), (13, .d ((kI .i64).sig v10))]) (fun v10 => []) (reticentref09_AtomsSame.l0.partial_correctness a0 a1) ?_ _ h) ⟨rfl, rfl, rfl, rfl, trivial⟩ rfl
      clear h
      intro f' ih v10 h
      refine wSeq ?_
      refine rg (cp (oLt rfl tm tm) (s2 rfl rfl) <| .nil) (by kernel_rfl) ?_
      refine pSeq ?_
      refine wSeq ?_
      rcases ic h with ⟨hp11, h⟩ | ⟨hp11, h⟩
      · refine wCT hp11 tm (s1 rfl) ?_
        refine wSkip ?_
        refine pSeq ?_
        refine wSeq ?_
        refine wBlock ?_
        refine wSeq ?_
        refine rg (cp (oMv tm) (s1 rfl) <| cp (oAs tm) (s1 rfl) <| .nil) (by kernel_rfl) ?_
        refine pSeq ?_
        refine wSeq ?_
        obtain ⟨y12, hy12, h⟩ := bd h
        obtain ⟨y13, hy13, h⟩ := bd h
        refine rgD hm (cp (oMv tm) (s1 rfl) <| cp (oMv tm) (s1 rfl) <| cp (oIdx u29 z27 hy12 tm tm) (s2 rfl rfl) <| cp (oLd t27 tm) (s1 rfl) <| cp (oMv tm) (s1 rfl) <| cp (oMv tm) (s1 rfl) <| cp (oIdx u29 z27 hy13 tm tm) (s2 rfl rfl) <| cp (oLd t27 tm) (s1 rfl) <| cp (oRNe eqk27 rfl eg27 rfl tm tm) (s2 rfl rfl) <| .nil) (by kernel_rfl) (by kernel_rfl) ?_
        refine pSeq ?_
        rcases ic h with ⟨hp14, h⟩ | ⟨hp14, h⟩
        · refine wNT hp14 tm (s1 rfl) ?_
          refine wSkip ?_
          refine pBlkN ?_
          refine pSeq ?_
          refine rg (cp (oAdd tm (cI (by decide))) (s1 rfl) <| cp (oMv tm) (s1 rfl) <| .nil) (by kernel_rfl) ?_
          exact pLoop (lW (ih _ h) ⟨rfl, rfl, rfl, rfl, trivial⟩ rfl)
        · refine wNF hp14 tm (s1 rfl) ?_
          refine wSeq ?_
          refine rg (cp (oAs cB) trivial <| .nil) (by kernel_rfl) ?_
          refine pSeq ?_
          refine wRet ?_
          refine pBlkR ?_
          refine pThenR ?_
          refine pThenR ?_
          refine pBlkR ?_
          refine pThenR ?_
          obtain rfl := so h
          replace h := hk1
          refine pThenR ?_
          obtain rfl := so h
          exact pR1 (.inl rfl) rfl (.tmp rfl <| .nil)
      · refine wCF hp11 tm (s1 rfl) ?_
        refine wExit ?_
        refine pThenX ?_
        refine pThenX ?_
        refine pBlkX ?_
        exact pJ0 (so h) trivial rfl
    · rintro rfl
      replace h := hk1
      refine pSeq ?_
      refine wSeq ?_
      refine rg (cp (oAs cB) trivial <| .nil) (by kernel_rfl) ?_
      refine pSeq ?_
      refine wRet ?_
      obtain rfl := so h
      exact pR1 (.inl rfl) rfl (.tmp rfl <| .nil)
  · refine wNF hp1 tm (s1 rfl) ?_
    refine wSeq ?_
    refine rg (cp (oAs cB) trivial <| .nil) (by kernel_rfl) ?_
    refine pSeq ?_
    refine wRet ?_
    refine pThenR ?_
    obtain rfl := so h
    exact pR1 (.inl rfl) rfl (.tmp rfl <| .nil)

theorem reticentref09_Same.ok {a0 : api_State} {a1 : api_State} {r : Bool} (h : reticentref09_Same.f a0 a1 = some r) : FnA Tryz.prog 9 [(kR f_api_State).sig a0, (kR f_api_State).sig a1] (kB.sig r) := by
  refine fnIntro Tryz.func9 rfl (by kernel_rfl) fun H0 w0 => ?_
  unfold reticentref09_Same.f at h
  refine wSeq ?_
  refine rg (cp (oBox tm) (s1 rfl) <| cp (oBox tm) (s1 rfl) <| cp (oAs cB) trivial <| .nil) (by kernel_rfl) ?_
  refine pSeq ?_
  refine wSeq ?_
  obtain ⟨o1, h, hk1⟩ := bd h
  refine wJ1 (fun x8 => x8 = o1) (fun x8 => [(2, .d (sP (kR f_api_State) a0)), (3, .d (sP (kR f_api_State) a1)), (43, .d (kB.sig x8))]) (fun x8 => []) ?_ ?_
  · rcases ic h with ⟨hp9, h⟩ | ⟨hp9, h⟩
    · obtain ⟨y10, hy10, h⟩ := bd h
      rcases ic h with ⟨hp11, h⟩ | ⟨hp11, h⟩
      · refine rg (cp (oFld (fs := f_api_State) (k := 0) rfl o32_0 tm) (s1 rfl) <| cp (oLd t27 tm) (s1 rfl) <| cp (oFld (fs := f_api_State) (k := 0) rfl o32_0 tm) (s1 rfl) <| cp (oLd t27 tm) (s1 rfl) <| cp (oRNe eqk27 rfl eg27 rfl tm tm) (s2 rfl rfl) <| cp (oMv tm) (s1 rfl) <| cgB (nf hp9) rfl rfl (oFld (fs := f_api_State) (k := 1) rfl o32_1 tm) (s1 rfl) <| cgB (nf hp9) rfl rfl (oLd t28 tm) (s1 rfl) <| cgB (nf hp9) rfl rfl (oFld (fs := f_api_State) (k := 1) rfl o32_1 tm) (s1 rfl) <| cgB (nf hp9) rfl rfl (oLd t28 tm) (s1 rfl) <| cgB (nf hp9) rfl rfl (oCall rfl (reticentref08_Same.ok hy10) b23 (opds_cons tm (opds_cons tm opds_nil))) (s2 rfl rfl) <| cgB (nf hp9) rfl rfl (oNot tm) (s1 rfl) <| cp (oPkF (nf hp9) tm tm) (s2 rfl rfl) <| cp (oMv tm) (s1 rfl) <| csB hp11 rfl rfl <| csB hp11 rfl rfl <| csB hp11 rfl rfl <| csB hp11 rfl rfl <| csB hp11 rfl rfl <| csB hp11 rfl rfl <| cp (oPkT hp11 tm cB) (s1 rfl) <| cp (oMv tm) (s1 rfl) <| csB rfl rfl rfl <| csB rfl rfl rfl <| csB rfl rfl rfl <| csB rfl rfl rfl <| csB rfl rfl rfl <| csB rfl rfl rfl <| cp (oPkT rfl tm cB) (s1 rfl) <| cp (oMv tm) (s1 rfl) <| csB rfl rfl rfl <| csB rfl rfl rfl <| csB rfl rfl rfl <| csB rfl rfl rfl <| csB rfl rfl rfl <| csB rfl rfl rfl <| csB rfl rfl rfl <| cp (oPkT rfl tm cB) (s1 rfl) <| .nil) (by kernel_rfl) ?_
        exact pJ1 _ (so h) ⟨rfl, rfl, rfl, trivial⟩ rfl
      · obtain ⟨y12, hy12, h⟩ := bd h
        rcases ic h with ⟨hp13, h⟩ | ⟨hp13, h⟩
        · refine rg (cp (oFld (fs := f_api_State) (k := 0) rfl o32_0 tm) (s1 rfl) <| cp (oLd t27 tm) (s1 rfl) <| cp (oFld (fs := f_api_State) (k := 0) rfl o32_0 tm) (s1 rfl) <| cp (oLd t27 tm) (s1 rfl) <| cp (oRNe eqk27 rfl eg27 rfl tm tm) (s2 rfl rfl) <| cp (oMv tm) (s1 rfl) <| cgB (nf hp9) rfl rfl (oFld (fs := f_api_State) (k := 1) rfl o32_1 tm) (s1 rfl) <| cgB (nf hp9) rfl rfl (oLd t28 tm) (s1 rfl) <| cgB (nf hp9) rfl rfl (oFld (fs := f_api_State) (k := 1) rfl o32_1 tm) (s1 rfl) <| cgB (nf hp9) rfl rfl (oLd t28 tm) (s1 rfl) <| cgB (nf hp9) rfl rfl (oCall rfl (reticentref08_Same.ok hy10) b23 (opds_cons tm (opds_cons tm opds_nil))) (s2 rfl rfl) <| cgB (nf hp9) rfl rfl (oNot tm) (s1 rfl) <| cp (oPkF (nf hp9) tm tm) (s2 rfl rfl) <| cp (oMv tm) (s1 rfl) <| cgB (nb hp11) rfl rfl (oFld (fs := f_api_State) (k := 2) rfl o32_2 tm) (s1 rfl) <| cgB (nb hp11) rfl rfl (oLd t29 tm) (s1 rfl) <| cgB (nb hp11) rfl rfl (oFld (fs := f_api_State) (k := 2) rfl o32_2 tm) (s1 rfl) <| cgB (nb hp11) rfl rfl (oLd t29 tm) (s1 rfl) <| cgB (nb hp11) rfl rfl (oCall rfl (reticentref09_AtomsSame.ok hy12) b24 (opds_cons tm (opds_cons tm opds_nil))) (s2 rfl rfl) <| cgB (nb hp11) rfl rfl (oNot tm) (s1 rfl) <| cp (oPkF (nb hp11) tm tm) (s2 rfl rfl) <| cp (oMv tm) (s1 rfl) <| csB hp13 rfl rfl <| csB hp13 rfl rfl <| csB hp13 rfl rfl <| csB hp13 rfl rfl <| csB hp13 rfl rfl <| csB hp13 rfl rfl <| cp (oPkT hp13 tm cB) (s1 rfl) <| cp (oMv tm) (s1 rfl) <| csB rfl rfl rfl <| csB rfl rfl rfl <| csB rfl rfl rfl <| csB rfl rfl rfl <| csB rfl rfl rfl <| csB rfl rfl rfl <| csB rfl rfl rfl <| cp (oPkT rfl tm cB) (s1 rfl) <| .nil) (by kernel_rfl) ?_
          exact pJ1 _ (so h) ⟨rfl, rfl, rfl, trivial⟩ rfl
        · obtain ⟨y14, hy14, h⟩ := bd h
          rcases ic h with ⟨hp15, h⟩ | ⟨hp15, h⟩
          · refine rg (cp (oFld (fs := f_api_State) (k := 0) rfl o32_0 tm) (s1 rfl) <| cp (oLd t27 tm) (s1 rfl) <| cp (oFld (fs := f_api_State) (k := 0) rfl o32_0 tm) (s1 rfl) <| cp (oLd t27 tm) (s1 rfl) <| cp (oRNe eqk27 rfl eg27 rfl tm tm) (s2 rfl rfl) <| cp (oMv tm) (s1 rfl) <| cgB (nf hp9) rfl rfl (oFld (fs := f_api_State) (k := 1) rfl o32_1 tm) (s1 rfl) <| cgB (nf hp9) rfl rfl (oLd t28 tm) (s1 rfl) <| cgB (nf hp9) rfl rfl (oFld (fs := f_api_State) (k := 1) rfl o32_1 tm) (s1 rfl) <| cgB (nf hp9) rfl rfl (oLd t28 tm) (s1 rfl) <| cgB (nf hp9) rfl rfl (oCall rfl (reticentref08_Same.ok hy10) b23 (opds_cons tm (opds_cons tm opds_nil))) (s2 rfl rfl) <| cgB (nf hp9) rfl rfl (oNot tm) (s1 rfl) <| cp (oPkF (nf hp9) tm tm) (s2 rfl rfl) <| cp (oMv tm) (s1 rfl) <| cgB (nb hp11) rfl rfl (oFld (fs := f_api_State) (k := 2) rfl o32_2 tm) (s1 rfl) <| cgB (nb hp11) rfl rfl (oLd t29 tm) (s1 rfl) <| cgB (nb hp11) rfl rfl (oFld (fs := f_api_State) (k := 2) rfl o32_2 tm) (s1 rfl) <| cgB (nb hp11) rfl rfl (oLd t29 tm) (s1 rfl) <| cgB (nb hp11) rfl rfl (oCall rfl (reticentref09_AtomsSame.ok hy12) b24 (opds_cons tm (opds_cons tm opds_nil))) (s2 rfl rfl) <| cgB (nb hp11) rfl rfl (oNot tm) (s1 rfl) <| cp (oPkF (nb hp11) tm tm) (s2 rfl rfl) <| cp (oMv tm) (s1 rfl) <| cgB (nb hp13) rfl rfl (oFld (fs := f_api_State) (k := 4) rfl o32_4 tm) (s1 rfl) <| cgB (nb hp13) rfl rfl (oLd t29 tm) (s1 rfl) <| cgB (nb hp13) rfl rfl (oFld (fs := f_api_State) (k := 4) rfl o32_4 tm) (s1 rfl) <| cgB (nb hp13) rfl rfl (oLd t29 tm) (s1 rfl) <| cgB (nb hp13) rfl rfl (oCall rfl (reticentref09_AtomsSame.ok hy14) b24 (opds_cons tm (opds_cons tm opds_nil))) (s2 rfl rfl) <| cgB (nb hp13) rfl rfl (oNot tm) (s1 rfl) <| cp (oPkF (nb hp13) tm tm) (s2 rfl rfl) <| cp (oMv tm) (s1 rfl) <| csB hp15 rfl rfl <| csB hp15 rfl rfl <| csB hp15 rfl rfl <| csB hp15 rfl rfl <| csB hp15 rfl rfl <| csB hp15 rfl rfl <| csB hp15 rfl rfl <| cp (oPkT hp15 tm cB) (s1 rfl) <| .nil) (by kernel_rfl) ?_
            exact pJ1 _ (so h) ⟨rfl, rfl, rfl, trivial⟩ rfl
          · refine rg (cp (oFld (fs := f_api_State) (k := 0) rfl o32_0 tm) (s1 rfl) <| cp (oLd t27 tm) (s1 rfl) <| cp (oFld (fs := f_api_State) (k := 0) rfl o32_0 tm) (s1 rfl) <| cp (oLd t27 tm) (s1 rfl) <| cp (oRNe eqk27 rfl eg27 rfl tm tm) (s2 rfl rfl) <| cp (oMv tm) (s1 rfl) <| cgB (nf hp9) rfl rfl (oFld (fs := f_api_State) (k := 1) rfl o32_1 tm) (s1 rfl) <| cgB (nf hp9) rfl rfl (oLd t28 tm) (s1 rfl) <| cgB (nf hp9) rfl rfl (oFld (fs := f_api_State) (k := 1) rfl o32_1 tm) (s1 rfl) <| cgB (nf hp9) rfl rfl (oLd t28 tm) (s1 rfl) <| cgB (nf hp9) rfl rfl (oCall rfl (reticentref08_Same.ok hy10) b23 (opds_cons tm (opds_cons tm opds_nil))) (s2 rfl rfl) <| cgB (nf hp9) rfl rfl (oNot tm) (s1 rfl) <| cp (oPkF (nf hp9) tm tm) (s2 rfl rfl) <| cp (oMv tm) (s1 rfl) <| cgB (nb hp11) rfl rfl (oFld (fs := f_api_State) (k := 2) rfl o32_2 tm) (s1 rfl) <| cgB (nb hp11) rfl rfl (oLd t29 tm) (s1 rfl) <| cgB (nb hp11) rfl rfl (oFld (fs := f_api_State) (k := 2) rfl o32_2 tm) (s1 rfl) <| cgB (nb hp11) rfl rfl (oLd t29 tm) (s1 rfl) <| cgB (nb hp11) rfl rfl (oCall rfl (reticentref09_AtomsSame.ok hy12) b24 (opds_cons tm (opds_cons tm opds_nil))) (s2 rfl rfl) <| cgB (nb hp11) rfl rfl (oNot tm) (s1 rfl) <| cp (oPkF (nb hp11) tm tm) (s2 rfl rfl) <| cp (oMv tm) (s1 rfl) <| cgB (nb hp13) rfl rfl (oFld (fs := f_api_State) (k := 4) rfl o32_4 tm) (s1 rfl) <| cgB (nb hp13) rfl rfl (oLd t29 tm) (s1 rfl) <| cgB (nb hp13) rfl rfl (oFld (fs := f_api_State) (k := 4) rfl o32_4 tm) (s1 rfl) <| cgB (nb hp13) rfl rfl (oLd t29 tm) (s1 rfl) <| cgB (nb hp13) rfl rfl (oCall rfl (reticentref09_AtomsSame.ok hy14) b24 (opds_cons tm (opds_cons tm opds_nil))) (s2 rfl rfl) <| cgB (nb hp13) rfl rfl (oNot tm) (s1 rfl) <| cp (oPkF (nb hp13) tm tm) (s2 rfl rfl) <| cp (oMv tm) (s1 rfl) <| cgB (nb hp15) rfl rfl (oFld (fs := f_api_State) (k := 3) rfl o32_3 tm) (s1 rfl) <| cgB (nb hp15) rfl rfl (oLd t30 tm) (s1 rfl) <| cgB (nb hp15) rfl rfl (oLenL u30 tm) (s1 rfl) <| cgB (nb hp15) rfl rfl (oFld (fs := f_api_State) (k := 3) rfl o32_3 tm) (s1 rfl) <| cgB (nb hp15) rfl rfl (oLd t30 tm) (s1 rfl) <| cgB (nb hp15) rfl rfl (oLenL u30 tm) (s1 rfl) <| cgB (nb hp15) rfl rfl (oNe rfl tm tm) (s2 rfl rfl) <| cp (oPkF (nb hp15) tm tm) (s2 rfl rfl) <| .nil) (by kernel_rfl) ?_
            exact pJ1 _ (so h) ⟨rfl, rfl, rfl, trivial⟩ rfl
    · refine rg (cp (oFld (fs := f_api_State) (k := 0) rfl o32_0 tm) (s1 rfl) <| cp (oLd t27 tm) (s1 rfl) <| cp (oFld (fs := f_api_State) (k := 0) rfl o32_0 tm) (s1 rfl) <| cp (oLd t27 tm) (s1 rfl) <| cp (oRNe eqk27 rfl eg27 rfl tm tm) (s2 rfl rfl) <| cp (oMv tm) (s1 rfl) <| csB (nt hp9) rfl rfl <| csB (nt hp9) rfl rfl <| csB (nt hp9) rfl rfl <| csB (nt hp9) rfl rfl <| csB (nt hp9) rfl rfl <| csB (nt hp9) rfl rfl <| cp (oPkT (nt hp9) tm cB) (s1 rfl) <| cp (oMv tm) (s1 rfl) <| csB rfl rfl rfl <| csB rfl rfl rfl <| csB rfl rfl rfl <| csB rfl rfl rfl <| csB rfl rfl rfl <| csB rfl rfl rfl <| cp (oPkT rfl tm cB) (s1 rfl) <| cp (oMv tm) (s1 rfl) <| csB rfl rfl rfl <| csB rfl rfl rfl <| csB rfl rfl rfl <| csB rfl rfl rfl <| csB rfl rfl rfl <| csB rfl rfl rfl <| cp (oPkT rfl tm cB) (s1 rfl) <| cp (oMv tm) (s1 rfl) <| csB rfl rfl rfl <| csB rfl rfl rfl <| csB rfl rfl rfl <| csB rfl rfl rfl <| csB rfl rfl rfl <| csB rfl rfl rfl <| csB rfl rfl rfl <| cp (oPkT rfl tm cB) (s1 rfl) <| .nil) (by kernel_rfl) ?_
      exact pJ1 _ (so h) ⟨rfl, rfl, rfl, trivial⟩ rfl
  · rintro x8 rfl
    replace h := hk1
    rcases ic h with ⟨hp16, h⟩ | ⟨hp16, h⟩
    · refine wBT hp16 tm (s1 rfl) ?_
      refine wSeq ?_
      refine rg (cp (oAs cB) trivial <| .nil) (by kernel_rfl) ?_
      refine pSeq ?_
      refine wRet ?_
      refine pThenR ?_
      obtain rfl := so h
      exact pR1 (.inl rfl) rfl (.tmp rfl <| .nil)
    · refine wBF hp16 tm (s1 rfl) ?_
      refine wSkip ?_
      refine pSeq ?_
      refine wSeq ?_
      refine wSeq ?_
      refine rg (cp (oFld (fs := f_api_State) (k := 3) rfl o32_3 tm) (s1 rfl) <| cp (oLd t30 tm) (s1 rfl) <| cp (oLenL u30 tm) (s1 rfl) <| cp (oMv (cI (by decide))) trivial <| .nil) (by kernel_rfl) ?_
      refine pSeq ?_
      obtain ⟨o1, h, hk1⟩ := bd h
      refine wK0 (.inr () = o1) ([]) ([]) ?_ ?_
      · refine wBlock (wLoop ?_)
        refine lW (pc1 o1 (fun v25 => [(2, .d (sP (kR f_api_State) a0)), (3, .d (sP (kR f_api_State) a1)), (46, .d ((kI .i64).sig (a0.Stack.length : Int))), (47, .d ((kI .i64).sig v25))]) (fun v25 => []) (reticentref09_Same.l0.partial_correctness a0 a1) ?_ _ h) ⟨rfl, rfl, rfl, rfl, trivial⟩ rfl
        clear h
        intro f' ih v25 h
        refine wSeq ?_
        refine rg (cp (oLt rfl tm tm) (s2 rfl rfl) <| .nil) (by kernel_rfl) ?_
        refine pSeq ?_
        refine wSeq ?_
        rcases ic h with ⟨hp26, h⟩ | ⟨hp26, h⟩
        · refine wCT hp26 tm (s1 rfl) ?_
          refine wSkip ?_
          refine pSeq ?_
          refine wSeq ?_
          refine wBlock ?_
          refine wSeq ?_
          refine rg (cp (oMv tm) (s1 rfl) <| cp (oAs tm) (s1 rfl) <| .nil) (by kernel_rfl) ?_
          refine pSeq ?_
          refine wSeq ?_
          obtain ⟨y27, hy27, h⟩ := bd h
          obtain ⟨y28, hy28, h⟩ := bd h
          refine rgD hm (cp (oFld (fs := f_api_State) (k := 3) rfl o32_3 tm) (s1 rfl) <| cp (oLd t30 tm) (s1 rfl) <| cp (oMv tm) (s1 rfl) <| cp (oIdx u30 z51 hy27 tm tm) (s2 rfl rfl) <| cp (oLd t51 tm) (s1 rfl) <| cp (oFld (fs := f_api_State) (k := 3) rfl o32_3 tm) (s1 rfl) <| cp (oLd t30 tm) (s1 rfl) <| cp (oMv tm) (s1 rfl) <| cp (oIdx u30 z51 hy28 tm tm) (s2 rfl rfl) <| cp (oLd t51 tm) (s1 rfl) <| cp (oRNe eqk51 rfl eg51 rfl tm tm) (s2 rfl rfl) <| .nil) (by kernel_rfl) (by kernel_rfl) ?_
          refine pSeq ?_
          rcases ic h with ⟨hp29, h⟩ | ⟨hp29, h⟩
          · refine wNT hp29 tm (s1 rfl) ?_
            refine wSkip ?_
            refine pBlkN ?_
            refine pSeq ?_
            refine rg (cp (oAdd tm (cI (by decide))) (s1 rfl) <| cp (oMv tm) (s1 rfl) <| .nil) (by kernel_rfl) ?_
            exact pLoop (lW (ih _ h) ⟨rfl, rfl, rfl, rfl, trivial⟩ rfl)
          · refine wNF hp29 tm (s1 rfl) ?_
            refine wSeq ?_
            refine rg (cp (oAs cB) trivial <| .nil) (by kernel_rfl) ?_
            refine pSeq ?_
            refine wRet ?_
            refine pBlkR ?_
            refine pThenR ?_
            refine pThenR ?_
            refine pBlkR ?_
            refine pThenR ?_
            obtain rfl := so h
            replace h := hk1
            refine pThenR ?_
            obtain rfl := so h
            exact pR1 (.inl rfl) rfl (.tmp rfl <| .nil)
        · refine wCF hp26 tm (s1 rfl) ?_
          refine wExit ?_
          refine pThenX ?_
          refine pThenX ?_
          refine pBlkX ?_
          exact pJ0 (so h) trivial rfl
      · rintro rfl
        replace h := hk1
        refine pSeq ?_
        refine wSeq ?_
        refine rg (cp (oAs cB) trivial <| .nil) (by kernel_rfl) ?_
        refine pSeq ?_
        refine wRet ?_
        obtain rfl := so h
        exact pR1 (.inl rfl) rfl (.tmp rfl <| .nil)

theorem reticentlaw09_alive.ok {r : Bool} (h : reticentlaw09_alive.f = some r) : FnA Tryz.prog 10 [] (kB.sig r) := by
  refine fnIntro Tryz.func10 rfl (by kernel_rfl) fun H0 w0 => ?_
  unfold reticentlaw09_alive.f at h
  refine wSeq ?_
  refine rg (cp (oAs cB) trivial <| .nil) (by kernel_rfl) ?_
  refine pSeq ?_
  refine wSeq ?_
  refine rg (cp (oLit (d := kS) el22 (by decide) rfl rfl rfl (e1 (cS (by decide)) (e1 (cS (by decide)) e0))) trivial <| cp (oLit (d := (kI .u32)) el23 (by decide) rfl rfl rfl (e1 (cI (by decide)) (e1 (cI (by decide)) e0))) trivial <| cp (oBuild (fs := f_api_Lattice) (u := ⟨([([97] : Str), ([98] : Str)] : List Str), ([3, 2] : List Int)⟩) rfl ze25 pl25 po25 (.op (zc := [(.slice none 0 0)]) tm rfl (.op (zc := [(.slice none 0 0)]) tm rfl .nil))) (s2 rfl rfl) <| cw (oAlloc (id := 1) (ls := [.d (kL kS) [], .d (kL (kI .u32)) []]) ze25 (fun g => ⟨[(.slice none 0 0)], _, rfl, zL g.H, ⟨[(.slice none 0 0)], _, rfl, zL g.H, rfl⟩⟩)) trivial <| cwn (oStA (n := 0) (fs := f_api_Lattice) rfl rfl z25 tm tm) (s2 rfl rfl) <| .nil) (by kernel_rfl) ?_
  refine pSeq ?_
  refine wSeq ?_
  obtain ⟨y1, hy1, h⟩ := bd h
  refine rg (cr (oLdA (n := 0) (fs := f_api_Lattice) (u := ⟨([([97] : Str), ([98] : Str)] : List Str), ([3, 2] : List Int)⟩) rfl ⟨rfl, rfl, trivial⟩ t25 tm) (s1 rfl) <| cp (oCall rfl (state_Parse.ok hy1) b8 (opds_cons tm (opds_cons (cS (s := ks0) (by decide)) opds_nil))) (s1 rfl) <| cp (oMv tm) (s1 rfl) <| cp (oExt (k := 0) rfl tm) (s1 rfl) <| cp (oExt (k := 1) rfl tm) (s1 rfl) <| cp (oExt (k := 2) rfl tm) (s1 rfl) <| cw (oAlloc (id := 2) (ls := [.d (kI .i64) 0, .d (kI .i64) 0, .d (kL (kR f_api_Instr)) [], .d (kL (kR f_api_Atom)) [], .d (kL (kR f_api_Slot)) [], .d (kL (kR f_api_Atom)) []]) ze32 (fun g => ⟨[(.int .i64 0)], _, rfl, zI_i64 g.H, ⟨[(.int .i64 0)], _, rfl, zI_i64 g.H, ⟨[(.slice none 0 0)], _, rfl, zL g.H, ⟨[(.slice none 0 0)], _, rfl, zL g.H, ⟨[(.slice none 0 0)], _, rfl, zL g.H, ⟨[(.slice none 0 0)], _, rfl, zL g.H, rfl⟩⟩⟩⟩⟩⟩)) trivial <| cwn (oStP (n := 0) (k := 0) (m := 6) (d := (kR f_api_State)) (u := y1.1) (lfS (lfC (lfS (lfC lf1 (lfC lf1 lfN))) (lfC lf1 (lfC lf1 (lfC lf1 (lfC lf1 lfN)))))) rfl rfl rfl z32 tm tm) (s2 rfl rfl) <| cp (oAs tm) (s1 rfl) <| cp (oAs tm) (s1 rfl) <| .nil) (by kernel_rfl) ?_
  refine pSeq ?_
  obtain ⟨o1, h, hk1⟩ := bd h
  refine wJ1 (fun x7 => x7 = o1) (fun x7 => [(0, .d (kB.sig x7))]) (fun x7 => [.box 2 32 [.d (kI .i64) y1.1.Pc.V, .d (kI .i64) y1.1.Pc.L, .d (kL (kR f_api_Instr)) y1.1.Code, .d (kL (kR f_api_Atom)) y1.1.Mem, .d (kL (kR f_api_Slot)) y1.1.Stack, .d (kL (kR f_api_Atom)) y1.1.Out], .box 1 25 [.d (kL kS) ([([97] : Str), ([98] : Str)] : List Str), .d (kL (kI .u32)) ([3, 2] : List Int)]]) ?_ ?_
  · rcases ic h with ⟨hp8, h⟩ | ⟨hp8, h⟩
    · rcases ic h with ⟨hp9, h⟩ | ⟨hp9, h⟩
      · obtain ⟨y10, hy10, h⟩ := bd h
        rcases ic h with ⟨hp11, h⟩ | ⟨hp11, h⟩
        · obtain ⟨y12, hy12, h⟩ := bd h
          refine rg (cp (oMv tm) (s1 rfl) <| cp (oEq rfl tm (cI (by decide))) (s1 rfl) <| cp (oMv tm) (s1 rfl) <| cgB (decide_eq_true hp8) rfl rfl (oFldP o32_3 tm) (s1 rfl) <| crgB (decide_eq_true hp8) rfl rfl (oLdB (n := 0) (k := 4) rfl rfl rfl t30 tm) (s1 rfl) <| cgB (decide_eq_true hp8) rfl rfl (oLenL u30 tm) (s1 rfl) <| cgB (decide_eq_true hp8) rfl rfl (oEq rfl tm (cI (by decide))) (s1 rfl) <| cp (oPkT (decide_eq_true hp8) tm tm) (s2 rfl rfl) <| cp (oMv tm) (s1 rfl) <| cgB (decide_eq_true hp9) rfl rfl (oFldP o32_3 tm) (s1 rfl) <| crgB (decide_eq_true hp9) rfl rfl (oLdB (n := 0) (k := 4) rfl rfl rfl t30 tm) (s1 rfl) <| cgB (decide_eq_true hp9) rfl rfl (oIdx u30 z51 hy10 tm (cI (by decide))) (s1 rfl) <| cgB (decide_eq_true hp9) rfl rfl (oLd t51 tm) (s1 rfl) <| cgB (decide_eq_true hp9) rfl rfl (oBuild (fs := f_api_Slot) (u := ⟨true, 1, 1⟩) rfl ze51 pl51 po51 (.op (zc := [(.bool false)]) cB rfl (.op (zc := [(.int .i64 0)]) (cI (by decide)) rfl (.op (zc := [(.int .i64 0)]) (cI (by decide)) rfl .nil)))) trivial <| cgB (decide_eq_true hp9) rfl rfl (oREq eqk51 rfl eg51 rfl tm tm) (s2 rfl rfl) <| cp (oPkT (decide_eq_true hp9) tm tm) (s2 rfl rfl) <| cp (oMv tm) (s1 rfl) <| crgB (decide_eq_true hp11) rfl rfl (oLdA (n := 1) (fs := f_api_Lattice) (u := ⟨([([97] : Str), ([98] : Str)] : List Str), ([3, 2] : List Int)⟩) rfl ⟨rfl, rfl, trivial⟩ t25 tm) (s1 rfl) <| crgB (decide_eq_true hp11) rfl rfl (oLdP (n := 0) (k := 0) (m := 6) (d := (kR f_api_State)) (u := y1.1) (lfS (lfC (lfS (lfC lf1 (lfC lf1 lfN))) (lfC lf1 (lfC lf1 (lfC lf1 (lfC lf1 lfN)))))) rfl rfl rfl t32 tm) (s1 rfl) <| cgB (decide_eq_true hp11) rfl rfl (oCall rfl (state_Right.ok hy12) b11 (opds_cons tm (opds_cons tm opds_nil))) (s2 rfl rfl) <| cp (oPkT (decide_eq_true hp11) tm tm) (s2 rfl rfl) <| cp (oAs tm) (s1 rfl) <| .nil) (by kernel_rfl) ?_
          exact pJ1 _ (so h) ⟨rfl, trivial⟩ rfl
        · refine rg (cp (oMv tm) (s1 rfl) <| cp (oEq rfl tm (cI (by decide))) (s1 rfl) <| cp (oMv tm) (s1 rfl) <| cgB (decide_eq_true hp8) rfl rfl (oFldP o32_3 tm) (s1 rfl) <| crgB (decide_eq_true hp8) rfl rfl (oLdB (n := 0) (k := 4) rfl rfl rfl t30 tm) (s1 rfl) <| cgB (decide_eq_true hp8) rfl rfl (oLenL u30 tm) (s1 rfl) <| cgB (decide_eq_true hp8) rfl rfl (oEq rfl tm (cI (by decide))) (s1 rfl) <| cp (oPkT (decide_eq_true hp8) tm tm) (s2 rfl rfl) <| cp (oMv tm) (s1 rfl) <| cgB (decide_eq_true hp9) rfl rfl (oFldP o32_3 tm) (s1 rfl) <| crgB (decide_eq_true hp9) rfl rfl (oLdB (n := 0) (k := 4) rfl rfl rfl t30 tm) (s1 rfl) <| cgB (decide_eq_true hp9) rfl rfl (oIdx u30 z51 hy10 tm (cI (by decide))) (s1 rfl) <| cgB (decide_eq_true hp9) rfl rfl (oLd t51 tm) (s1 rfl) <| cgB (decide_eq_true hp9) rfl rfl (oBuild (fs := f_api_Slot) (u := ⟨true, 1, 1⟩) rfl ze51 pl51 po51 (.op (zc := [(.bool false)]) cB rfl (.op (zc := [(.int .i64 0)]) (cI (by decide)) rfl (.op (zc := [(.int .i64 0)]) (cI (by decide)) rfl .nil)))) trivial <| cgB (decide_eq_true hp9) rfl rfl (oREq eqk51 rfl eg51 rfl tm tm) (s2 rfl rfl) <| cp (oPkT (decide_eq_true hp9) tm tm) (s2 rfl rfl) <| cp (oMv tm) (s1 rfl) <| csB (decide_eq_false hp11) rfl rfl <| csB (decide_eq_false hp11) rfl rfl <| csB (decide_eq_false hp11) rfl rfl <| cp (oPkF (decide_eq_false hp11) tm cB) (s1 rfl) <| cp (oAs tm) (s1 rfl) <| .nil) (by kernel_rfl) ?_
          exact pJ1 _ (so h) ⟨rfl, trivial⟩ rfl
      · refine rg (cp (oMv tm) (s1 rfl) <| cp (oEq rfl tm (cI (by decide))) (s1 rfl) <| cp (oMv tm) (s1 rfl) <| cgB (decide_eq_true hp8) rfl rfl (oFldP o32_3 tm) (s1 rfl) <| crgB (decide_eq_true hp8) rfl rfl (oLdB (n := 0) (k := 4) rfl rfl rfl t30 tm) (s1 rfl) <| cgB (decide_eq_true hp8) rfl rfl (oLenL u30 tm) (s1 rfl) <| cgB (decide_eq_true hp8) rfl rfl (oEq rfl tm (cI (by decide))) (s1 rfl) <| cp (oPkT (decide_eq_true hp8) tm tm) (s2 rfl rfl) <| cp (oMv tm) (s1 rfl) <| csB (decide_eq_false hp9) rfl rfl <| csB (decide_eq_false hp9) rfl rfl <| csB (decide_eq_false hp9) rfl rfl <| csB (decide_eq_false hp9) rfl rfl <| csB (decide_eq_false hp9) rfl rfl <| csB (decide_eq_false hp9) rfl rfl <| cp (oPkF (decide_eq_false hp9) tm cB) (s1 rfl) <| cp (oMv tm) (s1 rfl) <| csB rfl rfl rfl <| csB rfl rfl rfl <| csB rfl rfl rfl <| cp (oPkF rfl tm cB) (s1 rfl) <| cp (oAs tm) (s1 rfl) <| .nil) (by kernel_rfl) ?_
        exact pJ1 _ (so h) ⟨rfl, trivial⟩ rfl
    · refine rg (cp (oMv tm) (s1 rfl) <| cp (oEq rfl tm (cI (by decide))) (s1 rfl) <| cp (oMv tm) (s1 rfl) <| csB (decide_eq_false hp8) rfl rfl <| csB (decide_eq_false hp8) rfl rfl <| csB (decide_eq_false hp8) rfl rfl <| csB (decide_eq_false hp8) rfl rfl <| cp (oPkF (decide_eq_false hp8) tm cB) (s1 rfl) <| cp (oMv tm) (s1 rfl) <| csB rfl rfl rfl <| csB rfl rfl rfl <| csB rfl rfl rfl <| csB rfl rfl rfl <| csB rfl rfl rfl <| csB rfl rfl rfl <| cp (oPkF rfl tm cB) (s1 rfl) <| cp (oMv tm) (s1 rfl) <| csB rfl rfl rfl <| csB rfl rfl rfl <| csB rfl rfl rfl <| cp (oPkF rfl tm cB) (s1 rfl) <| cp (oAs tm) (s1 rfl) <| .nil) (by kernel_rfl) ?_
      exact pJ1 _ (so h) ⟨rfl, trivial⟩ rfl
  · rintro x7 rfl
    replace h := hk1
    refine wRet ?_
    obtain rfl := so h
    exact pR1 (.inl rfl) rfl (.tmp rfl <| .nil)

theorem reticentlaw09_StateBack.ok {a0 : api_Lattice} {a1 : api_State} {a2 : Str} {r : Bool} (h : reticentlaw09_StateBack.f a0 a1 a2 = some r) : FnA Tryz.prog 3 [(kR f_api_Lattice).sig a0, (kR f_api_State).sig a1, kS.sig a2] (kB.sig r) := by
  refine fnIntro Tryz.func3 rfl (by kernel_rfl) fun H0 w0 => ?_
  unfold reticentlaw09_StateBack.f at h
  refine wSeq ?_
  refine rg (cw (oBoxS (id := 3) (fs := f_api_Lattice) tm) (s1 rfl) <| cw (oBoxP (id := 4) (d := (kR f_api_State)) (ls := [.d (kI .i64) a1.Pc.V, .d (kI .i64) a1.Pc.L, .d (kL (kR f_api_Instr)) a1.Code, .d (kL (kR f_api_Atom)) a1.Mem, .d (kL (kR f_api_Slot)) a1.Stack, .d (kL (kR f_api_Atom)) a1.Out]) (lfS (lfC (lfS (lfC lf1 (lfC lf1 lfN))) (lfC lf1 (lfC lf1 (lfC lf1 (lfC lf1 lfN)))))) rfl tm) (s1 rfl) <| cp (oAs cB) trivial <| .nil) (by kernel_rfl) ?_
  refine pSeq ?_
  refine wSeq ?_
  obtain ⟨y1, hy1, h⟩ := bd h
  obtain ⟨y2, hy2, h⟩ := bd h
  obtain ⟨hc3, h⟩ := ib h
  refine rgD hm (cr (oLdA (n := 1) (fs := f_api_Lattice) (u := ⟨a0.Names, a0.Up⟩) rfl ⟨rfl, rfl, trivial⟩ t25 tm) (s1 rfl) <| cp (oCall rfl (reticentlaw09_few.ok hy1) b5 (opds_cons tm opds_nil)) (s1 rfl) <| cr (oLdP (n := 0) (k := 0) (m := 6) (d := (kR f_api_State)) (u := a1) (lfS (lfC (lfS (lfC lf1 (lfC lf1 lfN))) (lfC lf1 (lfC lf1 (lfC lf1 (lfC lf1 lfN)))))) rfl rfl rfl t32 tm) (s1 rfl) <| cp (oCall rfl (reticentlaw09_cut.ok hy2) b6 (opds_cons tm opds_nil)) (s1 rfl) <| cp (oMv tm) (s1 rfl) <| cp (oMv tm) (s1 rfl) <| cp (oLenS u9 tm) (s1 rfl) <| cp (oMin tm (cI (by decide))) (s1 rfl) <| cp (oCutSH u9 hc3.1 hc3.2 tm tm) (s2 rfl rfl) <| cwn (oStA (n := 1) (fs := f_api_Lattice) rfl rfl z25 tm tm) (s2 rfl rfl) <| cwn (oStP (n := 0) (k := 0) (m := 6) (d := (kR f_api_State)) (u := y2) (lfS (lfC (lfS (lfC lf1 (lfC lf1 lfN))) (lfC lf1 (lfC lf1 (lfC lf1 (lfC lf1 lfN)))))) rfl rfl rfl z32 tm tm) (s2 rfl rfl) <| cp (oAs tm) (s1 rfl) <| .nil) (by kernel_rfl) (by kernel_rfl) ?_
  refine pSeq ?_
  refine wSeq ?_
  refine wSeq ?_
  obtain ⟨y4, hy4, h⟩ := bd h
  refine rg (cr (oLdA (n := 1) (fs := f_api_Lattice) (u := ⟨y1.Names, y1.Up⟩) rfl ⟨rfl, rfl, trivial⟩ t25 tm) (s1 rfl) <| cr (oLdP (n := 0) (k := 0) (m := 6) (d := (kR f_api_State)) (u := y2) (lfS (lfC (lfS (lfC lf1 (lfC lf1 lfN))) (lfC lf1 (lfC lf1 (lfC lf1 (lfC lf1 lfN)))))) rfl rfl rfl t32 tm) (s1 rfl) <| cp (oCall rfl (state_Text.ok hy4) b7 (opds_cons tm (opds_cons tm opds_nil))) (s2 rfl rfl) <| cp (oMv tm) (s1 rfl) <| cp (oExt (k := 0) rfl tm) (s1 rfl) <| cp (oExt (k := 1) rfl tm) (s1 rfl) <| cp (oAs tm) (s1 rfl) <| cp (oAs tm) (s1 rfl) <| .nil) (by kernel_rfl) ?_
  refine pSeq ?_
  refine wSeq ?_
  refine rg (cp (oMv tm) (s1 rfl) <| cp (oEq rfl tm (cI (by decide))) (s1 rfl) <| .nil) (by kernel_rfl) ?_
  refine pSeq ?_
  rcases ic h with ⟨hp5, h⟩ | ⟨hp5, h⟩
  · refine wCT hp5 tm (s1 rfl) ?_
    refine wSeq ?_
    obtain ⟨y6, hy6, h⟩ := bd h
    refine rg (cr (oLdA (n := 1) (fs := f_api_Lattice) (u := ⟨y1.Names, y1.Up⟩) rfl ⟨rfl, rfl, trivial⟩ t25 tm) (s1 rfl) <| cp (oMv tm) (s1 rfl) <| cp (oCall rfl (state_Parse.ok hy6) b8 (opds_cons tm (opds_cons tm opds_nil))) (s2 rfl rfl) <| cp (oMv tm) (s1 rfl) <| cp (oExt (k := 0) rfl tm) (s1 rfl) <| cp (oExt (k := 1) rfl tm) (s1 rfl) <| cp (oExt (k := 2) rfl tm) (s1 rfl) <| cw (oAlloc (id := 9) (ls := [.d (kI .i64) 0, .d (kI .i64) 0, .d (kL (kR f_api_Instr)) [], .d (kL (kR f_api_Atom)) [], .d (kL (kR f_api_Slot)) [], .d (kL (kR f_api_Atom)) []]) ze32 (fun g => ⟨[(.int .i64 0)], _, rfl, zI_i64 g.H, ⟨[(.int .i64 0)], _, rfl, zI_i64 g.H, ⟨[(.slice none 0 0)], _, rfl, zL g.H, ⟨[(.slice none 0 0)], _, rfl, zL g.H, ⟨[(.slice none 0 0)], _, rfl, zL g.H, ⟨[(.slice none 0 0)], _, rfl, zL g.H, rfl⟩⟩⟩⟩⟩⟩)) trivial <| cwn (oStP (n := 0) (k := 0) (m := 6) (d := (kR f_api_State)) (u := y6.1) (lfS (lfC (lfS (lfC lf1 (lfC lf1 lfN))) (lfC lf1 (lfC lf1 (lfC lf1 (lfC lf1 lfN)))))) rfl rfl rfl z32 tm tm) (s2 rfl rfl) <| cp (oAs tm) (s1 rfl) <| cp (oAs tm) (s1 rfl) <| .nil) (by kernel_rfl) ?_
    refine pSeq ?_
    obtain ⟨o1, h, hk1⟩ := bd h
    refine wJ1 (fun x11 => x11 = o1) (fun x11 => [(2, .d (kS.sig (sCut a2 0 (if 2010 < (a2.length : Int) then 2010 else (a2.length : Int))))), (3, .p 3 0), (54, .d (kB.sig x11))]) (fun x11 => [.box 9 32 [.d (kI .i64) y6.1.Pc.V, .d (kI .i64) y6.1.Pc.L, .d (kL (kR f_api_Instr)) y6.1.Code, .d (kL (kR f_api_Atom)) y6.1.Mem, .d (kL (kR f_api_Slot)) y6.1.Stack, .d (kL (kR f_api_Atom)) y6.1.Out], .box 4 32 [.d (kI .i64) y2.Pc.V, .d (kI .i64) y2.Pc.L, .d (kL (kR f_api_Instr)) y2.Code, .d (kL (kR f_api_Atom)) y2.Mem, .d (kL (kR f_api_Slot)) y2.Stack, .d (kL (kR f_api_Atom)) y2.Out], .box 3 25 [.d (kL kS) y1.Names, .d (kL (kI .u32)) y1.Up]]) ?_ ?_
    · rcases ic h with ⟨hp12, h⟩ | ⟨hp12, h⟩
      · refine rg (cp (oMv tm) (s1 rfl) <| cp (oNe rfl tm (cI (by decide))) (s1 rfl) <| cp (oMv tm) (s1 rfl) <| csB (nf hp12) rfl rfl <| csB (nf hp12) rfl rfl <| csB (nf hp12) rfl rfl <| csU rfl rfl <| csU rfl rfl <| csB (nf hp12) rfl rfl <| csB (nf hp12) rfl rfl <| csU rfl rfl <| csU rfl rfl <| csU rfl rfl <| csU rfl rfl <| csB (nf hp12) rfl rfl <| cp (oPkF (nf hp12) tm cB) (s1 rfl) <| .nil) (by kernel_rfl) ?_
        exact pJ1 _ (so h) ⟨rfl, rfl, rfl, trivial⟩ rfl
      · rcases ic h with ⟨hp13, h⟩ | ⟨hp13, h⟩
        · rcases ic h with ⟨hp14, h⟩ | ⟨hp14, h⟩
          · obtain ⟨y15, hy15, h⟩ := bd h
            refine rg (cp (oMv tm) (s1 rfl) <| cp (oNe rfl tm (cI (by decide))) (s1 rfl) <| cp (oMv tm) (s1 rfl) <| cgB (nt hp12) rfl rfl (oMv tm) (s1 rfl) <| cgB (nt hp12) rfl rfl (oNe rfl tm (cI (by decide))) (s1 rfl) <| cgB (nt hp12) rfl rfl (oMv tm) (s1 rfl) <| cgB (nf hp13) rfl rfl (oMv tm) (s1 rfl) <| cgB (nf hp13) rfl rfl (oNe rfl tm (cI (by decide))) (s1 rfl) <| cgB (nt hp12) rfl rfl (oPkF (nf hp13) tm tm) (s2 rfl rfl) <| cgB (nt hp12) rfl rfl (oMv tm) (s1 rfl) <| crgB (nf hp14) rfl rfl (oLdP (n := 0) (k := 0) (m := 6) (d := (kR f_api_State)) (u := y6.1) (lfS (lfC (lfS (lfC lf1 (lfC lf1 lfN))) (lfC lf1 (lfC lf1 (lfC lf1 (lfC lf1 lfN)))))) rfl rfl rfl t32 tm) (s1 rfl) <| crgB (nf hp14) rfl rfl (oLdP (n := 1) (k := 0) (m := 6) (d := (kR f_api_State)) (u := y2) (lfS (lfC (lfS (lfC lf1 (lfC lf1 lfN))) (lfC lf1 (lfC lf1 (lfC lf1 (lfC lf1 lfN)))))) rfl rfl rfl t32 tm) (s1 rfl) <| cgB (nf hp14) rfl rfl (oCall rfl (reticentref09_Same.ok hy15) b9 (opds_cons tm (opds_cons tm opds_nil))) (s2 rfl rfl) <| cgB (nf hp14) rfl rfl (oNot tm) (s1 rfl) <| cgB (nt hp12) rfl rfl (oPkF (nf hp14) tm tm) (s2 rfl rfl) <| cp (oPkT (nt hp12) tm tm) (s2 rfl rfl) <| .nil) (by kernel_rfl) ?_
            exact pJ1 _ (so h) ⟨rfl, rfl, rfl, trivial⟩ rfl
          · refine rg (cp (oMv tm) (s1 rfl) <| cp (oNe rfl tm (cI (by decide))) (s1 rfl) <| cp (oMv tm) (s1 rfl) <| cgB (nt hp12) rfl rfl (oMv tm) (s1 rfl) <| cgB (nt hp12) rfl rfl (oNe rfl tm (cI (by decide))) (s1 rfl) <| cgB (nt hp12) rfl rfl (oMv tm) (s1 rfl) <| cgB (nf hp13) rfl rfl (oMv tm) (s1 rfl) <| cgB (nf hp13) rfl rfl (oNe rfl tm (cI (by decide))) (s1 rfl) <| cgB (nt hp12) rfl rfl (oPkF (nf hp13) tm tm) (s2 rfl rfl) <| cgB (nt hp12) rfl rfl (oMv tm) (s1 rfl) <| csB (nt hp14) rfl rfl <| csB (nt hp14) rfl rfl <| csB (nt hp14) rfl rfl <| csB (nt hp14) rfl rfl <| cgB (nt hp12) rfl rfl (oPkT (nt hp14) tm cB) (s1 rfl) <| cp (oPkT (nt hp12) tm tm) (s2 rfl rfl) <| .nil) (by kernel_rfl) ?_
            exact pJ1 _ (so h) ⟨rfl, rfl, rfl, trivial⟩ rfl
        · refine rg (cp (oMv tm) (s1 rfl) <| cp (oNe rfl tm (cI (by decide))) (s1 rfl) <| cp (oMv tm) (s1 rfl) <| cgB (nt hp12) rfl rfl (oMv tm) (s1 rfl) <| cgB (nt hp12) rfl rfl (oNe rfl tm (cI (by decide))) (s1 rfl) <| cgB (nt hp12) rfl rfl (oMv tm) (s1 rfl) <| csB (nt hp13) rfl rfl <| csB (nt hp13) rfl rfl <| cgB (nt hp12) rfl rfl (oPkT (nt hp13) tm cB) (s1 rfl) <| cgB (nt hp12) rfl rfl (oMv tm) (s1 rfl) <| csB rfl rfl rfl <| csB rfl rfl rfl <| csB rfl rfl rfl <| csB rfl rfl rfl <| cgB (nt hp12) rfl rfl (oPkT rfl tm cB) (s1 rfl) <| cp (oPkT (nt hp12) tm tm) (s2 rfl rfl) <| .nil) (by kernel_rfl) ?_
          exact pJ1 _ (so h) ⟨rfl, rfl, rfl, trivial⟩ rfl
    · rintro x11 rfl
      replace h := hk1
      rcases ic h with ⟨hp16, h⟩ | ⟨hp16, h⟩
      · refine wBT hp16 tm (s1 rfl) ?_
        refine wSeq ?_
        refine rg (cp (oAs cB) trivial <| .nil) (by kernel_rfl) ?_
        refine pSeq ?_
        refine wRet ?_
        refine pThenR ?_
        obtain rfl := so h
        exact pR1 (.inl rfl) rfl (.tmp rfl <| .nil)
      · refine wBF hp16 tm (s1 rfl) ?_
        refine wSkip ?_
        refine pSeq ?_
        refine wSeq ?_
        obtain ⟨y17, hy17, h⟩ := bd h
        refine rg (cr (oLdA (n := 2) (fs := f_api_Lattice) (u := ⟨y1.Names, y1.Up⟩) rfl ⟨rfl, rfl, trivial⟩ t25 tm) (s1 rfl) <| cp (oMv tm) (s1 rfl) <| cp (oCall rfl (state_Parse.ok hy17) b8 (opds_cons tm (opds_cons tm opds_nil))) (s2 rfl rfl) <| cp (oMv tm) (s1 rfl) <| cp (oExt (k := 0) rfl tm) (s1 rfl) <| cp (oExt (k := 1) rfl tm) (s1 rfl) <| cp (oExt (k := 2) rfl tm) (s1 rfl) <| cw (oAlloc (id := 12) (ls := [.d (kI .i64) 0, .d (kI .i64) 0, .d (kL (kR f_api_Instr)) [], .d (kL (kR f_api_Atom)) [], .d (kL (kR f_api_Slot)) [], .d (kL (kR f_api_Atom)) []]) ze32 (fun g => ⟨[(.int .i64 0)], _, rfl, zI_i64 g.H, ⟨[(.int .i64 0)], _, rfl, zI_i64 g.H, ⟨[(.slice none 0 0)], _, rfl, zL g.H, ⟨[(.slice none 0 0)], _, rfl, zL g.H, ⟨[(.slice none 0 0)], _, rfl, zL g.H, ⟨[(.slice none 0 0)], _, rfl, zL g.H, rfl⟩⟩⟩⟩⟩⟩)) trivial <| cwn (oStP (n := 0) (k := 0) (m := 6) (d := (kR f_api_State)) (u := y17.1) (lfS (lfC (lfS (lfC lf1 (lfC lf1 lfN))) (lfC lf1 (lfC lf1 (lfC lf1 (lfC lf1 lfN)))))) rfl rfl rfl z32 tm tm) (s2 rfl rfl) <| cp (oAs tm) (s1 rfl) <| cp (oAs tm) (s1 rfl) <| .nil) (by kernel_rfl) ?_
        refine pSeq ?_
        refine wSeq ?_
        refine wSeq ?_
        refine rg (cp (oMv tm) (s1 rfl) <| cp (oNe rfl tm (cI (by decide))) (s1 rfl) <| .nil) (by kernel_rfl) ?_
        refine pSeq ?_
        rcases ic h with ⟨hp18, h⟩ | ⟨hp18, h⟩
        · refine wNT hp18 tm (s1 rfl) ?_
          refine wSkip ?_
          refine pSeq ?_
          obtain ⟨o1, h, hk1⟩ := bd h
          refine wJ1 (fun x22 => x22 = o1) (fun x22 => [(6, .d (kB.sig x22))]) (fun x22 => [.box 12 32 [.d (kI .i64) y17.1.Pc.V, .d (kI .i64) y17.1.Pc.L, .d (kL (kR f_api_Instr)) y17.1.Code, .d (kL (kR f_api_Atom)) y17.1.Mem, .d (kL (kR f_api_Slot)) y17.1.Stack, .d (kL (kR f_api_Atom)) y17.1.Out], .box 9 32 [.d (kI .i64) y6.1.Pc.V, .d (kI .i64) y6.1.Pc.L, .d (kL (kR f_api_Instr)) y6.1.Code, .d (kL (kR f_api_Atom)) y6.1.Mem, .d (kL (kR f_api_Slot)) y6.1.Stack, .d (kL (kR f_api_Atom)) y6.1.Out], .box 4 32 [.d (kI .i64) y2.Pc.V, .d (kI .i64) y2.Pc.L, .d (kL (kR f_api_Instr)) y2.Code, .d (kL (kR f_api_Atom)) y2.Mem, .d (kL (kR f_api_Slot)) y2.Stack, .d (kL (kR f_api_Atom)) y2.Out], .box 3 25 [.d (kL kS) y1.Names, .d (kL (kI .u32)) y1.Up]]) ?_ ?_
          · obtain ⟨y23, hy23, h⟩ := bd h
            rcases ic h with ⟨hp24, h⟩ | ⟨hp24, h⟩
            · obtain ⟨y25, hy25, h⟩ := bd h
              refine rg (cp (oCall rfl (reticentlaw09_alive.ok hy23) b10 opds_nil) trivial <| cp (oMv tm) (s1 rfl) <| crgB hp24 rfl rfl (oLdA (n := 3) (fs := f_api_Lattice) (u := ⟨y1.Names, y1.Up⟩) rfl ⟨rfl, rfl, trivial⟩ t25 tm) (s1 rfl) <| crgB hp24 rfl rfl (oLdP (n := 0) (k := 0) (m := 6) (d := (kR f_api_State)) (u := y17.1) (lfS (lfC (lfS (lfC lf1 (lfC lf1 lfN))) (lfC lf1 (lfC lf1 (lfC lf1 (lfC lf1 lfN)))))) rfl rfl rfl t32 tm) (s1 rfl) <| cgB hp24 rfl rfl (oCall rfl (state_Right.ok hy25) b11 (opds_cons tm (opds_cons tm opds_nil))) (s2 rfl rfl) <| cp (oPkT hp24 tm tm) (s2 rfl rfl) <| cp (oAs tm) (s1 rfl) <| .nil) (by kernel_rfl) ?_
              exact pJ1 _ (so h) ⟨rfl, trivial⟩ rfl
            · refine rg (cp (oCall rfl (reticentlaw09_alive.ok hy23) b10 opds_nil) trivial <| cp (oMv tm) (s1 rfl) <| csB (nb hp24) rfl rfl <| csB (nb hp24) rfl rfl <| csB (nb hp24) rfl rfl <| cp (oPkF (nb hp24) tm cB) (s1 rfl) <| cp (oAs tm) (s1 rfl) <| .nil) (by kernel_rfl) ?_
              exact pJ1 _ (so h) ⟨rfl, trivial⟩ rfl
          · rintro x22 rfl
            replace h := hk1
            refine wRet ?_
            obtain rfl := so h
            exact pR1 (.inl rfl) rfl (.tmp rfl <| .nil)
        · refine wNF hp18 tm (s1 rfl) ?_
          obtain ⟨o1, h, hk1⟩ := bd h
          refine wJ1 (fun x29 => x29 = o1) (fun x29 => [(6, .d (kB.sig x29))]) (fun x29 => [.box 12 32 [.d (kI .i64) y17.1.Pc.V, .d (kI .i64) y17.1.Pc.L, .d (kL (kR f_api_Instr)) y17.1.Code, .d (kL (kR f_api_Atom)) y17.1.Mem, .d (kL (kR f_api_Slot)) y17.1.Stack, .d (kL (kR f_api_Atom)) y17.1.Out], .box 9 32 [.d (kI .i64) y6.1.Pc.V, .d (kI .i64) y6.1.Pc.L, .d (kL (kR f_api_Instr)) y6.1.Code, .d (kL (kR f_api_Atom)) y6.1.Mem, .d (kL (kR f_api_Slot)) y6.1.Stack, .d (kL (kR f_api_Atom)) y6.1.Out], .box 4 32 [.d (kI .i64) y2.Pc.V, .d (kI .i64) y2.Pc.L, .d (kL (kR f_api_Instr)) y2.Code, .d (kL (kR f_api_Atom)) y2.Mem, .d (kL (kR f_api_Slot)) y2.Stack, .d (kL (kR f_api_Atom)) y2.Out], .box 3 25 [.d (kL kS) y1.Names, .d (kL (kI .u32)) y1.Up]]) ?_ ?_
          · obtain ⟨y30, hy30, h⟩ := bd h
            rcases ic h with ⟨hp31, h⟩ | ⟨hp31, h⟩
            · obtain ⟨y32, hy32, h⟩ := bd h
              refine rg (cp (oCall rfl (reticentlaw09_alive.ok hy30) b10 opds_nil) trivial <| cp (oMv tm) (s1 rfl) <| crgB hp31 rfl rfl (oLdP (n := 0) (k := 0) (m := 6) (d := (kR f_api_State)) (u := y17.1) (lfS (lfC (lfS (lfC lf1 (lfC lf1 lfN))) (lfC lf1 (lfC lf1 (lfC lf1 (lfC lf1 lfN)))))) rfl rfl rfl t32 tm) (s1 rfl) <| cgB hp31 rfl rfl (oBuild (fs := f_api_State) (u := ⟨(⟨0, 0⟩ : api_Atom), [], [], [], []⟩) rfl ze32 pl32 po32 (.ze (zc := [(.int .i64 0), (.int .i64 0)]) zR_api_Atom (.ze (zc := [(.slice none 0 0)]) zL (.ze (zc := [(.slice none 0 0)]) zL (.ze (zc := [(.slice none 0 0)]) zL (.ze (zc := [(.slice none 0 0)]) zL .nil)))))) trivial <| cgB hp31 rfl rfl (oCall rfl (reticentref09_Same.ok hy32) b9 (opds_cons tm (opds_cons tm opds_nil))) (s2 rfl rfl) <| cp (oPkT hp31 tm tm) (s2 rfl rfl) <| cp (oAs tm) (s1 rfl) <| .nil) (by kernel_rfl) ?_
              exact pJ1 _ (so h) ⟨rfl, trivial⟩ rfl
            · refine rg (cp (oCall rfl (reticentlaw09_alive.ok hy30) b10 opds_nil) trivial <| cp (oMv tm) (s1 rfl) <| csB (nb hp31) rfl rfl <| csB (nb hp31) rfl rfl <| csB (nb hp31) rfl rfl <| cp (oPkF (nb hp31) tm cB) (s1 rfl) <| cp (oAs tm) (s1 rfl) <| .nil) (by kernel_rfl) ?_
              exact pJ1 _ (so h) ⟨rfl, trivial⟩ rfl
          · rintro x29 rfl
            replace h := hk1
            refine wRet ?_
            refine pThenR ?_
            obtain rfl := so h
            exact pR1 (.inl rfl) rfl (.tmp rfl <| .nil)
  · refine wCF hp5 tm (s1 rfl) ?_
    refine wSkip ?_
    refine pSeq ?_
    refine wSeq ?_
    obtain ⟨y33, hy33, h⟩ := bd h
    refine rg (cr (oLdA (n := 1) (fs := f_api_Lattice) (u := ⟨y1.Names, y1.Up⟩) rfl ⟨rfl, rfl, trivial⟩ t25 tm) (s1 rfl) <| cp (oMv tm) (s1 rfl) <| cp (oCall rfl (state_Parse.ok hy33) b8 (opds_cons tm (opds_cons tm opds_nil))) (s2 rfl rfl) <| cp (oMv tm) (s1 rfl) <| cp (oExt (k := 0) rfl tm) (s1 rfl) <| cp (oExt (k := 1) rfl tm) (s1 rfl) <| cp (oExt (k := 2) rfl tm) (s1 rfl) <| cw (oAlloc (id := 12) (ls := [.d (kI .i64) 0, .d (kI .i64) 0, .d (kL (kR f_api_Instr)) [], .d (kL (kR f_api_Atom)) [], .d (kL (kR f_api_Slot)) [], .d (kL (kR f_api_Atom)) []]) ze32 (fun g => ⟨[(.int .i64 0)], _, rfl, zI_i64 g.H, ⟨[(.int .i64 0)], _, rfl, zI_i64 g.H, ⟨[(.slice none 0 0)], _, rfl, zL g.H, ⟨[(.slice none 0 0)], _, rfl, zL g.H, ⟨[(.slice none 0 0)], _, rfl, zL g.H, ⟨[(.slice none 0 0)], _, rfl, zL g.H, rfl⟩⟩⟩⟩⟩⟩)) trivial <| cwn (oStP (n := 0) (k := 0) (m := 6) (d := (kR f_api_State)) (u := y33.1) (lfS (lfC (lfS (lfC lf1 (lfC lf1 lfN))) (lfC lf1 (lfC lf1 (lfC lf1 (lfC lf1 lfN)))))) rfl rfl rfl z32 tm tm) (s2 rfl rfl) <| cp (oAs tm) (s1 rfl) <| cp (oAs tm) (s1 rfl) <| .nil) (by kernel_rfl) ?_
    refine pSeq ?_
    refine wSeq ?_
    refine wSeq ?_
    refine rg (cp (oMv tm) (s1 rfl) <| cp (oNe rfl tm (cI (by decide))) (s1 rfl) <| .nil) (by kernel_rfl) ?_
    refine pSeq ?_
    rcases ic h with ⟨hp34, h⟩ | ⟨hp34, h⟩
    · refine wNT hp34 tm (s1 rfl) ?_
      refine wSkip ?_
      refine pSeq ?_
      obtain ⟨o1, h, hk1⟩ := bd h
      refine wJ1 (fun x38 => x38 = o1) (fun x38 => [(6, .d (kB.sig x38))]) (fun x38 => [.box 12 32 [.d (kI .i64) y33.1.Pc.V, .d (kI .i64) y33.1.Pc.L, .d (kL (kR f_api_Instr)) y33.1.Code, .d (kL (kR f_api_Atom)) y33.1.Mem, .d (kL (kR f_api_Slot)) y33.1.Stack, .d (kL (kR f_api_Atom)) y33.1.Out], .box 4 32 [.d (kI .i64) y2.Pc.V, .d (kI .i64) y2.Pc.L, .d (kL (kR f_api_Instr)) y2.Code, .d (kL (kR f_api_Atom)) y2.Mem, .d (kL (kR f_api_Slot)) y2.Stack, .d (kL (kR f_api_Atom)) y2.Out], .box 3 25 [.d (kL kS) y1.Names, .d (kL (kI .u32)) y1.Up]]) ?_ ?_
      · obtain ⟨y39, hy39, h⟩ := bd h
        rcases ic h with ⟨hp40, h⟩ | ⟨hp40, h⟩
        · obtain ⟨y41, hy41, h⟩ := bd h
          refine rg (cp (oCall rfl (reticentlaw09_alive.ok hy39) b10 opds_nil) trivial <| cp (oMv tm) (s1 rfl) <| crgB hp40 rfl rfl (oLdA (n := 2) (fs := f_api_Lattice) (u := ⟨y1.Names, y1.Up⟩) rfl ⟨rfl, rfl, trivial⟩ t25 tm) (s1 rfl) <| crgB hp40 rfl rfl (oLdP (n := 0) (k := 0) (m := 6) (d := (kR f_api_State)) (u := y33.1) (lfS (lfC (lfS (lfC lf1 (lfC lf1 lfN))) (lfC lf1 (lfC lf1 (lfC lf1 (lfC lf1 lfN)))))) rfl rfl rfl t32 tm) (s1 rfl) <| cgB hp40 rfl rfl (oCall rfl (state_Right.ok hy41) b11 (opds_cons tm (opds_cons tm opds_nil))) (s2 rfl rfl) <| cp (oPkT hp40 tm tm) (s2 rfl rfl) <| cp (oAs tm) (s1 rfl) <| .nil) (by kernel_rfl) ?_
          exact pJ1 _ (so h) ⟨rfl, trivial⟩ rfl
        · refine rg (cp (oCall rfl (reticentlaw09_alive.ok hy39) b10 opds_nil) trivial <| cp (oMv tm) (s1 rfl) <| csB (nb hp40) rfl rfl <| csB (nb hp40) rfl rfl <| csB (nb hp40) rfl rfl <| cp (oPkF (nb hp40) tm cB) (s1 rfl) <| cp (oAs tm) (s1 rfl) <| .nil) (by kernel_rfl) ?_
          exact pJ1 _ (so h) ⟨rfl, trivial⟩ rfl
      · rintro x38 rfl
        replace h := hk1
        refine wRet ?_
        obtain rfl := so h
        exact pR1 (.inl rfl) rfl (.tmp rfl <| .nil)
    · refine wNF hp34 tm (s1 rfl) ?_
      obtain ⟨o1, h, hk1⟩ := bd h
      refine wJ1 (fun x45 => x45 = o1) (fun x45 => [(6, .d (kB.sig x45))]) (fun x45 => [.box 12 32 [.d (kI .i64) y33.1.Pc.V, .d (kI .i64) y33.1.Pc.L, .d (kL (kR f_api_Instr)) y33.1.Code, .d (kL (kR f_api_Atom)) y33.1.Mem, .d (kL (kR f_api_Slot)) y33.1.Stack, .d (kL (kR f_api_Atom)) y33.1.Out], .box 4 32 [.d (kI .i64) y2.Pc.V, .d (kI .i64) y2.Pc.L, .d (kL (kR f_api_Instr)) y2.Code, .d (kL (kR f_api_Atom)) y2.Mem, .d (kL (kR f_api_Slot)) y2.Stack, .d (kL (kR f_api_Atom)) y2.Out], .box 3 25 [.d (kL kS) y1.Names, .d (kL (kI .u32)) y1.Up]]) ?_ ?_
      · obtain ⟨y46, hy46, h⟩ := bd h
        rcases ic h with ⟨hp47, h⟩ | ⟨hp47, h⟩
        · obtain ⟨y48, hy48, h⟩ := bd h
          refine rg (cp (oCall rfl (reticentlaw09_alive.ok hy46) b10 opds_nil) trivial <| cp (oMv tm) (s1 rfl) <| crgB hp47 rfl rfl (oLdP (n := 0) (k := 0) (m := 6) (d := (kR f_api_State)) (u := y33.1) (lfS (lfC (lfS (lfC lf1 (lfC lf1 lfN))) (lfC lf1 (lfC lf1 (lfC lf1 (lfC lf1 lfN)))))) rfl rfl rfl t32 tm) (s1 rfl) <| cgB hp47 rfl rfl (oBuild (fs := f_api_State) (u := ⟨(⟨0, 0⟩ : api_Atom), [], [], [], []⟩) rfl ze32 pl32 po32 (.ze (zc := [(.int .i64 0), (.int .i64 0)]) zR_api_Atom (.ze (zc := [(.slice none 0 0)]) zL (.ze (zc := [(.slice none 0 0)]) zL (.ze (zc := [(.slice none 0 0)]) zL (.ze (zc := [(.slice none 0 0)]) zL .nil)))))) trivial <| cgB hp47 rfl rfl (oCall rfl (reticentref09_Same.ok hy48) b9 (opds_cons tm (opds_cons tm opds_nil))) (s2 rfl rfl) <| cp (oPkT hp47 tm tm) (s2 rfl rfl) <| cp (oAs tm) (s1 rfl) <| .nil) (by kernel_rfl) ?_
          exact pJ1 _ (so h) ⟨rfl, trivial⟩ rfl
        · refine rg (cp (oCall rfl (reticentlaw09_alive.ok hy46) b10 opds_nil) trivial <| cp (oMv tm) (s1 rfl) <| csB (nb hp47) rfl rfl <| csB (nb hp47) rfl rfl <| csB (nb hp47) rfl rfl <| cp (oPkF (nb hp47) tm cB) (s1 rfl) <| cp (oAs tm) (s1 rfl) <| .nil) (by kernel_rfl) ?_
          exact pJ1 _ (so h) ⟨rfl, trivial⟩ rfl
      · rintro x45 rfl
        replace h := hk1
        refine wRet ?_
        refine pThenR ?_
        obtain rfl := so h
        exact pR1 (.inl rfl) rfl (.tmp rfl <| .nil)

end Go.Proofs.YtkcpghpglhamfaaGreatDoor.SK
