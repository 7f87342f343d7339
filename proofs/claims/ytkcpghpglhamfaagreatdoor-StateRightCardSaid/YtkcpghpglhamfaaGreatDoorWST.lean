import Derived.Test.YtkcpghpglhamfaaGreatDoorShelf
import Derived.Test.YtkcpghpglhamfaaGreatDoorWSTp3
import Derived.Test.YtkcpghpglhamfaaGreatDoorProg
set_option linter.unusedVariables false
set_option maxRecDepth 10000
set_option maxHeartbeats 2000000
namespace Go.Proofs.YtkcpghpglhamfaaGreatDoor.ST
open Go Go.Proofs.YtkcpghpglhamfaaGreatDoor.Ab

theorem reticentref08_Text.ok {a0 : api_Lattice} {a1 : List api_Instr} {r : Str} (h : reticentref08_Text.f a0 a1 = some r) : FnA Tryz.prog 45 [(kR f_api_Lattice).sig a0, (kL (kR f_api_Instr)).sig a1] (kS.sig r) := by
  refine fnIntro Tryz.func45 rfl (by kernel_rfl) fun H0 w0 => ?_
  unfold reticentref08_Text.f at h
  refine wSeq ?_
  refine rg (cp (oBox tm) (s1 rfl) <| cp (oAs (cS (by decide))) trivial <| .nil) (by kernel_rfl) ?_
  refine pSeq ?_
  refine wSeq ?_
  refine rg (cp (oAs (cS (by decide))) trivial <| .nil) (by kernel_rfl) ?_
  refine pSeq ?_
  refine wSeq ?_
  refine wSeq ?_
  refine rg (cp (oMv tm) (s1 rfl) <| cp (oLenL u28 tm) (s1 rfl) <| cp (oMv (cI (by decide))) trivial <| .nil) (by kernel_rfl) ?_
  refine pSeq ?_
  obtain ⟨o1, h, hk1⟩ := bd h
  refine wK1 (fun x171 => x171 = o1) (fun x171 => [(5, .d (kS.sig x171))]) (fun x171 => []) ?_ ?_
  · refine wBlock (wLoop ?_)
    refine lW (pc2 o1 (fun v169 v170 => [(2, .d (sP (kR f_api_Lattice) a0)), (5, .d (kS.sig v170)), (8, .d ((kL (kR f_api_Instr)).sig a1)), (9, .d ((kI .i64).sig (a1.length : Int))), (10, .d ((kI .i64).sig v169))]) (fun v169 v170 => []) (reticentref08_Text.l0.partial_correctness a0 a1) ?_ _ _ h) ⟨rfl, rfl, rfl, rfl, rfl, trivial⟩ rfl
    clear h
    intro f' ih v169 v170 h
    refine wSeq ?_
    refine rg (cp (oLt rfl tm tm) (s2 rfl rfl) <| .nil) (by kernel_rfl) ?_
    refine pSeq ?_
    refine wSeq ?_
    rcases ic h with ⟨hp172, h⟩ | ⟨hp172, h⟩
    · refine wCT hp172 tm (s1 rfl) ?_
      refine wSkip ?_
      refine pSeq ?_
      obtain ⟨o2, h, hk2⟩ := bd h
      refine wJ1 (fun x214 => x214 = o2) (fun x214 => [(2, .d (sP (kR f_api_Lattice) a0)), (5, .d (kS.sig x214)), (8, .d ((kL (kR f_api_Instr)).sig a1)), (9, .d ((kI .i64).sig (a1.length : Int))), (10, .d ((kI .i64).sig v169))]) (fun x214 => []) ?_ ?_
      · refine wBlock ?_
        refine wSeq ?_
        obtain ⟨y215, hy215, h⟩ := bd h
        refine rg (cp (oMv tm) (s1 rfl) <| cp (oIdx u28 z81 hy215 tm tm) (s2 rfl rfl) <| cp (oLd t81 tm) (s1 rfl) <| cw (oAlloc (id := 7) (ls := [.d (kI .i64) 0, .d (kI .i64) 0, .d (kI .i64) 0]) ze81 (fun g => ⟨[(.int .i64 0)], _, rfl, zI_i64 g.H, ⟨[(.int .i64 0)], _, rfl, zI_i64 g.H, ⟨[(.int .i64 0)], _, rfl, zI_i64 g.H, rfl⟩⟩⟩)) trivial <| cp (oAs tm) (s1 rfl) <| cwn (oStA (n := 0) (fs := f_api_Instr) rfl rfl z81 tm tm) (s2 rfl rfl) <| .nil) (by kernel_rfl) ?_
        refine pSeq ?_
        refine wSeq ?_
        refine wSeq ?_
        refine rg (cp (oMv tm) (s1 rfl) <| cp (oGt rfl tm (cI (by decide))) (s1 rfl) <| .nil) (by kernel_rfl) ?_
        refine pSeq ?_
        rcases ic h with ⟨hp216, h⟩ | ⟨hp216, h⟩
        · refine wCT hp216 tm (s1 rfl) ?_
          obtain ⟨hc217, h⟩ := ib h
          refine rg (cp (oMv tm) (s1 rfl) <| cp (oSAdd hc217 tm (cS (by decide))) (s1 rfl) <| cp (oAs tm) (s1 rfl) <| .nil) (by kernel_rfl) ?_
          refine pSeq ?_
          refine wSeq ?_
          obtain ⟨y218, hy218, h⟩ := bd h
          obtain ⟨hc219, h⟩ := ib h
          refine rg (cp (oMv tm) (s1 rfl) <| cp (oFldP o81_0 tm) (s1 rfl) <| cr (oLdB (n := 0) (k := 0) rfl rfl rfl t3 tm) (s1 rfl) <| cp (oCall rfl (reticentref06_Word.ok hy218) b75 (opds_cons tm opds_nil)) (s1 rfl) <| cp (oSAdd hc219 tm tm) (s2 rfl rfl) <| cp (oAs tm) (s1 rfl) <| .nil) (by kernel_rfl) ?_
          refine pSeq ?_
          refine wSeq ?_
          refine wSeq ?_
          obtain ⟨y220, hy220, h⟩ := bd h
          refine rg (cp (oFldP o81_0 tm) (s1 rfl) <| cr (oLdB (n := 0) (k := 0) rfl rfl rfl t3 tm) (s1 rfl) <| cp (oCall rfl (reticentref08_Number.ok hy220) b76 (opds_cons tm opds_nil)) (s1 rfl) <| .nil) (by kernel_rfl) ?_
          refine pSeq ?_
          rcases ic h with ⟨hp221, h⟩ | ⟨hp221, h⟩
          · refine wBT hp221 tm (s1 rfl) ?_
            obtain ⟨hc222, h⟩ := ib h
            obtain ⟨y223, hy223, h⟩ := bd h
            obtain ⟨hc224, h⟩ := ib h
            refine rg (cp (oMv tm) (s1 rfl) <| cp (oSAdd hc222 tm (cS (by decide))) (s1 rfl) <| cp (oFldP o81_1 tm) (s1 rfl) <| cr (oLdB (n := 0) (k := 1) rfl rfl rfl t3 tm) (s1 rfl) <| cp (oCall rfl (reticentref08_Signed.ok hy223) b74 (opds_cons tm opds_nil)) (s1 rfl) <| cp (oSAdd hc224 tm tm) (s2 rfl rfl) <| cp (oAs tm) (s1 rfl) <| .nil) (by kernel_rfl) ?_
            refine pSeq ?_
            refine wSeq ?_
            refine wSeq ?_
            refine rg (cp (oFldP o81_0 tm) (s1 rfl) <| cr (oLdB (n := 0) (k := 0) rfl rfl rfl t3 tm) (s1 rfl) <| cp (oEq rfl tm (cI (by decide))) (s1 rfl) <| .nil) (by kernel_rfl) ?_
            refine pSeq ?_
            rcases ic h with ⟨hp225, h⟩ | ⟨hp225, h⟩
            · refine wCT hp225 tm (s1 rfl) ?_
              obtain ⟨hc226, h⟩ := ib h
              obtain ⟨y227, hy227, h⟩ := bd h
              obtain ⟨hc228, h⟩ := ib h
              refine rg (cp (oMv tm) (s1 rfl) <| cp (oSAdd hc226 tm (cS (by decide))) (s1 rfl) <| cp (oFld (fs := f_api_Lattice) (k := 0) rfl o25_0 tm) (s1 rfl) <| cp (oLd t22 tm) (s1 rfl) <| cp (oFldP o81_2 tm) (s1 rfl) <| cr (oLdB (n := 0) (k := 2) rfl rfl rfl t3 tm) (s1 rfl) <| cp (oIdx u22 z9 hy227 tm tm) (s2 rfl rfl) <| cp (oLd t9 tm) (s1 rfl) <| cp (oSAdd hc228 tm tm) (s2 rfl rfl) <| cp (oAs tm) (s1 rfl) <| .nil) (by kernel_rfl) ?_
              refine pSeq ?_
              obtain ⟨hc229, h⟩ := ib h
              refine rg (cp (oMv tm) (s1 rfl) <| cp (oSAdd hc229 tm (cS (by decide))) (s1 rfl) <| cp (oAs tm) (s1 rfl) <| .nil) (by kernel_rfl) ?_
              refine pBlkN ?_
              refine pDrop (.cons _ .slnil) ?_
              exact pJ1 _ (so h) ⟨rfl, rfl, rfl, rfl, rfl, trivial⟩ rfl
            · refine wCF hp225 tm (s1 rfl) ?_
              refine wSkip ?_
              refine pSeq ?_
              obtain ⟨hc230, h⟩ := ib h
              refine rg (cp (oMv tm) (s1 rfl) <| cp (oSAdd hc230 tm (cS (by decide))) (s1 rfl) <| cp (oAs tm) (s1 rfl) <| .nil) (by kernel_rfl) ?_
              refine pBlkN ?_
              refine pDrop (.cons _ .slnil) ?_
              exact pJ1 _ (so h) ⟨rfl, rfl, rfl, rfl, rfl, trivial⟩ rfl
          · refine wBF hp221 tm (s1 rfl) ?_
            refine wSkip ?_
            refine pSeq ?_
            refine wSeq ?_
            refine wSeq ?_
            refine rg (cp (oFldP o81_0 tm) (s1 rfl) <| cr (oLdB (n := 0) (k := 0) rfl rfl rfl t3 tm) (s1 rfl) <| cp (oEq rfl tm (cI (by decide))) (s1 rfl) <| .nil) (by kernel_rfl) ?_
            refine pSeq ?_
            rcases ic h with ⟨hp231, h⟩ | ⟨hp231, h⟩
            · refine wCT hp231 tm (s1 rfl) ?_
              obtain ⟨hc232, h⟩ := ib h
              obtain ⟨y233, hy233, h⟩ := bd h
              obtain ⟨hc234, h⟩ := ib h
              refine rg (cp (oMv tm) (s1 rfl) <| cp (oSAdd hc232 tm (cS (by decide))) (s1 rfl) <| cp (oFld (fs := f_api_Lattice) (k := 0) rfl o25_0 tm) (s1 rfl) <| cp (oLd t22 tm) (s1 rfl) <| cp (oFldP o81_2 tm) (s1 rfl) <| cr (oLdB (n := 0) (k := 2) rfl rfl rfl t3 tm) (s1 rfl) <| cp (oIdx u22 z9 hy233 tm tm) (s2 rfl rfl) <| cp (oLd t9 tm) (s1 rfl) <| cp (oSAdd hc234 tm tm) (s2 rfl rfl) <| cp (oAs tm) (s1 rfl) <| .nil) (by kernel_rfl) ?_
              refine pSeq ?_
              obtain ⟨hc235, h⟩ := ib h
              refine rg (cp (oMv tm) (s1 rfl) <| cp (oSAdd hc235 tm (cS (by decide))) (s1 rfl) <| cp (oAs tm) (s1 rfl) <| .nil) (by kernel_rfl) ?_
              refine pBlkN ?_
              refine pDrop (.cons _ .slnil) ?_
              exact pJ1 _ (so h) ⟨rfl, rfl, rfl, rfl, rfl, trivial⟩ rfl
            · refine wCF hp231 tm (s1 rfl) ?_
              refine wSkip ?_
              refine pSeq ?_
              obtain ⟨hc236, h⟩ := ib h
              refine rg (cp (oMv tm) (s1 rfl) <| cp (oSAdd hc236 tm (cS (by decide))) (s1 rfl) <| cp (oAs tm) (s1 rfl) <| .nil) (by kernel_rfl) ?_
              refine pBlkN ?_
              refine pDrop (.cons _ .slnil) ?_
              exact pJ1 _ (so h) ⟨rfl, rfl, rfl, rfl, rfl, trivial⟩ rfl
        · refine wCF hp216 tm (s1 rfl) ?_
          refine wSkip ?_
          refine pSeq ?_
          refine wSeq ?_
          obtain ⟨y237, hy237, h⟩ := bd h
          obtain ⟨hc238, h⟩ := ib h
          refine rg (cp (oMv tm) (s1 rfl) <| cp (oFldP o81_0 tm) (s1 rfl) <| cr (oLdB (n := 0) (k := 0) rfl rfl rfl t3 tm) (s1 rfl) <| cp (oCall rfl (reticentref06_Word.ok hy237) b75 (opds_cons tm opds_nil)) (s1 rfl) <| cp (oSAdd hc238 tm tm) (s2 rfl rfl) <| cp (oAs tm) (s1 rfl) <| .nil) (by kernel_rfl) ?_
          refine pSeq ?_
          refine wSeq ?_
          refine wSeq ?_
          obtain ⟨y239, hy239, h⟩ := bd h
          refine rg (cp (oFldP o81_0 tm) (s1 rfl) <| cr (oLdB (n := 0) (k := 0) rfl rfl rfl t3 tm) (s1 rfl) <| cp (oCall rfl (reticentref08_Number.ok hy239) b76 (opds_cons tm opds_nil)) (s1 rfl) <| .nil) (by kernel_rfl) ?_
          refine pSeq ?_
          rcases ic h with ⟨hp240, h⟩ | ⟨hp240, h⟩
          · refine wBT hp240 tm (s1 rfl) ?_
            obtain ⟨hc241, h⟩ := ib h
            obtain ⟨y242, hy242, h⟩ := bd h
            obtain ⟨hc243, h⟩ := ib h
            refine rg (cp (oMv tm) (s1 rfl) <| cp (oSAdd hc241 tm (cS (by decide))) (s1 rfl) <| cp (oFldP o81_1 tm) (s1 rfl) <| cr (oLdB (n := 0) (k := 1) rfl rfl rfl t3 tm) (s1 rfl) <| cp (oCall rfl (reticentref08_Signed.ok hy242) b74 (opds_cons tm opds_nil)) (s1 rfl) <| cp (oSAdd hc243 tm tm) (s2 rfl rfl) <| cp (oAs tm) (s1 rfl) <| .nil) (by kernel_rfl) ?_
            refine pSeq ?_
            refine wSeq ?_
            refine wSeq ?_
            refine rg (cp (oFldP o81_0 tm) (s1 rfl) <| cr (oLdB (n := 0) (k := 0) rfl rfl rfl t3 tm) (s1 rfl) <| cp (oEq rfl tm (cI (by decide))) (s1 rfl) <| .nil) (by kernel_rfl) ?_
            refine pSeq ?_
            rcases ic h with ⟨hp244, h⟩ | ⟨hp244, h⟩
            · refine wCT hp244 tm (s1 rfl) ?_
              obtain ⟨hc245, h⟩ := ib h
              obtain ⟨y246, hy246, h⟩ := bd h
              obtain ⟨hc247, h⟩ := ib h
              refine rg (cp (oMv tm) (s1 rfl) <| cp (oSAdd hc245 tm (cS (by decide))) (s1 rfl) <| cp (oFld (fs := f_api_Lattice) (k := 0) rfl o25_0 tm) (s1 rfl) <| cp (oLd t22 tm) (s1 rfl) <| cp (oFldP o81_2 tm) (s1 rfl) <| cr (oLdB (n := 0) (k := 2) rfl rfl rfl t3 tm) (s1 rfl) <| cp (oIdx u22 z9 hy246 tm tm) (s2 rfl rfl) <| cp (oLd t9 tm) (s1 rfl) <| cp (oSAdd hc247 tm tm) (s2 rfl rfl) <| cp (oAs tm) (s1 rfl) <| .nil) (by kernel_rfl) ?_
              refine pSeq ?_
              obtain ⟨hc248, h⟩ := ib h
              refine rg (cp (oMv tm) (s1 rfl) <| cp (oSAdd hc248 tm (cS (by decide))) (s1 rfl) <| cp (oAs tm) (s1 rfl) <| .nil) (by kernel_rfl) ?_
              refine pBlkN ?_
              refine pDrop (.cons _ .slnil) ?_
              exact pJ1 _ (so h) ⟨rfl, rfl, rfl, rfl, rfl, trivial⟩ rfl
            · refine wCF hp244 tm (s1 rfl) ?_
              refine wSkip ?_
              refine pSeq ?_
              obtain ⟨hc249, h⟩ := ib h
              refine rg (cp (oMv tm) (s1 rfl) <| cp (oSAdd hc249 tm (cS (by decide))) (s1 rfl) <| cp (oAs tm) (s1 rfl) <| .nil) (by kernel_rfl) ?_
              refine pBlkN ?_
              refine pDrop (.cons _ .slnil) ?_
              exact pJ1 _ (so h) ⟨rfl, rfl, rfl, rfl, rfl, trivial⟩ rfl
          · refine wBF hp240 tm (s1 rfl) ?_
            refine wSkip ?_
            refine pSeq ?_
            refine wSeq ?_
            refine wSeq ?_
            refine rg (cp (oFldP o81_0 tm) (s1 rfl) <| cr (oLdB (n := 0) (k := 0) rfl rfl rfl t3 tm) (s1 rfl) <| cp (oEq rfl tm (cI (by decide))) (s1 rfl) <| .nil) (by kernel_rfl) ?_
            refine pSeq ?_
            rcases ic h with ⟨hp250, h⟩ | ⟨hp250, h⟩
            · refine wCT hp250 tm (s1 rfl) ?_
              obtain ⟨hc251, h⟩ := ib h
              obtain ⟨y252, hy252, h⟩ := bd h
              obtain ⟨hc253, h⟩ := ib h
              refine rg (cp (oMv tm) (s1 rfl) <| cp (oSAdd hc251 tm (cS (by decide))) (s1 rfl) <| cp (oFld (fs := f_api_Lattice) (k := 0) rfl o25_0 tm) (s1 rfl) <| cp (oLd t22 tm) (s1 rfl) <| cp (oFldP o81_2 tm) (s1 rfl) <| cr (oLdB (n := 0) (k := 2) rfl rfl rfl t3 tm) (s1 rfl) <| cp (oIdx u22 z9 hy252 tm tm) (s2 rfl rfl) <| cp (oLd t9 tm) (s1 rfl) <| cp (oSAdd hc253 tm tm) (s2 rfl rfl) <| cp (oAs tm) (s1 rfl) <| .nil) (by kernel_rfl) ?_
              refine pSeq ?_
              obtain ⟨hc254, h⟩ := ib h
              refine rg (cp (oMv tm) (s1 rfl) <| cp (oSAdd hc254 tm (cS (by decide))) (s1 rfl) <| cp (oAs tm) (s1 rfl) <| .nil) (by kernel_rfl) ?_
              refine pBlkN ?_
              refine pDrop (.cons _ .slnil) ?_
              exact pJ1 _ (so h) ⟨rfl, rfl, rfl, rfl, rfl, trivial⟩ rfl
            · refine wCF hp250 tm (s1 rfl) ?_
              refine wSkip ?_
              refine pSeq ?_
              obtain ⟨hc255, h⟩ := ib h
              refine rg (cp (oMv tm) (s1 rfl) <| cp (oSAdd hc255 tm (cS (by decide))) (s1 rfl) <| cp (oAs tm) (s1 rfl) <| .nil) (by kernel_rfl) ?_
              refine pBlkN ?_
              refine pDrop (.cons _ .slnil) ?_
              exact pJ1 _ (so h) ⟨rfl, rfl, rfl, rfl, rfl, trivial⟩ rfl
      · rintro x214 rfl
        replace h := hk2
        refine rg (cp (oAdd tm (cI (by decide))) (s1 rfl) <| cp (oMv tm) (s1 rfl) <| .nil) (by kernel_rfl) ?_
        exact pLoop (lW (ih _ _ h) ⟨rfl, rfl, rfl, rfl, rfl, trivial⟩ rfl)
    · refine wCF hp172 tm (s1 rfl) ?_
      refine wExit ?_
      refine pThenX ?_
      refine pThenX ?_
      refine pBlkX ?_
      exact pJ1 _ (so h) ⟨rfl, trivial⟩ rfl
  · rintro x171 rfl
    replace h := hk1
    refine pSeq ?_
    refine wSeq ?_
    refine rg (cp (oMv tm) (s1 rfl) <| cp (oAs tm) (s1 rfl) <| .nil) (by kernel_rfl) ?_
    refine pSeq ?_
    refine wRet ?_
    obtain rfl := so h
    exact pR1 (.inl rfl) rfl (.tmp rfl <| .nil)

theorem reticentref09_line.ok {a0 : api_Lattice} {a1 : Str} {a2 : List api_Atom} {r : Str} (h : reticentref09_line.f a0 a1 a2 = some r) : FnA Tryz.prog 46 [(kR f_api_Lattice).sig a0, kS.sig a1, (kL (kR f_api_Atom)).sig a2] (kS.sig r) := by
  refine fnIntro Tryz.func46 rfl (by kernel_rfl) fun H0 w0 => ?_
  unfold reticentref09_line.f at h
  refine wSeq ?_
  refine rg (cp (oBox tm) (s1 rfl) <| cp (oAs (cS (by decide))) trivial <| .nil) (by kernel_rfl) ?_
  refine pSeq ?_
  refine wSeq ?_
  refine rg (cp (oMv tm) (s1 rfl) <| cp (oAs tm) (s1 rfl) <| .nil) (by kernel_rfl) ?_
  refine pSeq ?_
  refine wSeq ?_
  refine wSeq ?_
  refine rg (cp (oMv tm) (s1 rfl) <| cp (oLenL u29 tm) (s1 rfl) <| cp (oMv (cI (by decide))) trivial <| .nil) (by kernel_rfl) ?_
  refine pSeq ?_
  obtain ⟨o1, h, hk1⟩ := bd h
  refine wK1 (fun x43 => x43 = o1) (fun x43 => [(7, .d (kS.sig x43))]) (fun x43 => []) ?_ ?_
  · refine wBlock (wLoop ?_)
    refine lW (pc2 o1 (fun v41 v42 => [(3, .d (sP (kR f_api_Lattice) a0)), (7, .d (kS.sig v42)), (11, .d ((kL (kR f_api_Atom)).sig a2)), (12, .d ((kI .i64).sig (a2.length : Int))), (13, .d ((kI .i64).sig v41))]) (fun v41 v42 => []) (reticentref09_line.l0.partial_correctness a0 a2) ?_ _ _ h) ⟨rfl, rfl, rfl, rfl, rfl, trivial⟩ rfl
    clear h
    intro f' ih v41 v42 h
    refine wSeq ?_
    refine rg (cp (oLt rfl tm tm) (s2 rfl rfl) <| .nil) (by kernel_rfl) ?_
    refine pSeq ?_
    refine wSeq ?_
    rcases ic h with ⟨hp44, h⟩ | ⟨hp44, h⟩
    · refine wCT hp44 tm (s1 rfl) ?_
      refine wSkip ?_
      refine pSeq ?_
      obtain ⟨o2, h, hk2⟩ := bd h
      refine wJ1 (fun x54 => x54 = o2) (fun x54 => [(3, .d (sP (kR f_api_Lattice) a0)), (7, .d (kS.sig x54)), (11, .d ((kL (kR f_api_Atom)).sig a2)), (12, .d ((kI .i64).sig (a2.length : Int))), (13, .d ((kI .i64).sig v41))]) (fun x54 => []) ?_ ?_
      · refine wBlock ?_
        refine wSeq ?_
        obtain ⟨y55, hy55, h⟩ := bd h
        refine rg (cp (oMv tm) (s1 rfl) <| cp (oIdx u29 z27 hy55 tm tm) (s2 rfl rfl) <| cp (oLd t27 tm) (s1 rfl) <| cw (oAlloc (id := 9) (ls := [.d (kI .i64) 0, .d (kI .i64) 0]) ze27 (fun g => ⟨[(.int .i64 0)], _, rfl, zI_i64 g.H, ⟨[(.int .i64 0)], _, rfl, zI_i64 g.H, rfl⟩⟩)) trivial <| cp (oAs tm) (s1 rfl) <| cwn (oStA (n := 0) (fs := f_api_Atom) rfl rfl z27 tm tm) (s2 rfl rfl) <| .nil) (by kernel_rfl) ?_
        refine pSeq ?_
        refine wSeq ?_
        refine wSeq ?_
        refine rg (cp (oMv tm) (s1 rfl) <| cp (oGt rfl tm (cI (by decide))) (s1 rfl) <| .nil) (by kernel_rfl) ?_
        refine pSeq ?_
        rcases ic h with ⟨hp56, h⟩ | ⟨hp56, h⟩
        · refine wCT hp56 tm (s1 rfl) ?_
          obtain ⟨hc57, h⟩ := ib h
          refine rg (cp (oMv tm) (s1 rfl) <| cp (oSAdd hc57 tm (cS (by decide))) (s1 rfl) <| cp (oAs tm) (s1 rfl) <| .nil) (by kernel_rfl) ?_
          refine pSeq ?_
          obtain ⟨hc58, h⟩ := ib h
          obtain ⟨y59, hy59, h⟩ := bd h
          obtain ⟨hc60, h⟩ := ib h
          refine rg (cp (oMv tm) (s1 rfl) <| cp (oSAdd hc58 tm (cS (by decide))) (s1 rfl) <| cp (oLd t25 tm) (s1 rfl) <| cp (oFldP o27_0 tm) (s1 rfl) <| cr (oLdB (n := 0) (k := 0) rfl rfl rfl t3 tm) (s1 rfl) <| cp (oFldP o27_1 tm) (s1 rfl) <| cr (oLdB (n := 0) (k := 1) rfl rfl rfl t3 tm) (s1 rfl) <| cp (oCall rfl (reticentref09_one.ok hy59) b44 (opds_cons tm (opds_cons tm (opds_cons tm opds_nil)))) (s3 rfl rfl rfl) <| cp (oSAdd hc60 tm tm) (s2 rfl rfl) <| cp (oAs tm) (s1 rfl) <| .nil) (by kernel_rfl) ?_
          refine pBlkN ?_
          refine pDrop (.cons _ .slnil) ?_
          exact pJ1 _ (so h) ⟨rfl, rfl, rfl, rfl, rfl, trivial⟩ rfl
        · refine wCF hp56 tm (s1 rfl) ?_
          refine wSkip ?_
          refine pSeq ?_
          obtain ⟨hc61, h⟩ := ib h
          obtain ⟨y62, hy62, h⟩ := bd h
          obtain ⟨hc63, h⟩ := ib h
          refine rg (cp (oMv tm) (s1 rfl) <| cp (oSAdd hc61 tm (cS (by decide))) (s1 rfl) <| cp (oLd t25 tm) (s1 rfl) <| cp (oFldP o27_0 tm) (s1 rfl) <| cr (oLdB (n := 0) (k := 0) rfl rfl rfl t3 tm) (s1 rfl) <| cp (oFldP o27_1 tm) (s1 rfl) <| cr (oLdB (n := 0) (k := 1) rfl rfl rfl t3 tm) (s1 rfl) <| cp (oCall rfl (reticentref09_one.ok hy62) b44 (opds_cons tm (opds_cons tm (opds_cons tm opds_nil)))) (s3 rfl rfl rfl) <| cp (oSAdd hc63 tm tm) (s2 rfl rfl) <| cp (oAs tm) (s1 rfl) <| .nil) (by kernel_rfl) ?_
          refine pBlkN ?_
          refine pDrop (.cons _ .slnil) ?_
          exact pJ1 _ (so h) ⟨rfl, rfl, rfl, rfl, rfl, trivial⟩ rfl
      · rintro x54 rfl
        replace h := hk2
        refine rg (cp (oAdd tm (cI (by decide))) (s1 rfl) <| cp (oMv tm) (s1 rfl) <| .nil) (by kernel_rfl) ?_
        exact pLoop (lW (ih _ _ h) ⟨rfl, rfl, rfl, rfl, rfl, trivial⟩ rfl)
    · refine wCF hp44 tm (s1 rfl) ?_
      refine wExit ?_
      refine pThenX ?_
      refine pThenX ?_
      refine pBlkX ?_
      exact pJ1 _ (so h) ⟨rfl, trivial⟩ rfl
  · rintro x43 rfl
    replace h := hk1
    refine pSeq ?_
    refine wSeq ?_
    obtain ⟨hc64, h⟩ := ib h
    refine rg (cp (oMv tm) (s1 rfl) <| cp (oSAdd hc64 tm (cS (by decide))) (s1 rfl) <| cp (oAs tm) (s1 rfl) <| .nil) (by kernel_rfl) ?_
    refine pSeq ?_
    refine wRet ?_
    obtain rfl := so h
    exact pR1 (.inl rfl) rfl (.tmp rfl <| .nil)

theorem reticentref09_Text.ok {a0 : api_Lattice} {a1 : api_State} {r : Str} (h : reticentref09_Text.f a0 a1 = some r) : FnA Tryz.prog 15 [(kR f_api_Lattice).sig a0, (kR f_api_State).sig a1] (kS.sig r) := by
  refine fnIntro Tryz.func15 rfl (by kernel_rfl) fun H0 w0 => ?_
  unfold reticentref09_Text.f at h
  refine wSeq ?_
  refine rg (cp (oBox tm) (s1 rfl) <| cp (oBox tm) (s1 rfl) <| cp (oAs (cS (by decide))) trivial <| .nil) (by kernel_rfl) ?_
  refine pSeq ?_
  refine wSeq ?_
  obtain ⟨y1, hy1, h⟩ := bd h
  obtain ⟨hc2, h⟩ := ib h
  obtain ⟨hc3, h⟩ := ib h
  refine rg (cp (oLd t25 tm) (s1 rfl) <| cp (oFld (fs := f_api_State) (k := 0) rfl o32_0 tm) (s1 rfl) <| cp (oFld (fs := f_api_Atom) (k := 0) rfl o27_0 tm) (s1 rfl) <| cp (oLd t3 tm) (s1 rfl) <| cp (oFld (fs := f_api_State) (k := 0) rfl o32_0 tm) (s1 rfl) <| cp (oFld (fs := f_api_Atom) (k := 1) rfl o27_1 tm) (s1 rfl) <| cp (oLd t3 tm) (s1 rfl) <| cp (oCall rfl (reticentref09_one.ok hy1) b44 (opds_cons tm (opds_cons tm (opds_cons tm opds_nil)))) (s3 rfl rfl rfl) <| cp (oSAdd hc2 (cS (by decide)) tm) (s1 rfl) <| cp (oSAdd hc3 tm (cS (by decide))) (s1 rfl) <| cp (oAs tm) (s1 rfl) <| .nil) (by kernel_rfl) ?_
  refine pSeq ?_
  refine wSeq ?_
  refine wSeq ?_
  refine rg (cp (oFld (fs := f_api_State) (k := 1) rfl o32_1 tm) (s1 rfl) <| cp (oLd t28 tm) (s1 rfl) <| cp (oLenL u28 tm) (s1 rfl) <| cp (oGt rfl tm (cI (by decide))) (s1 rfl) <| .nil) (by kernel_rfl) ?_
  refine pSeq ?_
  rcases ic h with ⟨hp4, h⟩ | ⟨hp4, h⟩
  · refine wCT hp4 tm (s1 rfl) ?_
    obtain ⟨hc5, h⟩ := ib h
    obtain ⟨y6, hy6, h⟩ := bd h
    obtain ⟨hc7, h⟩ := ib h
    refine rg (cp (oMv tm) (s1 rfl) <| cp (oSAdd hc5 tm (cS (by decide))) (s1 rfl) <| cp (oLd t25 tm) (s1 rfl) <| cp (oFld (fs := f_api_State) (k := 1) rfl o32_1 tm) (s1 rfl) <| cp (oLd t28 tm) (s1 rfl) <| cp (oCall rfl (reticentref08_Text.ok hy6) b45 (opds_cons tm (opds_cons tm opds_nil))) (s2 rfl rfl) <| cp (oSAdd hc7 tm tm) (s2 rfl rfl) <| cp (oAs tm) (s1 rfl) <| .nil) (by kernel_rfl) ?_
    refine pSeq ?_
    refine wSeq ?_
    obtain ⟨hc8, h⟩ := ib h
    obtain ⟨y9, hy9, h⟩ := bd h
    obtain ⟨hc10, h⟩ := ib h
    obtain ⟨hc11, h⟩ := ib h
    refine rg (cp (oMv tm) (s1 rfl) <| cp (oSAdd hc8 tm (cS (by decide))) (s1 rfl) <| cp (oLd t25 tm) (s1 rfl) <| cp (oFld (fs := f_api_State) (k := 2) rfl o32_2 tm) (s1 rfl) <| cp (oLd t29 tm) (s1 rfl) <| cp (oCall rfl (reticentref09_line.ok hy9) b46 (opds_cons tm (opds_cons (cS (by decide)) (opds_cons tm opds_nil)))) (s2 rfl rfl) <| cp (oSAdd hc10 tm tm) (s2 rfl rfl) <| cp (oSAdd hc11 tm (cS (by decide))) (s1 rfl) <| cp (oAs tm) (s1 rfl) <| .nil) (by kernel_rfl) ?_
    refine pSeq ?_
    refine wSeq ?_
    refine wSeq ?_
    refine rg (cp (oFld (fs := f_api_State) (k := 3) rfl o32_3 tm) (s1 rfl) <| cp (oLd t30 tm) (s1 rfl) <| cp (oLenL u30 tm) (s1 rfl) <| cp (oMv (cI (by decide))) trivial <| .nil) (by kernel_rfl) ?_
    refine pSeq ?_
    obtain ⟨o1, h, hk1⟩ := bd h
    refine wK1 (fun x94 => x94 = o1) (fun x94 => [(2, .d (sP (kR f_api_Lattice) a0)), (3, .d (sP (kR f_api_State) a1)), (5, .d (kS.sig x94))]) (fun x94 => []) ?_ ?_
    · refine wBlock (wLoop ?_)
      refine lW (pc2 o1 (fun v92 v93 => [(2, .d (sP (kR f_api_Lattice) a0)), (3, .d (sP (kR f_api_State) a1)), (5, .d (kS.sig v93)), (38, .d ((kL (kR f_api_Slot)).sig a1.Stack)), (39, .d ((kI .i64).sig (a1.Stack.length : Int))), (40, .d ((kI .i64).sig v92))]) (fun v92 v93 => []) (reticentref09_Text.l0.partial_correctness a0 a1) ?_ _ _ h) ⟨rfl, rfl, rfl, rfl, rfl, rfl, trivial⟩ rfl
      clear h
      intro f' ih v92 v93 h
      refine wSeq ?_
      refine rg (cp (oLt rfl tm tm) (s2 rfl rfl) <| .nil) (by kernel_rfl) ?_
      refine pSeq ?_
      refine wSeq ?_
      rcases ic h with ⟨hp95, h⟩ | ⟨hp95, h⟩
      · refine wCT hp95 tm (s1 rfl) ?_
        refine wSkip ?_
        refine pSeq ?_
        obtain ⟨o2, h, hk2⟩ := bd h
        refine wJ1 (fun x115 => x115 = o2) (fun x115 => [(2, .d (sP (kR f_api_Lattice) a0)), (3, .d (sP (kR f_api_State) a1)), (5, .d (kS.sig x115)), (38, .d ((kL (kR f_api_Slot)).sig a1.Stack)), (39, .d ((kI .i64).sig (a1.Stack.length : Int))), (40, .d ((kI .i64).sig v92))]) (fun x115 => []) ?_ ?_
        · refine wBlock ?_
          refine wSeq ?_
          obtain ⟨y116, hy116, h⟩ := bd h
          refine rg (cp (oMv tm) (s1 rfl) <| cp (oIdx u30 z51 hy116 tm tm) (s2 rfl rfl) <| cp (oLd t51 tm) (s1 rfl) <| cw (oAlloc (id := 7) (ls := [.d kB false, .d (kI .i64) 0, .d (kI .i64) 0]) ze51 (fun g => ⟨[(.bool false)], _, rfl, zB g.H, ⟨[(.int .i64 0)], _, rfl, zI_i64 g.H, ⟨[(.int .i64 0)], _, rfl, zI_i64 g.H, rfl⟩⟩⟩)) trivial <| cp (oAs tm) (s1 rfl) <| cwn (oStA (n := 0) (fs := f_api_Slot) rfl rfl z51 tm tm) (s2 rfl rfl) <| .nil) (by kernel_rfl) ?_
          refine pSeq ?_
          refine wSeq ?_
          refine wSeq ?_
          refine rg (cp (oMv tm) (s1 rfl) <| cp (oGt rfl tm (cI (by decide))) (s1 rfl) <| .nil) (by kernel_rfl) ?_
          refine pSeq ?_
          rcases ic h with ⟨hp117, h⟩ | ⟨hp117, h⟩
          · refine wCT hp117 tm (s1 rfl) ?_
            obtain ⟨hc118, h⟩ := ib h
            refine rg (cp (oMv tm) (s1 rfl) <| cp (oSAdd hc118 tm (cS (by decide))) (s1 rfl) <| cp (oAs tm) (s1 rfl) <| .nil) (by kernel_rfl) ?_
            refine pSeq ?_
            refine wSeq ?_
            refine wSeq ?_
            refine rg (cp (oFldP o51_0 tm) (s1 rfl) <| cr (oLdB (n := 0) (k := 0) rfl rfl rfl t4 tm) (s1 rfl) <| .nil) (by kernel_rfl) ?_
            refine pSeq ?_
            rcases ic h with ⟨hp119, h⟩ | ⟨hp119, h⟩
            · refine wBT hp119 tm (s1 rfl) ?_
              obtain ⟨hc120, h⟩ := ib h
              refine rg (cp (oMv tm) (s1 rfl) <| cp (oSAdd hc120 tm (cS (by decide))) (s1 rfl) <| cp (oAs tm) (s1 rfl) <| .nil) (by kernel_rfl) ?_
              refine pSeq ?_
              obtain ⟨hc121, h⟩ := ib h
              obtain ⟨y122, hy122, h⟩ := bd h
              obtain ⟨hc123, h⟩ := ib h
              refine rg (cp (oMv tm) (s1 rfl) <| cp (oSAdd hc121 tm (cS (by decide))) (s1 rfl) <| cp (oLd t25 tm) (s1 rfl) <| cp (oFldP o51_1 tm) (s1 rfl) <| cr (oLdB (n := 0) (k := 1) rfl rfl rfl t3 tm) (s1 rfl) <| cp (oFldP o51_2 tm) (s1 rfl) <| cr (oLdB (n := 0) (k := 2) rfl rfl rfl t3 tm) (s1 rfl) <| cp (oCall rfl (reticentref09_one.ok hy122) b44 (opds_cons tm (opds_cons tm (opds_cons tm opds_nil)))) (s3 rfl rfl rfl) <| cp (oSAdd hc123 tm tm) (s2 rfl rfl) <| cp (oAs tm) (s1 rfl) <| .nil) (by kernel_rfl) ?_
              refine pBlkN ?_
              refine pDrop (.cons _ .slnil) ?_
              exact pJ1 _ (so h) ⟨rfl, rfl, rfl, rfl, rfl, rfl, trivial⟩ rfl
            · refine wBF hp119 tm (s1 rfl) ?_
              refine wSkip ?_
              refine pSeq ?_
              obtain ⟨hc124, h⟩ := ib h
              obtain ⟨y125, hy125, h⟩ := bd h
              obtain ⟨hc126, h⟩ := ib h
              refine rg (cp (oMv tm) (s1 rfl) <| cp (oSAdd hc124 tm (cS (by decide))) (s1 rfl) <| cp (oLd t25 tm) (s1 rfl) <| cp (oFldP o51_1 tm) (s1 rfl) <| cr (oLdB (n := 0) (k := 1) rfl rfl rfl t3 tm) (s1 rfl) <| cp (oFldP o51_2 tm) (s1 rfl) <| cr (oLdB (n := 0) (k := 2) rfl rfl rfl t3 tm) (s1 rfl) <| cp (oCall rfl (reticentref09_one.ok hy125) b44 (opds_cons tm (opds_cons tm (opds_cons tm opds_nil)))) (s3 rfl rfl rfl) <| cp (oSAdd hc126 tm tm) (s2 rfl rfl) <| cp (oAs tm) (s1 rfl) <| .nil) (by kernel_rfl) ?_
              refine pBlkN ?_
              refine pDrop (.cons _ .slnil) ?_
              exact pJ1 _ (so h) ⟨rfl, rfl, rfl, rfl, rfl, rfl, trivial⟩ rfl
          · refine wCF hp117 tm (s1 rfl) ?_
            refine wSkip ?_
            refine pSeq ?_
            refine wSeq ?_
            refine wSeq ?_
            refine rg (cp (oFldP o51_0 tm) (s1 rfl) <| cr (oLdB (n := 0) (k := 0) rfl rfl rfl t4 tm) (s1 rfl) <| .nil) (by kernel_rfl) ?_
            refine pSeq ?_
            rcases ic h with ⟨hp127, h⟩ | ⟨hp127, h⟩
            · refine wBT hp127 tm (s1 rfl) ?_
              obtain ⟨hc128, h⟩ := ib h
              refine rg (cp (oMv tm) (s1 rfl) <| cp (oSAdd hc128 tm (cS (by decide))) (s1 rfl) <| cp (oAs tm) (s1 rfl) <| .nil) (by kernel_rfl) ?_
              refine pSeq ?_
              obtain ⟨hc129, h⟩ := ib h
              obtain ⟨y130, hy130, h⟩ := bd h
              obtain ⟨hc131, h⟩ := ib h
              refine rg (cp (oMv tm) (s1 rfl) <| cp (oSAdd hc129 tm (cS (by decide))) (s1 rfl) <| cp (oLd t25 tm) (s1 rfl) <| cp (oFldP o51_1 tm) (s1 rfl) <| cr (oLdB (n := 0) (k := 1) rfl rfl rfl t3 tm) (s1 rfl) <| cp (oFldP o51_2 tm) (s1 rfl) <| cr (oLdB (n := 0) (k := 2) rfl rfl rfl t3 tm) (s1 rfl) <| cp (oCall rfl (reticentref09_one.ok hy130) b44 (opds_cons tm (opds_cons tm (opds_cons tm opds_nil)))) (s3 rfl rfl rfl) <| cp (oSAdd hc131 tm tm) (s2 rfl rfl) <| cp (oAs tm) (s1 rfl) <| .nil) (by kernel_rfl) ?_
              refine pBlkN ?_
              refine pDrop (.cons _ .slnil) ?_
              exact pJ1 _ (so h) ⟨rfl, rfl, rfl, rfl, rfl, rfl, trivial⟩ rfl
            · refine wBF hp127 tm (s1 rfl) ?_
              refine wSkip ?_
              refine pSeq ?_
              obtain ⟨hc132, h⟩ := ib h
              obtain ⟨y133, hy133, h⟩ := bd h
              obtain ⟨hc134, h⟩ := ib h
              refine rg (cp (oMv tm) (s1 rfl) <| cp (oSAdd hc132 tm (cS (by decide))) (s1 rfl) <| cp (oLd t25 tm) (s1 rfl) <| cp (oFldP o51_1 tm) (s1 rfl) <| cr (oLdB (n := 0) (k := 1) rfl rfl rfl t3 tm) (s1 rfl) <| cp (oFldP o51_2 tm) (s1 rfl) <| cr (oLdB (n := 0) (k := 2) rfl rfl rfl t3 tm) (s1 rfl) <| cp (oCall rfl (reticentref09_one.ok hy133) b44 (opds_cons tm (opds_cons tm (opds_cons tm opds_nil)))) (s3 rfl rfl rfl) <| cp (oSAdd hc134 tm tm) (s2 rfl rfl) <| cp (oAs tm) (s1 rfl) <| .nil) (by kernel_rfl) ?_
              refine pBlkN ?_
              refine pDrop (.cons _ .slnil) ?_
              exact pJ1 _ (so h) ⟨rfl, rfl, rfl, rfl, rfl, rfl, trivial⟩ rfl
        · rintro x115 rfl
          replace h := hk2
          refine rg (cp (oAdd tm (cI (by decide))) (s1 rfl) <| cp (oMv tm) (s1 rfl) <| .nil) (by kernel_rfl) ?_
          exact pLoop (lW (ih _ _ h) ⟨rfl, rfl, rfl, rfl, rfl, rfl, trivial⟩ rfl)
      · refine wCF hp95 tm (s1 rfl) ?_
        refine wExit ?_
        refine pThenX ?_
        refine pThenX ?_
        refine pBlkX ?_
        exact pJ1 _ (so h) ⟨rfl, rfl, rfl, trivial⟩ rfl
    · rintro x94 rfl
      replace h := hk1
      refine pSeq ?_
      refine wSeq ?_
      obtain ⟨hc135, h⟩ := ib h
      obtain ⟨y136, hy136, h⟩ := bd h
      obtain ⟨hc137, h⟩ := ib h
      refine rg (cp (oMv tm) (s1 rfl) <| cp (oSAdd hc135 tm (cS (by decide))) (s1 rfl) <| cp (oLd t25 tm) (s1 rfl) <| cp (oFld (fs := f_api_State) (k := 4) rfl o32_4 tm) (s1 rfl) <| cp (oLd t29 tm) (s1 rfl) <| cp (oCall rfl (reticentref09_line.ok hy136) b46 (opds_cons tm (opds_cons (cS (by decide)) (opds_cons tm opds_nil)))) (s2 rfl rfl) <| cp (oSAdd hc137 tm tm) (s2 rfl rfl) <| cp (oAs tm) (s1 rfl) <| .nil) (by kernel_rfl) ?_
      refine pSeq ?_
      refine wRet ?_
      obtain rfl := so h
      exact pR1 (.inl rfl) rfl (.tmp rfl <| .nil)
  · refine wCF hp4 tm (s1 rfl) ?_
    refine wSkip ?_
    refine pSeq ?_
    refine wSeq ?_
    obtain ⟨hc138, h⟩ := ib h
    obtain ⟨y139, hy139, h⟩ := bd h
    obtain ⟨hc140, h⟩ := ib h
    obtain ⟨hc141, h⟩ := ib h
    refine rg (cp (oMv tm) (s1 rfl) <| cp (oSAdd hc138 tm (cS (by decide))) (s1 rfl) <| cp (oLd t25 tm) (s1 rfl) <| cp (oFld (fs := f_api_State) (k := 2) rfl o32_2 tm) (s1 rfl) <| cp (oLd t29 tm) (s1 rfl) <| cp (oCall rfl (reticentref09_line.ok hy139) b46 (opds_cons tm (opds_cons (cS (by decide)) (opds_cons tm opds_nil)))) (s2 rfl rfl) <| cp (oSAdd hc140 tm tm) (s2 rfl rfl) <| cp (oSAdd hc141 tm (cS (by decide))) (s1 rfl) <| cp (oAs tm) (s1 rfl) <| .nil) (by kernel_rfl) ?_
    refine pSeq ?_
    refine wSeq ?_
    refine wSeq ?_
    refine rg (cp (oFld (fs := f_api_State) (k := 3) rfl o32_3 tm) (s1 rfl) <| cp (oLd t30 tm) (s1 rfl) <| cp (oLenL u30 tm) (s1 rfl) <| cp (oMv (cI (by decide))) trivial <| .nil) (by kernel_rfl) ?_
    refine pSeq ?_
    obtain ⟨o1, h, hk1⟩ := bd h
    refine wK1 (fun x224 => x224 = o1) (fun x224 => [(2, .d (sP (kR f_api_Lattice) a0)), (3, .d (sP (kR f_api_State) a1)), (5, .d (kS.sig x224))]) (fun x224 => []) ?_ ?_
    · refine wBlock (wLoop ?_)
      refine lW (pc2 o1 (fun v222 v223 => [(2, .d (sP (kR f_api_Lattice) a0)), (3, .d (sP (kR f_api_State) a1)), (5, .d (kS.sig v223)), (38, .d ((kL (kR f_api_Slot)).sig a1.Stack)), (39, .d ((kI .i64).sig (a1.Stack.length : Int))), (40, .d ((kI .i64).sig v222))]) (fun v222 v223 => []) (reticentref09_Text.l1.partial_correctness a0 a1) ?_ _ _ h) ⟨rfl, rfl, rfl, rfl, rfl, rfl, trivial⟩ rfl
      clear h
      intro f' ih v222 v223 h
      refine wSeq ?_
      refine rg (cp (oLt rfl tm tm) (s2 rfl rfl) <| .nil) (by kernel_rfl) ?_
      refine pSeq ?_
      refine wSeq ?_
      rcases ic h with ⟨hp225, h⟩ | ⟨hp225, h⟩
      · refine wCT hp225 tm (s1 rfl) ?_
        refine wSkip ?_
        refine pSeq ?_
        obtain ⟨o2, h, hk2⟩ := bd h
        refine wJ1 (fun x245 => x245 = o2) (fun x245 => [(2, .d (sP (kR f_api_Lattice) a0)), (3, .d (sP (kR f_api_State) a1)), (5, .d (kS.sig x245)), (38, .d ((kL (kR f_api_Slot)).sig a1.Stack)), (39, .d ((kI .i64).sig (a1.Stack.length : Int))), (40, .d ((kI .i64).sig v222))]) (fun x245 => []) ?_ ?_
        · refine wBlock ?_
          refine wSeq ?_
          obtain ⟨y246, hy246, h⟩ := bd h
          refine rg (cp (oMv tm) (s1 rfl) <| cp (oIdx u30 z51 hy246 tm tm) (s2 rfl rfl) <| cp (oLd t51 tm) (s1 rfl) <| cw (oAlloc (id := 7) (ls := [.d kB false, .d (kI .i64) 0, .d (kI .i64) 0]) ze51 (fun g => ⟨[(.bool false)], _, rfl, zB g.H, ⟨[(.int .i64 0)], _, rfl, zI_i64 g.H, ⟨[(.int .i64 0)], _, rfl, zI_i64 g.H, rfl⟩⟩⟩)) trivial <| cp (oAs tm) (s1 rfl) <| cwn (oStA (n := 0) (fs := f_api_Slot) rfl rfl z51 tm tm) (s2 rfl rfl) <| .nil) (by kernel_rfl) ?_
          refine pSeq ?_
          refine wSeq ?_
          refine wSeq ?_
          refine rg (cp (oMv tm) (s1 rfl) <| cp (oGt rfl tm (cI (by decide))) (s1 rfl) <| .nil) (by kernel_rfl) ?_
          refine pSeq ?_
          rcases ic h with ⟨hp247, h⟩ | ⟨hp247, h⟩
          · refine wCT hp247 tm (s1 rfl) ?_
            obtain ⟨hc248, h⟩ := ib h
            refine rg (cp (oMv tm) (s1 rfl) <| cp (oSAdd hc248 tm (cS (by decide))) (s1 rfl) <| cp (oAs tm) (s1 rfl) <| .nil) (by kernel_rfl) ?_
            refine pSeq ?_
            refine wSeq ?_
            refine wSeq ?_
            refine rg (cp (oFldP o51_0 tm) (s1 rfl) <| cr (oLdB (n := 0) (k := 0) rfl rfl rfl t4 tm) (s1 rfl) <| .nil) (by kernel_rfl) ?_
            refine pSeq ?_
            rcases ic h with ⟨hp249, h⟩ | ⟨hp249, h⟩
            · refine wBT hp249 tm (s1 rfl) ?_
              obtain ⟨hc250, h⟩ := ib h
              refine rg (cp (oMv tm) (s1 rfl) <| cp (oSAdd hc250 tm (cS (by decide))) (s1 rfl) <| cp (oAs tm) (s1 rfl) <| .nil) (by kernel_rfl) ?_
              refine pSeq ?_
              obtain ⟨hc251, h⟩ := ib h
              obtain ⟨y252, hy252, h⟩ := bd h
              obtain ⟨hc253, h⟩ := ib h
              refine rg (cp (oMv tm) (s1 rfl) <| cp (oSAdd hc251 tm (cS (by decide))) (s1 rfl) <| cp (oLd t25 tm) (s1 rfl) <| cp (oFldP o51_1 tm) (s1 rfl) <| cr (oLdB (n := 0) (k := 1) rfl rfl rfl t3 tm) (s1 rfl) <| cp (oFldP o51_2 tm) (s1 rfl) <| cr (oLdB (n := 0) (k := 2) rfl rfl rfl t3 tm) (s1 rfl) <| cp (oCall rfl (reticentref09_one.ok hy252) b44 (opds_cons tm (opds_cons tm (opds_cons tm opds_nil)))) (s3 rfl rfl rfl) <| cp (oSAdd hc253 tm tm) (s2 rfl rfl) <| cp (oAs tm) (s1 rfl) <| .nil) (by kernel_rfl) ?_
              refine pBlkN ?_
              refine pDrop (.cons _ .slnil) ?_
              exact pJ1 _ (so h) ⟨rfl, rfl, rfl, rfl, rfl, rfl, trivial⟩ rfl
            · refine wBF hp249 tm (s1 rfl) ?_
              refine wSkip ?_
              refine pSeq ?_
              obtain ⟨hc254, h⟩ := ib h
              obtain ⟨y255, hy255, h⟩ := bd h
              obtain ⟨hc256, h⟩ := ib h
              refine rg (cp (oMv tm) (s1 rfl) <| cp (oSAdd hc254 tm (cS (by decide))) (s1 rfl) <| cp (oLd t25 tm) (s1 rfl) <| cp (oFldP o51_1 tm) (s1 rfl) <| cr (oLdB (n := 0) (k := 1) rfl rfl rfl t3 tm) (s1 rfl) <| cp (oFldP o51_2 tm) (s1 rfl) <| cr (oLdB (n := 0) (k := 2) rfl rfl rfl t3 tm) (s1 rfl) <| cp (oCall rfl (reticentref09_one.ok hy255) b44 (opds_cons tm (opds_cons tm (opds_cons tm opds_nil)))) (s3 rfl rfl rfl) <| cp (oSAdd hc256 tm tm) (s2 rfl rfl) <| cp (oAs tm) (s1 rfl) <| .nil) (by kernel_rfl) ?_
              refine pBlkN ?_
              refine pDrop (.cons _ .slnil) ?_
              exact pJ1 _ (so h) ⟨rfl, rfl, rfl, rfl, rfl, rfl, trivial⟩ rfl
          · refine wCF hp247 tm (s1 rfl) ?_
            refine wSkip ?_
            refine pSeq ?_
            refine wSeq ?_
            refine wSeq ?_
            refine rg (cp (oFldP o51_0 tm) (s1 rfl) <| cr (oLdB (n := 0) (k := 0) rfl rfl rfl t4 tm) (s1 rfl) <| .nil) (by kernel_rfl) ?_
            refine pSeq ?_
            rcases ic h with ⟨hp257, h⟩ | ⟨hp257, h⟩
            · refine wBT hp257 tm (s1 rfl) ?_
              obtain ⟨hc258, h⟩ := ib h
              refine rg (cp (oMv tm) (s1 rfl) <| cp (oSAdd hc258 tm (cS (by decide))) (s1 rfl) <| cp (oAs tm) (s1 rfl) <| .nil) (by kernel_rfl) ?_
              refine pSeq ?_
              obtain ⟨hc259, h⟩ := ib h
              obtain ⟨y260, hy260, h⟩ := bd h
              obtain ⟨hc261, h⟩ := ib h
              refine rg (cp (oMv tm) (s1 rfl) <| cp (oSAdd hc259 tm (cS (by decide))) (s1 rfl) <| cp (oLd t25 tm) (s1 rfl) <| cp (oFldP o51_1 tm) (s1 rfl) <| cr (oLdB (n := 0) (k := 1) rfl rfl rfl t3 tm) (s1 rfl) <| cp (oFldP o51_2 tm) (s1 rfl) <| cr (oLdB (n := 0) (k := 2) rfl rfl rfl t3 tm) (s1 rfl) <| cp (oCall rfl (reticentref09_one.ok hy260) b44 (opds_cons tm (opds_cons tm (opds_cons tm opds_nil)))) (s3 rfl rfl rfl) <| cp (oSAdd hc261 tm tm) (s2 rfl rfl) <| cp (oAs tm) (s1 rfl) <| .nil) (by kernel_rfl) ?_
              refine pBlkN ?_
              refine pDrop (.cons _ .slnil) ?_
              exact pJ1 _ (so h) ⟨rfl, rfl, rfl, rfl, rfl, rfl, trivial⟩ rfl
            · refine wBF hp257 tm (s1 rfl) ?_
              refine wSkip ?_
              refine pSeq ?_
              obtain ⟨hc262, h⟩ := ib h
              obtain ⟨y263, hy263, h⟩ := bd h
              obtain ⟨hc264, h⟩ := ib h
              refine rg (cp (oMv tm) (s1 rfl) <| cp (oSAdd hc262 tm (cS (by decide))) (s1 rfl) <| cp (oLd t25 tm) (s1 rfl) <| cp (oFldP o51_1 tm) (s1 rfl) <| cr (oLdB (n := 0) (k := 1) rfl rfl rfl t3 tm) (s1 rfl) <| cp (oFldP o51_2 tm) (s1 rfl) <| cr (oLdB (n := 0) (k := 2) rfl rfl rfl t3 tm) (s1 rfl) <| cp (oCall rfl (reticentref09_one.ok hy263) b44 (opds_cons tm (opds_cons tm (opds_cons tm opds_nil)))) (s3 rfl rfl rfl) <| cp (oSAdd hc264 tm tm) (s2 rfl rfl) <| cp (oAs tm) (s1 rfl) <| .nil) (by kernel_rfl) ?_
              refine pBlkN ?_
              refine pDrop (.cons _ .slnil) ?_
              exact pJ1 _ (so h) ⟨rfl, rfl, rfl, rfl, rfl, rfl, trivial⟩ rfl
        · rintro x245 rfl
          replace h := hk2
          refine rg (cp (oAdd tm (cI (by decide))) (s1 rfl) <| cp (oMv tm) (s1 rfl) <| .nil) (by kernel_rfl) ?_
          exact pLoop (lW (ih _ _ h) ⟨rfl, rfl, rfl, rfl, rfl, rfl, trivial⟩ rfl)
      · refine wCF hp225 tm (s1 rfl) ?_
        refine wExit ?_
        refine pThenX ?_
        refine pThenX ?_
        refine pBlkX ?_
        exact pJ1 _ (so h) ⟨rfl, rfl, rfl, trivial⟩ rfl
    · rintro x224 rfl
      replace h := hk1
      refine pSeq ?_
      refine wSeq ?_
      obtain ⟨hc265, h⟩ := ib h
      obtain ⟨y266, hy266, h⟩ := bd h
      obtain ⟨hc267, h⟩ := ib h
      refine rg (cp (oMv tm) (s1 rfl) <| cp (oSAdd hc265 tm (cS (by decide))) (s1 rfl) <| cp (oLd t25 tm) (s1 rfl) <| cp (oFld (fs := f_api_State) (k := 4) rfl o32_4 tm) (s1 rfl) <| cp (oLd t29 tm) (s1 rfl) <| cp (oCall rfl (reticentref09_line.ok hy266) b46 (opds_cons tm (opds_cons (cS (by decide)) (opds_cons tm opds_nil)))) (s2 rfl rfl) <| cp (oSAdd hc267 tm tm) (s2 rfl rfl) <| cp (oAs tm) (s1 rfl) <| .nil) (by kernel_rfl) ?_
      refine pSeq ?_
      refine wRet ?_
      obtain rfl := so h
      exact pR1 (.inl rfl) rfl (.tmp rfl <| .nil)

theorem reticentlaw09_StateRight.ok {a0 : api_Lattice} {a1 : api_State} {a2 : api_State} {r : Bool} (h : reticentlaw09_StateRight.f a0 a1 a2 = some r) : FnA Tryz.prog 4 [(kR f_api_Lattice).sig a0, (kR f_api_State).sig a1, (kR f_api_State).sig a2] (kB.sig r) := by
  refine fnIntro Tryz.func4 rfl (by kernel_rfl) fun H0 w0 => ?_
  unfold reticentlaw09_StateRight.f at h
  refine wSeq ?_
  refine rg (cw (oBoxS (id := 3) (fs := f_api_Lattice) tm) (s1 rfl) <| cw (oBoxP (id := 4) (d := (kR f_api_State)) (ls := [.d (kI .i64) a1.Pc.V, .d (kI .i64) a1.Pc.L, .d (kL (kR f_api_Instr)) a1.Code, .d (kL (kR f_api_Atom)) a1.Mem, .d (kL (kR f_api_Slot)) a1.Stack, .d (kL (kR f_api_Atom)) a1.Out]) (lfS (lfC (lfS (lfC lf1 (lfC lf1 lfN))) (lfC lf1 (lfC lf1 (lfC lf1 (lfC lf1 lfN)))))) rfl tm) (s1 rfl) <| cw (oBoxP (id := 5) (d := (kR f_api_State)) (ls := [.d (kI .i64) a2.Pc.V, .d (kI .i64) a2.Pc.L, .d (kL (kR f_api_Instr)) a2.Code, .d (kL (kR f_api_Atom)) a2.Mem, .d (kL (kR f_api_Slot)) a2.Stack, .d (kL (kR f_api_Atom)) a2.Out]) (lfS (lfC (lfS (lfC lf1 (lfC lf1 lfN))) (lfC lf1 (lfC lf1 (lfC lf1 (lfC lf1 lfN)))))) rfl tm) (s1 rfl) <| cp (oAs cB) trivial <| .nil) (by kernel_rfl) ?_
  refine pSeq ?_
  refine wSeq ?_
  obtain ⟨y1, hy1, h⟩ := bd h
  obtain ⟨y2, hy2, h⟩ := bd h
  obtain ⟨y3, hy3, h⟩ := bd h
  refine rgD hm (cr (oLdA (n := 2) (fs := f_api_Lattice) (u := ⟨a0.Names, a0.Up⟩) rfl ⟨rfl, rfl, trivial⟩ t25 tm) (s1 rfl) <| cp (oCall rfl (reticentlaw09_few.ok hy1) b5 (opds_cons tm opds_nil)) (s1 rfl) <| cr (oLdP (n := 1) (k := 0) (m := 6) (d := (kR f_api_State)) (u := a1) (lfS (lfC (lfS (lfC lf1 (lfC lf1 lfN))) (lfC lf1 (lfC lf1 (lfC lf1 (lfC lf1 lfN)))))) rfl rfl rfl t32 tm) (s1 rfl) <| cp (oCall rfl (reticentlaw09_cut.ok hy2) b6 (opds_cons tm opds_nil)) (s1 rfl) <| cr (oLdP (n := 0) (k := 0) (m := 6) (d := (kR f_api_State)) (u := a2) (lfS (lfC (lfS (lfC lf1 (lfC lf1 lfN))) (lfC lf1 (lfC lf1 (lfC lf1 (lfC lf1 lfN)))))) rfl rfl rfl t32 tm) (s1 rfl) <| cp (oCall rfl (reticentlaw09_cut.ok hy3) b6 (opds_cons tm opds_nil)) (s1 rfl) <| cwn (oStA (n := 2) (fs := f_api_Lattice) rfl rfl z25 tm tm) (s2 rfl rfl) <| cwn (oStP (n := 1) (k := 0) (m := 6) (d := (kR f_api_State)) (u := y2) (lfS (lfC (lfS (lfC lf1 (lfC lf1 lfN))) (lfC lf1 (lfC lf1 (lfC lf1 (lfC lf1 lfN)))))) rfl rfl rfl z32 tm tm) (s2 rfl rfl) <| cwn (oStP (n := 0) (k := 0) (m := 6) (d := (kR f_api_State)) (u := y3) (lfS (lfC (lfS (lfC lf1 (lfC lf1 lfN))) (lfC lf1 (lfC lf1 (lfC lf1 (lfC lf1 lfN)))))) rfl rfl rfl z32 tm tm) (s2 rfl rfl) <| .nil) (by kernel_rfl) (by kernel_rfl) ?_
  refine pSeq ?_
  refine wSeq ?_
  obtain ⟨y4, hy4, h⟩ := bd h
  refine rg (cr (oLdA (n := 2) (fs := f_api_Lattice) (u := ⟨y1.Names, y1.Up⟩) rfl ⟨rfl, rfl, trivial⟩ t25 tm) (s1 rfl) <| cr (oLdP (n := 1) (k := 0) (m := 6) (d := (kR f_api_State)) (u := y2) (lfS (lfC (lfS (lfC lf1 (lfC lf1 lfN))) (lfC lf1 (lfC lf1 (lfC lf1 (lfC lf1 lfN)))))) rfl rfl rfl t32 tm) (s1 rfl) <| cp (oCall rfl (state_Text.ok hy4) b7 (opds_cons tm (opds_cons tm opds_nil))) (s2 rfl rfl) <| cp (oMv tm) (s1 rfl) <| cp (oExt (k := 0) rfl tm) (s1 rfl) <| cp (oExt (k := 1) rfl tm) (s1 rfl) <| cp (oAs tm) (s1 rfl) <| cp (oAs tm) (s1 rfl) <| .nil) (by kernel_rfl) ?_
  refine pSeq ?_
  refine wSeq ?_
  obtain ⟨y5, hy5, h⟩ := bd h
  refine rg (cr (oLdA (n := 2) (fs := f_api_Lattice) (u := ⟨y1.Names, y1.Up⟩) rfl ⟨rfl, rfl, trivial⟩ t25 tm) (s1 rfl) <| cp (oCall rfl (reticentref01_Check.ok hy5) b12 (opds_cons tm opds_nil)) (s1 rfl) <| cp (oAs tm) (s1 rfl) <| .nil) (by kernel_rfl) ?_
  refine pSeq ?_
  obtain ⟨o1, h, hk1⟩ := bd h
  refine wJ1 (fun x8 => x8 = o1) (fun x8 => [(3, .p 3 0), (4, .p 4 0), (5, .p 5 0), (7, .d (kS.sig y4.1)), (8, .d ((kI .i64).sig y4.2)), (9, .d ((kI .i64).sig y5)), (10, .d (kB.sig x8))]) (fun x8 => [.box 5 32 [.d (kI .i64) y3.Pc.V, .d (kI .i64) y3.Pc.L, .d (kL (kR f_api_Instr)) y3.Code, .d (kL (kR f_api_Atom)) y3.Mem, .d (kL (kR f_api_Slot)) y3.Stack, .d (kL (kR f_api_Atom)) y3.Out], .box 4 32 [.d (kI .i64) y2.Pc.V, .d (kI .i64) y2.Pc.L, .d (kL (kR f_api_Instr)) y2.Code, .d (kL (kR f_api_Atom)) y2.Mem, .d (kL (kR f_api_Slot)) y2.Stack, .d (kL (kR f_api_Atom)) y2.Out], .box 3 25 [.d (kL kS) y1.Names, .d (kL (kI .u32)) y1.Up]]) ?_ ?_
  · rcases ic h with ⟨hp9, h⟩ | ⟨hp9, h⟩
    · obtain ⟨y10, hy10, h⟩ := bd h
      refine rg (cp (oMv tm) (s1 rfl) <| cp (oEq rfl tm (cI (by decide))) (s1 rfl) <| cp (oMv tm) (s1 rfl) <| crgB (decide_eq_true hp9) rfl rfl (oLdA (n := 2) (fs := f_api_Lattice) (u := ⟨y1.Names, y1.Up⟩) rfl ⟨rfl, rfl, trivial⟩ t25 tm) (s1 rfl) <| crgB (decide_eq_true hp9) rfl rfl (oLdP (n := 1) (k := 0) (m := 6) (d := (kR f_api_State)) (u := y2) (lfS (lfC (lfS (lfC lf1 (lfC lf1 lfN))) (lfC lf1 (lfC lf1 (lfC lf1 (lfC lf1 lfN)))))) rfl rfl rfl t32 tm) (s1 rfl) <| cgB (decide_eq_true hp9) rfl rfl (oCall rfl (reticentref09_Right.ok hy10) b13 (opds_cons tm (opds_cons tm opds_nil))) (s2 rfl rfl) <| cp (oPkT (decide_eq_true hp9) tm tm) (s2 rfl rfl) <| cp (oAs tm) (s1 rfl) <| .nil) (by kernel_rfl) ?_
      exact pJ1 _ (so h) ⟨rfl, rfl, rfl, rfl, rfl, rfl, rfl, trivial⟩ rfl
    · refine rg (cp (oMv tm) (s1 rfl) <| cp (oEq rfl tm (cI (by decide))) (s1 rfl) <| cp (oMv tm) (s1 rfl) <| csB (decide_eq_false hp9) rfl rfl <| csB (decide_eq_false hp9) rfl rfl <| csB (decide_eq_false hp9) rfl rfl <| cp (oPkF (decide_eq_false hp9) tm cB) (s1 rfl) <| cp (oAs tm) (s1 rfl) <| .nil) (by kernel_rfl) ?_
      exact pJ1 _ (so h) ⟨rfl, rfl, rfl, rfl, rfl, rfl, rfl, trivial⟩ rfl
  · rintro x8 rfl
    replace h := hk1
    refine wSeq ?_
    obtain ⟨o1, h, hk1⟩ := bd h
    refine wJ1 (fun x19 => x19 = o1) (fun x19 => [(3, .p 3 0), (4, .p 4 0), (7, .d (kS.sig y4.1)), (8, .d ((kI .i64).sig y4.2)), (9, .d ((kI .i64).sig y5)), (10, .d (kB.sig x8)), (55, .d (kB.sig x19))]) (fun x19 => [.box 5 32 [.d (kI .i64) y3.Pc.V, .d (kI .i64) y3.Pc.L, .d (kL (kR f_api_Instr)) y3.Code, .d (kL (kR f_api_Atom)) y3.Mem, .d (kL (kR f_api_Slot)) y3.Stack, .d (kL (kR f_api_Atom)) y3.Out], .box 4 32 [.d (kI .i64) y2.Pc.V, .d (kI .i64) y2.Pc.L, .d (kL (kR f_api_Instr)) y2.Code, .d (kL (kR f_api_Atom)) y2.Mem, .d (kL (kR f_api_Slot)) y2.Stack, .d (kL (kR f_api_Atom)) y2.Out], .box 3 25 [.d (kL kS) y1.Names, .d (kL (kI .u32)) y1.Up]]) ?_ ?_
    · obtain ⟨y20, hy20, h⟩ := bd h
      rcases ic h with ⟨hp21, h⟩ | ⟨hp21, h⟩
      · obtain ⟨y22, hy22, h⟩ := bd h
        obtain ⟨y23, hy23, h⟩ := bd h
        rcases ic h with ⟨hp24, h⟩ | ⟨hp24, h⟩
        · obtain ⟨y25, hy25, h⟩ := bd h
          rcases ic h with ⟨hp26, h⟩ | ⟨hp26, h⟩
          · refine rgD hm (cr (oLdA (n := 2) (fs := f_api_Lattice) (u := ⟨y1.Names, y1.Up⟩) rfl ⟨rfl, rfl, trivial⟩ t25 tm) (s1 rfl) <| cr (oLdP (n := 1) (k := 0) (m := 6) (d := (kR f_api_State)) (u := y2) (lfS (lfC (lfS (lfC lf1 (lfC lf1 lfN))) (lfC lf1 (lfC lf1 (lfC lf1 (lfC lf1 lfN)))))) rfl rfl rfl t32 tm) (s1 rfl) <| cp (oCall rfl (state_Right.ok hy20) b11 (opds_cons tm (opds_cons tm opds_nil))) (s2 rfl rfl) <| cp (oMv tm) (s1 rfl) <| cp (oBNe u4 rfl tm tm) (s2 rfl rfl) <| cp (oMv tm) (s1 rfl) <| crgB (nf hp21) rfl rfl (oLdP (n := 1) (k := 0) (m := 6) (d := (kR f_api_State)) (u := y2) (lfS (lfC (lfS (lfC lf1 (lfC lf1 lfN))) (lfC lf1 (lfC lf1 (lfC lf1 (lfC lf1 lfN)))))) rfl rfl rfl t32 tm) (s1 rfl) <| crgB (nf hp21) rfl rfl (oLdP (n := 0) (k := 0) (m := 6) (d := (kR f_api_State)) (u := y3) (lfS (lfC (lfS (lfC lf1 (lfC lf1 lfN))) (lfC lf1 (lfC lf1 (lfC lf1 (lfC lf1 lfN)))))) rfl rfl rfl t32 tm) (s1 rfl) <| cgB (nf hp21) rfl rfl (oCall rfl (state_Like.ok hy22) b14 (opds_cons tm (opds_cons tm opds_nil))) (s2 rfl rfl) <| crgB (nf hp21) rfl rfl (oLdP (n := 1) (k := 0) (m := 6) (d := (kR f_api_State)) (u := y2) (lfS (lfC (lfS (lfC lf1 (lfC lf1 lfN))) (lfC lf1 (lfC lf1 (lfC lf1 (lfC lf1 lfN)))))) rfl rfl rfl t32 tm) (s1 rfl) <| crgB (nf hp21) rfl rfl (oLdP (n := 0) (k := 0) (m := 6) (d := (kR f_api_State)) (u := y3) (lfS (lfC (lfS (lfC lf1 (lfC lf1 lfN))) (lfC lf1 (lfC lf1 (lfC lf1 (lfC lf1 lfN)))))) rfl rfl rfl t32 tm) (s1 rfl) <| cgB (nf hp21) rfl rfl (oCall rfl (reticentref09_Same.ok hy23) b9 (opds_cons tm (opds_cons tm opds_nil))) (s2 rfl rfl) <| cgB (nf hp21) rfl rfl (oBNe u4 rfl tm tm) (s2 rfl rfl) <| cp (oPkF (nf hp21) tm tm) (s2 rfl rfl) <| cp (oMv tm) (s1 rfl) <| crgB (nf hp24) rfl rfl (oLdP (n := 1) (k := 0) (m := 6) (d := (kR f_api_State)) (u := y2) (lfS (lfC (lfS (lfC lf1 (lfC lf1 lfN))) (lfC lf1 (lfC lf1 (lfC lf1 (lfC lf1 lfN)))))) rfl rfl rfl t32 tm) (s1 rfl) <| crgB (nf hp24) rfl rfl (oLdP (n := 1) (k := 0) (m := 6) (d := (kR f_api_State)) (u := y2) (lfS (lfC (lfS (lfC lf1 (lfC lf1 lfN))) (lfC lf1 (lfC lf1 (lfC lf1 (lfC lf1 lfN)))))) rfl rfl rfl t32 tm) (s1 rfl) <| cgB (nf hp24) rfl rfl (oCall rfl (state_Like.ok hy25) b14 (opds_cons tm (opds_cons tm opds_nil))) (s2 rfl rfl) <| cgB (nf hp24) rfl rfl (oNot tm) (s1 rfl) <| cp (oPkF (nf hp24) tm tm) (s2 rfl rfl) <| cp (oMv tm) (s1 rfl) <| csB hp26 rfl rfl <| csB hp26 rfl rfl <| cp (oPkT hp26 tm cB) (s1 rfl) <| .nil) (by kernel_rfl) (by kernel_rfl) ?_
            exact pJ1 _ (so h) ⟨rfl, rfl, rfl, rfl, rfl, rfl, rfl, trivial⟩ rfl
          · obtain ⟨y27, hy27, h⟩ := bd h
            refine rgD hm (cr (oLdA (n := 2) (fs := f_api_Lattice) (u := ⟨y1.Names, y1.Up⟩) rfl ⟨rfl, rfl, trivial⟩ t25 tm) (s1 rfl) <| cr (oLdP (n := 1) (k := 0) (m := 6) (d := (kR f_api_State)) (u := y2) (lfS (lfC (lfS (lfC lf1 (lfC lf1 lfN))) (lfC lf1 (lfC lf1 (lfC lf1 (lfC lf1 lfN)))))) rfl rfl rfl t32 tm) (s1 rfl) <| cp (oCall rfl (state_Right.ok hy20) b11 (opds_cons tm (opds_cons tm opds_nil))) (s2 rfl rfl) <| cp (oMv tm) (s1 rfl) <| cp (oBNe u4 rfl tm tm) (s2 rfl rfl) <| cp (oMv tm) (s1 rfl) <| crgB (nf hp21) rfl rfl (oLdP (n := 1) (k := 0) (m := 6) (d := (kR f_api_State)) (u := y2) (lfS (lfC (lfS (lfC lf1 (lfC lf1 lfN))) (lfC lf1 (lfC lf1 (lfC lf1 (lfC lf1 lfN)))))) rfl rfl rfl t32 tm) (s1 rfl) <| crgB (nf hp21) rfl rfl (oLdP (n := 0) (k := 0) (m := 6) (d := (kR f_api_State)) (u := y3) (lfS (lfC (lfS (lfC lf1 (lfC lf1 lfN))) (lfC lf1 (lfC lf1 (lfC lf1 (lfC lf1 lfN)))))) rfl rfl rfl t32 tm) (s1 rfl) <| cgB (nf hp21) rfl rfl (oCall rfl (state_Like.ok hy22) b14 (opds_cons tm (opds_cons tm opds_nil))) (s2 rfl rfl) <| crgB (nf hp21) rfl rfl (oLdP (n := 1) (k := 0) (m := 6) (d := (kR f_api_State)) (u := y2) (lfS (lfC (lfS (lfC lf1 (lfC lf1 lfN))) (lfC lf1 (lfC lf1 (lfC lf1 (lfC lf1 lfN)))))) rfl rfl rfl t32 tm) (s1 rfl) <| crgB (nf hp21) rfl rfl (oLdP (n := 0) (k := 0) (m := 6) (d := (kR f_api_State)) (u := y3) (lfS (lfC (lfS (lfC lf1 (lfC lf1 lfN))) (lfC lf1 (lfC lf1 (lfC lf1 (lfC lf1 lfN)))))) rfl rfl rfl t32 tm) (s1 rfl) <| cgB (nf hp21) rfl rfl (oCall rfl (reticentref09_Same.ok hy23) b9 (opds_cons tm (opds_cons tm opds_nil))) (s2 rfl rfl) <| cgB (nf hp21) rfl rfl (oBNe u4 rfl tm tm) (s2 rfl rfl) <| cp (oPkF (nf hp21) tm tm) (s2 rfl rfl) <| cp (oMv tm) (s1 rfl) <| crgB (nf hp24) rfl rfl (oLdP (n := 1) (k := 0) (m := 6) (d := (kR f_api_State)) (u := y2) (lfS (lfC (lfS (lfC lf1 (lfC lf1 lfN))) (lfC lf1 (lfC lf1 (lfC lf1 (lfC lf1 lfN)))))) rfl rfl rfl t32 tm) (s1 rfl) <| crgB (nf hp24) rfl rfl (oLdP (n := 1) (k := 0) (m := 6) (d := (kR f_api_State)) (u := y2) (lfS (lfC (lfS (lfC lf1 (lfC lf1 lfN))) (lfC lf1 (lfC lf1 (lfC lf1 (lfC lf1 lfN)))))) rfl rfl rfl t32 tm) (s1 rfl) <| cgB (nf hp24) rfl rfl (oCall rfl (state_Like.ok hy25) b14 (opds_cons tm (opds_cons tm opds_nil))) (s2 rfl rfl) <| cgB (nf hp24) rfl rfl (oNot tm) (s1 rfl) <| cp (oPkF (nf hp24) tm tm) (s2 rfl rfl) <| cp (oMv tm) (s1 rfl) <| cgB (nb hp26) rfl rfl (oCall rfl (reticentlaw09_alive.ok hy27) b10 opds_nil) trivial <| cgB (nb hp26) rfl rfl (oNot tm) (s1 rfl) <| cp (oPkF (nb hp26) tm tm) (s2 rfl rfl) <| .nil) (by kernel_rfl) (by kernel_rfl) ?_
            exact pJ1 _ (so h) ⟨rfl, rfl, rfl, rfl, rfl, rfl, rfl, trivial⟩ rfl
        · refine rgD hm (cr (oLdA (n := 2) (fs := f_api_Lattice) (u := ⟨y1.Names, y1.Up⟩) rfl ⟨rfl, rfl, trivial⟩ t25 tm) (s1 rfl) <| cr (oLdP (n := 1) (k := 0) (m := 6) (d := (kR f_api_State)) (u := y2) (lfS (lfC (lfS (lfC lf1 (lfC lf1 lfN))) (lfC lf1 (lfC lf1 (lfC lf1 (lfC lf1 lfN)))))) rfl rfl rfl t32 tm) (s1 rfl) <| cp (oCall rfl (state_Right.ok hy20) b11 (opds_cons tm (opds_cons tm opds_nil))) (s2 rfl rfl) <| cp (oMv tm) (s1 rfl) <| cp (oBNe u4 rfl tm tm) (s2 rfl rfl) <| cp (oMv tm) (s1 rfl) <| crgB (nf hp21) rfl rfl (oLdP (n := 1) (k := 0) (m := 6) (d := (kR f_api_State)) (u := y2) (lfS (lfC (lfS (lfC lf1 (lfC lf1 lfN))) (lfC lf1 (lfC lf1 (lfC lf1 (lfC lf1 lfN)))))) rfl rfl rfl t32 tm) (s1 rfl) <| crgB (nf hp21) rfl rfl (oLdP (n := 0) (k := 0) (m := 6) (d := (kR f_api_State)) (u := y3) (lfS (lfC (lfS (lfC lf1 (lfC lf1 lfN))) (lfC lf1 (lfC lf1 (lfC lf1 (lfC lf1 lfN)))))) rfl rfl rfl t32 tm) (s1 rfl) <| cgB (nf hp21) rfl rfl (oCall rfl (state_Like.ok hy22) b14 (opds_cons tm (opds_cons tm opds_nil))) (s2 rfl rfl) <| crgB (nf hp21) rfl rfl (oLdP (n := 1) (k := 0) (m := 6) (d := (kR f_api_State)) (u := y2) (lfS (lfC (lfS (lfC lf1 (lfC lf1 lfN))) (lfC lf1 (lfC lf1 (lfC lf1 (lfC lf1 lfN)))))) rfl rfl rfl t32 tm) (s1 rfl) <| crgB (nf hp21) rfl rfl (oLdP (n := 0) (k := 0) (m := 6) (d := (kR f_api_State)) (u := y3) (lfS (lfC (lfS (lfC lf1 (lfC lf1 lfN))) (lfC lf1 (lfC lf1 (lfC lf1 (lfC lf1 lfN)))))) rfl rfl rfl t32 tm) (s1 rfl) <| cgB (nf hp21) rfl rfl (oCall rfl (reticentref09_Same.ok hy23) b9 (opds_cons tm (opds_cons tm opds_nil))) (s2 rfl rfl) <| cgB (nf hp21) rfl rfl (oBNe u4 rfl tm tm) (s2 rfl rfl) <| cp (oPkF (nf hp21) tm tm) (s2 rfl rfl) <| cp (oMv tm) (s1 rfl) <| csB (nt hp24) rfl rfl <| csB (nt hp24) rfl rfl <| csB (nt hp24) rfl rfl <| csB (nt hp24) rfl rfl <| cp (oPkT (nt hp24) tm cB) (s1 rfl) <| cp (oMv tm) (s1 rfl) <| csB rfl rfl rfl <| csB rfl rfl rfl <| cp (oPkT rfl tm cB) (s1 rfl) <| .nil) (by kernel_rfl) (by kernel_rfl) ?_
          exact pJ1 _ (so h) ⟨rfl, rfl, rfl, rfl, rfl, rfl, rfl, trivial⟩ rfl
      · refine rgD hm (cr (oLdA (n := 2) (fs := f_api_Lattice) (u := ⟨y1.Names, y1.Up⟩) rfl ⟨rfl, rfl, trivial⟩ t25 tm) (s1 rfl) <| cr (oLdP (n := 1) (k := 0) (m := 6) (d := (kR f_api_State)) (u := y2) (lfS (lfC (lfS (lfC lf1 (lfC lf1 lfN))) (lfC lf1 (lfC lf1 (lfC lf1 (lfC lf1 lfN)))))) rfl rfl rfl t32 tm) (s1 rfl) <| cp (oCall rfl (state_Right.ok hy20) b11 (opds_cons tm (opds_cons tm opds_nil))) (s2 rfl rfl) <| cp (oMv tm) (s1 rfl) <| cp (oBNe u4 rfl tm tm) (s2 rfl rfl) <| cp (oMv tm) (s1 rfl) <| csB (nt hp21) rfl rfl <| csB (nt hp21) rfl rfl <| csB (nt hp21) rfl rfl <| csB (nt hp21) rfl rfl <| csB (nt hp21) rfl rfl <| csB (nt hp21) rfl rfl <| csB (nt hp21) rfl rfl <| cp (oPkT (nt hp21) tm cB) (s1 rfl) <| cp (oMv tm) (s1 rfl) <| csB rfl rfl rfl <| csB rfl rfl rfl <| csB rfl rfl rfl <| csB rfl rfl rfl <| cp (oPkT rfl tm cB) (s1 rfl) <| cp (oMv tm) (s1 rfl) <| csB rfl rfl rfl <| csB rfl rfl rfl <| cp (oPkT rfl tm cB) (s1 rfl) <| .nil) (by kernel_rfl) (by kernel_rfl) ?_
        exact pJ1 _ (so h) ⟨rfl, rfl, rfl, rfl, rfl, rfl, rfl, trivial⟩ rfl
    · rintro x19 rfl
      replace h := hk1
      rcases ic h with ⟨hp28, h⟩ | ⟨hp28, h⟩
      · refine wBT hp28 tm (s1 rfl) ?_
        refine wSeq ?_
        refine rg (cp (oAs cB) trivial <| .nil) (by kernel_rfl) ?_
        refine pSeq ?_
        refine wRet ?_
        refine pThenR ?_
        obtain rfl := so h
        exact pR1 (.inl rfl) rfl (.tmp rfl <| .nil)
      · refine wBF hp28 tm (s1 rfl) ?_
        refine wSkip ?_
        refine pSeq ?_
        refine wSeq ?_
        refine wBlock ?_
        refine wSeq ?_
        refine rg (cp (oMv tm) (s1 rfl) <| cp (oNe rfl tm (cI (by decide))) (s1 rfl) <| cp (oAs tm) (s1 rfl) <| .nil) (by kernel_rfl) ?_
        refine pSeq ?_
        rcases ic h with ⟨hp29, h⟩ | ⟨hp29, h⟩
        · refine wNT hp29 tm (s1 rfl) ?_
          refine wSeq ?_
          refine rg (cp (oMv tm) (s1 rfl) <| cp (oNot tm) (s1 rfl) <| cp (oAs tm) (s1 rfl) <| .nil) (by kernel_rfl) ?_
          refine pSeq ?_
          rcases ic h with ⟨hp30, h⟩ | ⟨hp30, h⟩
          · refine wBT hp30 tm (s1 rfl) ?_
            obtain ⟨o1, h, hk1⟩ := bd h
            refine wJ1 (fun x32 => x32 = o1) (fun x32 => [(6, .d (kB.sig x32))]) (fun x32 => [.box 5 32 [.d (kI .i64) y3.Pc.V, .d (kI .i64) y3.Pc.L, .d (kL (kR f_api_Instr)) y3.Code, .d (kL (kR f_api_Atom)) y3.Mem, .d (kL (kR f_api_Slot)) y3.Stack, .d (kL (kR f_api_Atom)) y3.Out], .box 4 32 [.d (kI .i64) y2.Pc.V, .d (kI .i64) y2.Pc.L, .d (kL (kR f_api_Instr)) y2.Code, .d (kL (kR f_api_Atom)) y2.Mem, .d (kL (kR f_api_Slot)) y2.Stack, .d (kL (kR f_api_Atom)) y2.Out], .box 3 25 [.d (kL kS) y1.Names, .d (kL (kI .u32)) y1.Up]]) ?_ ?_
            · rcases ic h with ⟨hp33, h⟩ | ⟨hp33, h⟩
              · refine rg (cp (oMv tm) (s1 rfl) <| cp (oEq rfl tm (cI (by decide))) (s1 rfl) <| cp (oMv tm) (s1 rfl) <| cgB (decide_eq_true hp33) rfl rfl (oMv tm) (s1 rfl) <| cgB (decide_eq_true hp33) rfl rfl (oSEq rfl tm (cS (by decide))) (s1 rfl) <| cp (oPkT (decide_eq_true hp33) tm tm) (s2 rfl rfl) <| cp (oAs tm) (s1 rfl) <| .nil) (by kernel_rfl) ?_
                exact pJ1 _ (so h) ⟨rfl, trivial⟩ rfl
              · refine rg (cp (oMv tm) (s1 rfl) <| cp (oEq rfl tm (cI (by decide))) (s1 rfl) <| cp (oMv tm) (s1 rfl) <| csB (decide_eq_false hp33) rfl rfl <| csB (decide_eq_false hp33) rfl rfl <| cp (oPkF (decide_eq_false hp33) tm cB) (s1 rfl) <| cp (oAs tm) (s1 rfl) <| .nil) (by kernel_rfl) ?_
                exact pJ1 _ (so h) ⟨rfl, trivial⟩ rfl
            · rintro x32 rfl
              replace h := hk1
              refine wRet ?_
              refine pBlkR ?_
              refine pThenR ?_
              obtain rfl := so h
              exact pR1 (.inl rfl) rfl (.tmp rfl <| .nil)
          · refine wBF hp30 tm (s1 rfl) ?_
            refine wSkip ?_
            refine pBlkN ?_
            refine pSeq ?_
            obtain ⟨o1, h, hk1⟩ := bd h
            refine wJ1 (fun x36 => x36 = o1) (fun x36 => [(6, .d (kB.sig x36))]) (fun x36 => [.box 5 32 [.d (kI .i64) y3.Pc.V, .d (kI .i64) y3.Pc.L, .d (kL (kR f_api_Instr)) y3.Code, .d (kL (kR f_api_Atom)) y3.Mem, .d (kL (kR f_api_Slot)) y3.Stack, .d (kL (kR f_api_Atom)) y3.Out], .box 4 32 [.d (kI .i64) y2.Pc.V, .d (kI .i64) y2.Pc.L, .d (kL (kR f_api_Instr)) y2.Code, .d (kL (kR f_api_Atom)) y2.Mem, .d (kL (kR f_api_Slot)) y2.Stack, .d (kL (kR f_api_Atom)) y2.Out], .box 3 25 [.d (kL kS) y1.Names, .d (kL (kI .u32)) y1.Up]]) ?_ ?_
            · rcases ic h with ⟨hp37, h⟩ | ⟨hp37, h⟩
              · obtain ⟨y38, hy38, h⟩ := bd h
                refine rg (cp (oMv tm) (s1 rfl) <| cp (oEq rfl tm (cI (by decide))) (s1 rfl) <| cp (oMv tm) (s1 rfl) <| cgB (decide_eq_true hp37) rfl rfl (oMv tm) (s1 rfl) <| crgB (decide_eq_true hp37) rfl rfl (oLdA (n := 2) (fs := f_api_Lattice) (u := ⟨y1.Names, y1.Up⟩) rfl ⟨rfl, rfl, trivial⟩ t25 tm) (s1 rfl) <| crgB (decide_eq_true hp37) rfl rfl (oLdP (n := 1) (k := 0) (m := 6) (d := (kR f_api_State)) (u := y2) (lfS (lfC (lfS (lfC lf1 (lfC lf1 lfN))) (lfC lf1 (lfC lf1 (lfC lf1 (lfC lf1 lfN)))))) rfl rfl rfl t32 tm) (s1 rfl) <| cgB (decide_eq_true hp37) rfl rfl (oCall rfl (reticentref09_Text.ok hy38) b15 (opds_cons tm (opds_cons tm opds_nil))) (s2 rfl rfl) <| cgB (decide_eq_true hp37) rfl rfl (oSEq rfl tm tm) (s2 rfl rfl) <| cp (oPkT (decide_eq_true hp37) tm tm) (s2 rfl rfl) <| cp (oAs tm) (s1 rfl) <| .nil) (by kernel_rfl) ?_
                exact pJ1 _ (so h) ⟨rfl, trivial⟩ rfl
              · refine rg (cp (oMv tm) (s1 rfl) <| cp (oEq rfl tm (cI (by decide))) (s1 rfl) <| cp (oMv tm) (s1 rfl) <| csB (decide_eq_false hp37) rfl rfl <| csB (decide_eq_false hp37) rfl rfl <| csB (decide_eq_false hp37) rfl rfl <| csB (decide_eq_false hp37) rfl rfl <| csB (decide_eq_false hp37) rfl rfl <| cp (oPkF (decide_eq_false hp37) tm cB) (s1 rfl) <| cp (oAs tm) (s1 rfl) <| .nil) (by kernel_rfl) ?_
                exact pJ1 _ (so h) ⟨rfl, trivial⟩ rfl
            · rintro x36 rfl
              replace h := hk1
              refine wRet ?_
              obtain rfl := so h
              exact pR1 (.inl rfl) rfl (.tmp rfl <| .nil)
        · refine wNF hp29 tm (s1 rfl) ?_
          obtain ⟨o1, h, hk1⟩ := bd h
          refine wJ1 (fun x40 => x40 = o1) (fun x40 => [(6, .d (kB.sig x40))]) (fun x40 => [.box 5 32 [.d (kI .i64) y3.Pc.V, .d (kI .i64) y3.Pc.L, .d (kL (kR f_api_Instr)) y3.Code, .d (kL (kR f_api_Atom)) y3.Mem, .d (kL (kR f_api_Slot)) y3.Stack, .d (kL (kR f_api_Atom)) y3.Out], .box 4 32 [.d (kI .i64) y2.Pc.V, .d (kI .i64) y2.Pc.L, .d (kL (kR f_api_Instr)) y2.Code, .d (kL (kR f_api_Atom)) y2.Mem, .d (kL (kR f_api_Slot)) y2.Stack, .d (kL (kR f_api_Atom)) y2.Out], .box 3 25 [.d (kL kS) y1.Names, .d (kL (kI .u32)) y1.Up]]) ?_ ?_
          · rcases ic h with ⟨hp41, h⟩ | ⟨hp41, h⟩
            · refine rg (cp (oMv tm) (s1 rfl) <| cp (oMv tm) (s1 rfl) <| cp (oEq rfl tm tm) (s2 rfl rfl) <| cp (oMv tm) (s1 rfl) <| cgB (decide_eq_true hp41) rfl rfl (oMv tm) (s1 rfl) <| cgB (decide_eq_true hp41) rfl rfl (oSEq rfl tm (cS (by decide))) (s1 rfl) <| cp (oPkT (decide_eq_true hp41) tm tm) (s2 rfl rfl) <| cp (oAs tm) (s1 rfl) <| .nil) (by kernel_rfl) ?_
              exact pJ1 _ (so h) ⟨rfl, trivial⟩ rfl
            · refine rg (cp (oMv tm) (s1 rfl) <| cp (oMv tm) (s1 rfl) <| cp (oEq rfl tm tm) (s2 rfl rfl) <| cp (oMv tm) (s1 rfl) <| csB (decide_eq_false hp41) rfl rfl <| csB (decide_eq_false hp41) rfl rfl <| cp (oPkF (decide_eq_false hp41) tm cB) (s1 rfl) <| cp (oAs tm) (s1 rfl) <| .nil) (by kernel_rfl) ?_
              exact pJ1 _ (so h) ⟨rfl, trivial⟩ rfl
          · rintro x40 rfl
            replace h := hk1
            refine wRet ?_
            refine pBlkR ?_
            refine pThenR ?_
            obtain rfl := so h
            exact pR1 (.inl rfl) rfl (.tmp rfl <| .nil)

end Go.Proofs.YtkcpghpglhamfaaGreatDoor.ST
