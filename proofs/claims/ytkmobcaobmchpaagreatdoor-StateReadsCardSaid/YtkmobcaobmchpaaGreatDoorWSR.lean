import Derived.Test.YtkmobcaobmchpaaGreatDoorShelf
import Derived.Test.YtkmobcaobmchpaaGreatDoorWSRp3
import Derived.Test.YtkmobcaobmchpaaGreatDoorProg
set_option linter.unusedVariables false
set_option maxRecDepth 10000
set_option maxHeartbeats 2000000
namespace Go.Proofs.YtkmobcaobmchpaaGreatDoor.SR
open Go Go.Proofs.YtkmobcaobmchpaaGreatDoor.Ab
theorem reticentref09_row.ok {a0 : api_Lattice} {a1 : List api_Tok} {a2 : reticentref09_P} {a3 : Str} {a4 : Int} {a5 : Bool} {r : reticentref09_S} (h : reticentref09_row.f a0 a1 a2 a3 a4 a5 = some r) : FnA Tryz.prog 127 [(kR f_api_Lattice).sig a0, (kL (kR f_api_Tok)).sig a1, (kR f_reticentref09_P).sig a2, kS.sig a3, (kI .i64).sig a4, kB.sig a5] ((kR f_reticentref09_S).sig r) := by
  refine fnIntro Tryz.func127 rfl (by kernel_rfl) fun H0 w0 => ?_
  unfold reticentref09_row.f at h
  refine wSeq ?_
  refine rg (cp (oBox tm) (s1 rfl) <| cp (oBox tm) (s1 rfl) <| cw (oAlloc (id := 12) (ls := [.d (kI .i64) 0, .d (kI .i64) 0, .d (kI .i64) 0, .d (kI .i64) 0, .d (kN api_Slot) []]) ze191 (fun g => ⟨[(.int .i64 0)], _, rfl, zI_i64 g.H, ⟨[(.int .i64 0)], _, rfl, zI_i64 g.H, ⟨[(.int .i64 0)], _, rfl, zI_i64 g.H, ⟨[(.int .i64 0)], _, rfl, zI_i64 g.H, ⟨[(.slice none 0 0)], _, rfl, zN g.H, rfl⟩⟩⟩⟩⟩)) trivial <| .nil) (by kernel_rfl) ?_
  refine pSeq ?_
  refine wSeq ?_
  obtain ⟨y1, hy1, h⟩ := bd h
  refine rg (cp (oMv tm) (s1 rfl) <| cp (oLd t184 tm) (s1 rfl) <| cp (oMv tm) (s1 rfl) <| cp (oCall rfl (reticentref09_must.ok hy1) b124 (opds_cons tm (opds_cons tm (opds_cons (cI (by decide)) (opds_cons tm opds_nil))))) (s3 rfl rfl rfl) <| cp (oBuild (fs := f_reticentref09_S_n1) (u := ⟨y1, []⟩) rfl ze191 pl191 po191_1 (.op (zc := [(.int .i64 0), (.int .i64 0), (.int .i64 0), (.int .i64 0)]) tm rfl (.ze (zc := [(.slice none 0 0)]) zN .nil))) (s1 rfl) <| cw (oAlloc (id := 13) (ls := [.d (kI .i64) 0, .d (kI .i64) 0, .d (kI .i64) 0, .d (kI .i64) 0, .d (kN api_Slot) []]) ze191 (fun g => ⟨[(.int .i64 0)], _, rfl, zI_i64 g.H, ⟨[(.int .i64 0)], _, rfl, zI_i64 g.H, ⟨[(.int .i64 0)], _, rfl, zI_i64 g.H, ⟨[(.int .i64 0)], _, rfl, zI_i64 g.H, ⟨[(.slice none 0 0)], _, rfl, zN g.H, rfl⟩⟩⟩⟩⟩)) trivial <| cwn (oStP (n := 0) (k := 0) (m := 5) (d := (kR f_reticentref09_S_n1)) (u := (⟨y1, []⟩ : reticentref09_S)) (lfS (lfC (lfS (lfC lf1 (lfC (lfS (lfC lf1 (lfC lf1 lfN))) (lfC lf1 lfN)))) (lfC lf1 lfN))) rfl rfl rfl z191 tm tm) (s2 rfl rfl) <| .nil) (by kernel_rfl) ?_
  refine pSeq ?_
  refine wSeq ?_
  refine wSeq ?_
  obtain ⟨y2, hy2, h⟩ := bd h
  refine rg (cp (oMv tm) (s1 rfl) <| cp (oFldP o191_0 tm) (s1 rfl) <| cr (oLdP (n := 0) (k := 0) (m := 4) (d := (kR f_reticentref09_P)) (u := y1) (lfS (lfC lf1 (lfC (lfS (lfC lf1 (lfC lf1 lfN))) (lfC lf1 lfN)))) rfl rfl rfl t184 tm) (s1 rfl) <| cp (oCall rfl (reticentref09_here.ok hy2) b222 (opds_cons tm (opds_cons tm (opds_cons (cI (by decide)) (opds_cons (cS (by decide)) opds_nil))))) (s2 rfl rfl) <| .nil) (by kernel_rfl) ?_
  refine pSeq ?_
  rcases ic h with ⟨hp3, h⟩ | ⟨hp3, h⟩
  · refine wBT hp3 tm (s1 rfl) ?_
    refine wSeq ?_
    refine rg (cp (oFldP o191_0 tm) (s1 rfl) <| cp (oFldP o184_0 tm) (s1 rfl) <| cr (oLdB (n := 0) (k := 0) rfl rfl rfl t3 tm) (s1 rfl) <| cp (oAdd tm (cI (by decide))) (s1 rfl) <| cp (oFldP o191_0 tm) (s1 rfl) <| cp (oFldP o184_0 tm) (s1 rfl) <| cwn (oSt (n := 0) (k := 0) rfl rfl rfl rfl z3 tm tm) (s2 rfl rfl) <| .nil) (by kernel_rfl) ?_
    refine pSeq ?_
    refine wSeq ?_
    refine wNilD (kR f_api_Slot) (n := 0) (k := 4) rfl rfl ?_
    refine rg (cr (oLdP (n := 0) (k := 0) (m := 5) (d := (kR f_reticentref09_S)) (u := (⟨⟨IntKind.i64.wrap (y1.I + 1), y1.A, y1.E⟩, []⟩ : reticentref09_S)) (lfS (lfC (lfS (lfC lf1 (lfC (lfS (lfC lf1 (lfC lf1 lfN))) (lfC lf1 lfN)))) (lfC lf1 lfN))) rfl rfl rfl t191 tm) (s1 rfl) <| cwn (oStP (n := 1) (k := 0) (m := 5) (d := (kR f_reticentref09_S)) (u := (⟨⟨IntKind.i64.wrap (y1.I + 1), y1.A, y1.E⟩, []⟩ : reticentref09_S)) (lfS (lfC (lfS (lfC lf1 (lfC (lfS (lfC lf1 (lfC lf1 lfN))) (lfC lf1 lfN)))) (lfC lf1 lfN))) rfl rfl rfl z191 tm tm) (s2 rfl rfl) <| .nil) (by kernel_rfl) ?_
    refine pSeq ?_
    refine wRet ?_
    refine pThenR ?_
    obtain rfl := so h
    exact pR1 (.inl rfl) rfl (.boxP (n := 1) (d := (kR f_reticentref09_S)) (u := (⟨⟨IntKind.i64.wrap (y1.I + 1), y1.A, y1.E⟩, []⟩ : reticentref09_S)) rfl rfl (lfS (lfC (lfS (lfC lf1 (lfC (lfS (lfC lf1 (lfC lf1 lfN))) (lfC lf1 lfN)))) (lfC lf1 lfN))) rfl t191 <| .nil)
  · refine wBF hp3 tm (s1 rfl) ?_
    refine wSkip ?_
    refine pSeq ?_
    refine wNilL (kR f_api_Slot) 101 5654 (n := 0) (k := 4) rfl rfl rfl ?_
    obtain ⟨o1, h, hk1⟩ := bd h
    refine wJ5 (fun x89 x90 x91 x92 x93 => .inr (x89, x90, x91, x92, x93) = o1) (fun x89 x90 x91 x92 x93 => [(12, .p 12 0), (13, .p 13 0)]) (fun x89 x90 x91 x92 x93 => [.row 5654 101 (kR f_api_Slot) x93, .box 13 191 [.d (kI .i64) x89, .d (kI .i64) x90, .d (kI .i64) x91, .d (kI .i64) x92, .v 5654], .box 12 191 [.d (kI .i64) 0, .d (kI .i64) 0, .d (kI .i64) 0, .d (kI .i64) 0, .d (kN api_Slot) []]]) ?_ ?_
    · refine wBlock (wLoop ?_)
      refine lW (pc5 o1 (fun v84 v85 v86 v87 v88 => [(1, .d ((kL (kR f_api_Tok)).sig a1)), (4, .d ((kI .i64).sig a4)), (5, .d (kB.sig a5)), (6, .d (sP (kR f_api_Lattice) a0)), (12, .p 12 0), (13, .p 13 0)]) (fun v84 v85 v86 v87 v88 => [.row 5654 101 (kR f_api_Slot) v88, .box 13 191 [.d (kI .i64) v84, .d (kI .i64) v85, .d (kI .i64) v86, .d (kI .i64) v87, .v 5654], .box 12 191 [.d (kI .i64) 0, .d (kI .i64) 0, .d (kI .i64) 0, .d (kI .i64) 0, .d (kN api_Slot) []]]) (reticentref09_row.l0.partial_correctness a0 a1 a4 a5) ?_ _ _ _ _ _ h) ⟨rfl, rfl, rfl, rfl, rfl, rfl, trivial⟩ rfl
      clear h
      intro f' ih v84 v85 v86 v87 v88 h
      refine wSeq ?_
      refine wSeq ?_
      refine rg (cp (oFldP o191_0 tm) (s1 rfl) <| cp (oFldP o184_2 tm) (s1 rfl) <| cr (oLdB (n := 1) (k := 3) rfl rfl rfl t34 tm) (s1 rfl) <| cp (oEq rfl tm (cI (by decide))) (s1 rfl) <| .nil) (by kernel_rfl) ?_
      refine pSeq ?_
      rcases ic h with ⟨hp94, h⟩ | ⟨hp94, h⟩
      · refine wCT hp94 tm (s1 rfl) ?_
        refine wSkip ?_
        refine pSeq ?_
        obtain ⟨o2, h, hk2⟩ := bd h
        refine wK5 (fun x112 x113 x114 x115 x116 => .inr (x112, x113, x114, x115, x116) = o2) (fun x112 x113 x114 x115 x116 => [(1, .d ((kL (kR f_api_Tok)).sig a1)), (4, .d ((kI .i64).sig a4)), (5, .d (kB.sig a5)), (6, .d (sP (kR f_api_Lattice) a0)), (12, .p 12 0), (13, .p 13 0)]) (fun x112 x113 x114 x115 x116 => [.row 5654 101 (kR f_api_Slot) x116, .box 13 191 [.d (kI .i64) x112, .d (kI .i64) x113, .d (kI .i64) x114, .d (kI .i64) x115, .v 5654], .box 12 191 [.d (kI .i64) 0, .d (kI .i64) 0, .d (kI .i64) 0, .d (kI .i64) 0, .d (kN api_Slot) []]]) ?_ ?_
        · refine wBlock ?_
          refine wSeq ?_
          refine wSeq ?_
          refine rg (cp (oFldP o191_1 tm) (s1 rfl) <| cr (oLdN (n := 1) (k := 4) rfl rfl rfl t31 tm) (s1 rfl) <| cr (oLenR (n := 0) u31 rfl tm) (s1 rfl) <| cp (oMv tm) (s1 rfl) <| cp (oEq rfl tm tm) (s2 rfl rfl) <| .nil) (by kernel_rfl) ?_
          refine pSeq ?_
          rcases ic h with ⟨hp117, h⟩ | ⟨hp117, h⟩
          · refine wCT hp117 tm (s1 rfl) ?_
            refine wSeq ?_
            refine rg (cp (oFldP o191_0 tm) (s1 rfl) <| cp (oFldP o184_2 tm) (s1 rfl) <| cwn (oSt (n := 1) (k := 3) rfl rfl rfl rfl z34 tm (cI (by decide))) (s1 rfl) <| .nil) (by kernel_rfl) ?_
            refine pSeq ?_
            refine wSeq ?_
            refine wFrzR (n := 0) (id := 5654) [36] rfl rfl ⟨rfl, trivial⟩ ?_
            refine rg (cr (oLdP (n := 0) (k := 0) (m := 5) (d := (kR f_reticentref09_S)) (u := (⟨⟨v84, ⟨v85, v86⟩, 8⟩, v88⟩ : reticentref09_S)) (lfS (lfC (lfS (lfC lf1 (lfC (lfS (lfC lf1 (lfC lf1 lfN))) (lfC lf1 lfN)))) (lfC lf1 lfN))) rfl rfl rfl t191 tm) (s1 rfl) <| cwn (oStP (n := 1) (k := 0) (m := 5) (d := (kR f_reticentref09_S)) (u := (⟨⟨v84, ⟨v85, v86⟩, 8⟩, v88⟩ : reticentref09_S)) (lfS (lfC (lfS (lfC lf1 (lfC (lfS (lfC lf1 (lfC lf1 lfN))) (lfC lf1 lfN)))) (lfC lf1 lfN))) rfl rfl rfl z191 tm tm) (s2 rfl rfl) <| .nil) (by kernel_rfl) ?_
            refine pSeq ?_
            refine wRet ?_
            refine pThenR ?_
            refine pBlkR ?_
            refine pThenR ?_
            obtain rfl := so h
            replace h := hk2
            refine pThenR ?_
            refine pBlkR ?_
            refine pThenR ?_
            obtain rfl := so h
            replace h := hk1
            obtain rfl := so h
            exact pR1 (.inl rfl) rfl (.boxP (n := 1) (d := (kR f_reticentref09_S)) (u := (⟨⟨v84, ⟨v85, v86⟩, 8⟩, v88⟩ : reticentref09_S)) rfl rfl (lfS (lfC (lfS (lfC lf1 (lfC (lfS (lfC lf1 (lfC lf1 lfN))) (lfC lf1 lfN)))) (lfC lf1 lfN))) rfl t191 <| .nil)
          · refine wCF hp117 tm (s1 rfl) ?_
            refine wSkip ?_
            refine pSeq ?_
            obtain ⟨o3, h, hk3⟩ := bd h
            refine wJ1 (fun x120 => x120 = o3) (fun x120 => [(1, .d ((kL (kR f_api_Tok)).sig a1)), (4, .d ((kI .i64).sig a4)), (5, .d (kB.sig a5)), (6, .d (sP (kR f_api_Lattice) a0)), (12, .p 12 0), (13, .p 13 0), (14, .d (kB.sig x120))]) (fun x120 => [.row 5654 101 (kR f_api_Slot) v88, .box 13 191 [.d (kI .i64) v84, .d (kI .i64) v85, .d (kI .i64) v86, .d (kI .i64) v87, .v 5654], .box 12 191 [.d (kI .i64) 0, .d (kI .i64) 0, .d (kI .i64) 0, .d (kI .i64) 0, .d (kN api_Slot) []]]) ?_ ?_
            · rcases ic h with ⟨hp121, h⟩ | ⟨hp121, h⟩
              · obtain ⟨y122, hy122, h⟩ := bd h
                refine rg (cp (oMv tm) (s1 rfl) <| cp (oMv tm) (s1 rfl) <| cgB hp121 rfl rfl (oMv tm) (s1 rfl) <| cgB hp121 rfl rfl (oFldP o191_0 tm) (s1 rfl) <| crgB hp121 rfl rfl (oLdP (n := 1) (k := 0) (m := 4) (d := (kR f_reticentref09_P)) (u := (⟨v84, ⟨v85, v86⟩, v87⟩ : reticentref09_P)) (lfS (lfC lf1 (lfC (lfS (lfC lf1 (lfC lf1 lfN))) (lfC lf1 lfN)))) rfl rfl rfl t184 tm) (s1 rfl) <| cgB hp121 rfl rfl (oCall rfl (reticentref09_here.ok hy122) b222 (opds_cons tm (opds_cons tm (opds_cons (cI (by decide)) (opds_cons (cS (by decide)) opds_nil))))) (s2 rfl rfl) <| cp (oPkT hp121 tm tm) (s2 rfl rfl) <| cp (oAs tm) (s1 rfl) <| .nil) (by kernel_rfl) ?_
                exact pJ1 _ (so h) ⟨rfl, rfl, rfl, rfl, rfl, rfl, rfl, trivial⟩ rfl
              · refine rg (cp (oMv tm) (s1 rfl) <| cp (oMv tm) (s1 rfl) <| csB (nb hp121) rfl rfl <| csB (nb hp121) rfl rfl <| csB (nb hp121) rfl rfl <| csB (nb hp121) rfl rfl <| cp (oPkF (nb hp121) tm cB) (s1 rfl) <| cp (oAs tm) (s1 rfl) <| .nil) (by kernel_rfl) ?_
                exact pJ1 _ (so h) ⟨rfl, rfl, rfl, rfl, rfl, rfl, rfl, trivial⟩ rfl
            · rintro x120 rfl
              replace h := hk3
              refine wSeq ?_
              refine wSeq ?_
              refine rg (cp (oMv tm) (s1 rfl) <| .nil) (by kernel_rfl) ?_
              refine pSeq ?_
              rcases ic h with ⟨hp123, h⟩ | ⟨hp123, h⟩
              · refine wBT hp123 tm (s1 rfl) ?_
                refine rg (cp (oFldP o191_0 tm) (s1 rfl) <| cp (oFldP o184_0 tm) (s1 rfl) <| cr (oLdB (n := 1) (k := 0) rfl rfl rfl t3 tm) (s1 rfl) <| cp (oAdd tm (cI (by decide))) (s1 rfl) <| cp (oFldP o191_0 tm) (s1 rfl) <| cp (oFldP o184_0 tm) (s1 rfl) <| cwn (oSt (n := 1) (k := 0) rfl rfl rfl rfl z3 tm tm) (s2 rfl rfl) <| .nil) (by kernel_rfl) ?_
                refine pSeq ?_
                refine wSeq ?_
                obtain ⟨y124, hy124, h⟩ := bd h
                refine rg (cp (oLd t25 tm) (s1 rfl) <| cp (oMv tm) (s1 rfl) <| cp (oFldP o191_0 tm) (s1 rfl) <| cr (oLdP (n := 1) (k := 0) (m := 4) (d := (kR f_reticentref09_P)) (u := (⟨IntKind.i64.wrap (v84 + 1), ⟨v85, v86⟩, v87⟩ : reticentref09_P)) (lfS (lfC lf1 (lfC (lfS (lfC lf1 (lfC lf1 lfN))) (lfC lf1 lfN)))) rfl rfl rfl t184 tm) (s1 rfl) <| cp (oCall rfl (reticentref09_atom.ok hy124) b125 (opds_cons tm (opds_cons tm (opds_cons tm opds_nil)))) (s3 rfl rfl rfl) <| cp (oFldP o191_0 tm) (s1 rfl) <| cwn (oStP (n := 1) (k := 0) (m := 4) (d := (kR f_reticentref09_P)) (u := y124) (lfS (lfC lf1 (lfC (lfS (lfC lf1 (lfC lf1 lfN))) (lfC lf1 lfN)))) rfl rfl rfl z184 tm tm) (s2 rfl rfl) <| .nil) (by kernel_rfl) ?_
                refine pSeq ?_
                refine wSeq ?_
                obtain ⟨hc125, h⟩ := ib h
                refine rg (cp (oFldP o191_1 tm) (s1 rfl) <| cr (oLdN (n := 1) (k := 4) rfl rfl rfl t31 tm) (s1 rfl) <| cp (oMv tm) (s1 rfl) <| cp (oFldP o191_0 tm) (s1 rfl) <| cp (oFldP o184_1 tm) (s1 rfl) <| cp (oFldP o28_0 tm) (s1 rfl) <| cr (oLdB (n := 1) (k := 1) rfl rfl rfl t3 tm) (s1 rfl) <| cp (oFldP o191_0 tm) (s1 rfl) <| cp (oFldP o184_1 tm) (s1 rfl) <| cp (oFldP o28_1 tm) (s1 rfl) <| cr (oLdB (n := 1) (k := 2) rfl rfl rfl t3 tm) (s1 rfl) <| cp (oBuild (fs := f_api_Slot) (u := ⟨x120, y124.A.V, y124.A.L⟩) rfl ze101 pl101 po101 (.op (zc := [(.bool false)]) tm rfl (.op (zc := [(.int .i64 0)]) tm rfl (.op (zc := [(.int .i64 0)]) tm rfl .nil)))) (s3 rfl rfl rfl) <| cp (oLit (d := (kR f_api_Slot)) el31 (by decide) rfl rfl rfl (e1 tm e0)) (s1 rfl) <| cw (oApp (n := 0) (id' := 76) el31 (by decide) rfl (by decide) hc125 tm tm) (s2 rfl rfl) <| cp (oFldP o191_1 tm) (s1 rfl) <| cwn (oStN (n := 1) (m := 0) (k := 4) rfl rfl rfl rfl z31 rfl tm tm) (s2 rfl rfl) <| .nil) (by kernel_rfl) ?_
                refine pSeq ?_
                refine wSeq ?_
                refine wSeq ?_
                obtain ⟨y126, hy126, h⟩ := bd h
                refine rg (cp (oMv tm) (s1 rfl) <| cp (oFldP o191_0 tm) (s1 rfl) <| cr (oLdP (n := 1) (k := 0) (m := 4) (d := (kR f_reticentref09_P)) (u := y124) (lfS (lfC lf1 (lfC (lfS (lfC lf1 (lfC lf1 lfN))) (lfC lf1 lfN)))) rfl rfl rfl t184 tm) (s1 rfl) <| cp (oCall rfl (reticentref09_here.ok hy126) b222 (opds_cons tm (opds_cons tm (opds_cons (cI (by decide)) (opds_cons (cS (by decide)) opds_nil))))) (s2 rfl rfl) <| cp (oNot tm) (s1 rfl) <| .nil) (by kernel_rfl) ?_
                refine pSeq ?_
                rcases ic h with ⟨hp127, h⟩ | ⟨hp127, h⟩
                · refine wBT hp127 tm (s1 rfl) ?_
                  refine wSeq ?_
                  obtain ⟨y128, hy128, h⟩ := bd h
                  refine rg (cp (oMv tm) (s1 rfl) <| cp (oFldP o191_0 tm) (s1 rfl) <| cr (oLdP (n := 1) (k := 0) (m := 4) (d := (kR f_reticentref09_P)) (u := y124) (lfS (lfC lf1 (lfC (lfS (lfC lf1 (lfC lf1 lfN))) (lfC lf1 lfN)))) rfl rfl rfl t184 tm) (s1 rfl) <| cp (oCall rfl (reticentref09_must.ok hy128) b124 (opds_cons tm (opds_cons tm (opds_cons (cI (by decide)) (opds_cons (cS (by decide)) opds_nil))))) (s2 rfl rfl) <| cp (oFldP o191_0 tm) (s1 rfl) <| cwn (oStP (n := 1) (k := 0) (m := 4) (d := (kR f_reticentref09_P)) (u := y128) (lfS (lfC lf1 (lfC (lfS (lfC lf1 (lfC lf1 lfN))) (lfC lf1 lfN)))) rfl rfl rfl z184 tm tm) (s2 rfl rfl) <| .nil) (by kernel_rfl) ?_
                  refine pSeq ?_
                  refine wSeq ?_
                  refine wFrzR (n := 0) (id := 76) [76] rfl rfl ⟨rfl, trivial⟩ ?_
                  refine rg (cr (oLdP (n := 0) (k := 0) (m := 5) (d := (kR f_reticentref09_S)) (u := (⟨y128, v88 ++ ([(⟨x120, y124.A.V, y124.A.L⟩ : api_Slot)] : List api_Slot)⟩ : reticentref09_S)) (lfS (lfC (lfS (lfC lf1 (lfC (lfS (lfC lf1 (lfC lf1 lfN))) (lfC lf1 lfN)))) (lfC lf1 lfN))) rfl rfl rfl t191 tm) (s1 rfl) <| cwn (oStP (n := 1) (k := 0) (m := 5) (d := (kR f_reticentref09_S)) (u := (⟨y128, v88 ++ ([(⟨x120, y124.A.V, y124.A.L⟩ : api_Slot)] : List api_Slot)⟩ : reticentref09_S)) (lfS (lfC (lfS (lfC lf1 (lfC (lfS (lfC lf1 (lfC lf1 lfN))) (lfC lf1 lfN)))) (lfC lf1 lfN))) rfl rfl rfl z191 tm tm) (s2 rfl rfl) <| .nil) (by kernel_rfl) ?_
                  refine pSeq ?_
                  refine wRet ?_
                  refine pThenR ?_
                  refine pBlkR ?_
                  refine pThenR ?_
                  obtain rfl := so h
                  replace h := hk2
                  refine pThenR ?_
                  refine pBlkR ?_
                  refine pThenR ?_
                  obtain rfl := so h
                  replace h := hk1
                  obtain rfl := so h
                  exact pR1 (.inl rfl) rfl (.boxP (n := 1) (d := (kR f_reticentref09_S)) (u := (⟨y128, v88 ++ ([(⟨x120, y124.A.V, y124.A.L⟩ : api_Slot)] : List api_Slot)⟩ : reticentref09_S)) rfl rfl (lfS (lfC (lfS (lfC lf1 (lfC (lfS (lfC lf1 (lfC lf1 lfN))) (lfC lf1 lfN)))) (lfC lf1 lfN))) rfl t191 <| .nil)
                · refine wBF hp127 tm (s1 rfl) ?_
                  refine wSkip ?_
                  refine pSeq ?_
                  refine rg (cp (oFldP o191_0 tm) (s1 rfl) <| cp (oFldP o184_0 tm) (s1 rfl) <| cr (oLdB (n := 1) (k := 0) rfl rfl rfl t3 tm) (s1 rfl) <| cp (oAdd tm (cI (by decide))) (s1 rfl) <| cp (oFldP o191_0 tm) (s1 rfl) <| cp (oFldP o184_0 tm) (s1 rfl) <| cwn (oSt (n := 1) (k := 0) rfl rfl rfl rfl z3 tm tm) (s2 rfl rfl) <| .nil) (by kernel_rfl) ?_
                  refine pBlkN ?_
                  refine pSub (Γ' := [(1, .d ((kL (kR f_api_Tok)).sig a1)), (4, .d ((kI .i64).sig a4)), (5, .d (kB.sig a5)), (6, .d (sP (kR f_api_Lattice) a0)), (12, .p 12 0), (13, .p 13 0)]) ⟨rfl, rfl, rfl, rfl, rfl, rfl, trivial⟩ ?_
                  refine pRen 76 5654 rfl ?_
                  exact pJ5 _ _ _ _ _ (so h) ⟨rfl, rfl, rfl, rfl, rfl, rfl, trivial⟩ rfl
              · refine wBF hp123 tm (s1 rfl) ?_
                refine wSkip ?_
                refine pSeq ?_
                refine wSeq ?_
                obtain ⟨y129, hy129, h⟩ := bd h
                refine rg (cp (oLd t25 tm) (s1 rfl) <| cp (oMv tm) (s1 rfl) <| cp (oFldP o191_0 tm) (s1 rfl) <| cr (oLdP (n := 1) (k := 0) (m := 4) (d := (kR f_reticentref09_P)) (u := (⟨v84, ⟨v85, v86⟩, v87⟩ : reticentref09_P)) (lfS (lfC lf1 (lfC (lfS (lfC lf1 (lfC lf1 lfN))) (lfC lf1 lfN)))) rfl rfl rfl t184 tm) (s1 rfl) <| cp (oCall rfl (reticentref09_atom.ok hy129) b125 (opds_cons tm (opds_cons tm (opds_cons tm opds_nil)))) (s3 rfl rfl rfl) <| cp (oFldP o191_0 tm) (s1 rfl) <| cwn (oStP (n := 1) (k := 0) (m := 4) (d := (kR f_reticentref09_P)) (u := y129) (lfS (lfC lf1 (lfC (lfS (lfC lf1 (lfC lf1 lfN))) (lfC lf1 lfN)))) rfl rfl rfl z184 tm tm) (s2 rfl rfl) <| .nil) (by kernel_rfl) ?_
                refine pSeq ?_
                refine wSeq ?_
                obtain ⟨hc130, h⟩ := ib h
                refine rg (cp (oFldP o191_1 tm) (s1 rfl) <| cr (oLdN (n := 1) (k := 4) rfl rfl rfl t31 tm) (s1 rfl) <| cp (oMv tm) (s1 rfl) <| cp (oFldP o191_0 tm) (s1 rfl) <| cp (oFldP o184_1 tm) (s1 rfl) <| cp (oFldP o28_0 tm) (s1 rfl) <| cr (oLdB (n := 1) (k := 1) rfl rfl rfl t3 tm) (s1 rfl) <| cp (oFldP o191_0 tm) (s1 rfl) <| cp (oFldP o184_1 tm) (s1 rfl) <| cp (oFldP o28_1 tm) (s1 rfl) <| cr (oLdB (n := 1) (k := 2) rfl rfl rfl t3 tm) (s1 rfl) <| cp (oBuild (fs := f_api_Slot) (u := ⟨x120, y129.A.V, y129.A.L⟩) rfl ze101 pl101 po101 (.op (zc := [(.bool false)]) tm rfl (.op (zc := [(.int .i64 0)]) tm rfl (.op (zc := [(.int .i64 0)]) tm rfl .nil)))) (s3 rfl rfl rfl) <| cp (oLit (d := (kR f_api_Slot)) el31 (by decide) rfl rfl rfl (e1 tm e0)) (s1 rfl) <| cw (oApp (n := 0) (id' := 76) el31 (by decide) rfl (by decide) hc130 tm tm) (s2 rfl rfl) <| cp (oFldP o191_1 tm) (s1 rfl) <| cwn (oStN (n := 1) (m := 0) (k := 4) rfl rfl rfl rfl z31 rfl tm tm) (s2 rfl rfl) <| .nil) (by kernel_rfl) ?_
                refine pSeq ?_
                refine wSeq ?_
                refine wSeq ?_
                obtain ⟨y131, hy131, h⟩ := bd h
                refine rg (cp (oMv tm) (s1 rfl) <| cp (oFldP o191_0 tm) (s1 rfl) <| cr (oLdP (n := 1) (k := 0) (m := 4) (d := (kR f_reticentref09_P)) (u := y129) (lfS (lfC lf1 (lfC (lfS (lfC lf1 (lfC lf1 lfN))) (lfC lf1 lfN)))) rfl rfl rfl t184 tm) (s1 rfl) <| cp (oCall rfl (reticentref09_here.ok hy131) b222 (opds_cons tm (opds_cons tm (opds_cons (cI (by decide)) (opds_cons (cS (by decide)) opds_nil))))) (s2 rfl rfl) <| cp (oNot tm) (s1 rfl) <| .nil) (by kernel_rfl) ?_
                refine pSeq ?_
                rcases ic h with ⟨hp132, h⟩ | ⟨hp132, h⟩
                · refine wBT hp132 tm (s1 rfl) ?_
                  refine wSeq ?_
                  obtain ⟨y133, hy133, h⟩ := bd h
                  refine rg (cp (oMv tm) (s1 rfl) <| cp (oFldP o191_0 tm) (s1 rfl) <| cr (oLdP (n := 1) (k := 0) (m := 4) (d := (kR f_reticentref09_P)) (u := y129) (lfS (lfC lf1 (lfC (lfS (lfC lf1 (lfC lf1 lfN))) (lfC lf1 lfN)))) rfl rfl rfl t184 tm) (s1 rfl) <| cp (oCall rfl (reticentref09_must.ok hy133) b124 (opds_cons tm (opds_cons tm (opds_cons (cI (by decide)) (opds_cons (cS (by decide)) opds_nil))))) (s2 rfl rfl) <| cp (oFldP o191_0 tm) (s1 rfl) <| cwn (oStP (n := 1) (k := 0) (m := 4) (d := (kR f_reticentref09_P)) (u := y133) (lfS (lfC lf1 (lfC (lfS (lfC lf1 (lfC lf1 lfN))) (lfC lf1 lfN)))) rfl rfl rfl z184 tm tm) (s2 rfl rfl) <| .nil) (by kernel_rfl) ?_
                  refine pSeq ?_
                  refine wSeq ?_
                  refine wFrzR (n := 0) (id := 76) [76] rfl rfl ⟨rfl, trivial⟩ ?_
                  refine rg (cr (oLdP (n := 0) (k := 0) (m := 5) (d := (kR f_reticentref09_S)) (u := (⟨y133, v88 ++ ([(⟨x120, y129.A.V, y129.A.L⟩ : api_Slot)] : List api_Slot)⟩ : reticentref09_S)) (lfS (lfC (lfS (lfC lf1 (lfC (lfS (lfC lf1 (lfC lf1 lfN))) (lfC lf1 lfN)))) (lfC lf1 lfN))) rfl rfl rfl t191 tm) (s1 rfl) <| cwn (oStP (n := 1) (k := 0) (m := 5) (d := (kR f_reticentref09_S)) (u := (⟨y133, v88 ++ ([(⟨x120, y129.A.V, y129.A.L⟩ : api_Slot)] : List api_Slot)⟩ : reticentref09_S)) (lfS (lfC (lfS (lfC lf1 (lfC (lfS (lfC lf1 (lfC lf1 lfN))) (lfC lf1 lfN)))) (lfC lf1 lfN))) rfl rfl rfl z191 tm tm) (s2 rfl rfl) <| .nil) (by kernel_rfl) ?_
                  refine pSeq ?_
                  refine wRet ?_
                  refine pThenR ?_
                  refine pBlkR ?_
                  refine pThenR ?_
                  obtain rfl := so h
                  replace h := hk2
                  refine pThenR ?_
                  refine pBlkR ?_
                  refine pThenR ?_
                  obtain rfl := so h
                  replace h := hk1
                  obtain rfl := so h
                  exact pR1 (.inl rfl) rfl (.boxP (n := 1) (d := (kR f_reticentref09_S)) (u := (⟨y133, v88 ++ ([(⟨x120, y129.A.V, y129.A.L⟩ : api_Slot)] : List api_Slot)⟩ : reticentref09_S)) rfl rfl (lfS (lfC (lfS (lfC lf1 (lfC (lfS (lfC lf1 (lfC lf1 lfN))) (lfC lf1 lfN)))) (lfC lf1 lfN))) rfl t191 <| .nil)
                · refine wBF hp132 tm (s1 rfl) ?_
                  refine wSkip ?_
                  refine pSeq ?_
                  refine rg (cp (oFldP o191_0 tm) (s1 rfl) <| cp (oFldP o184_0 tm) (s1 rfl) <| cr (oLdB (n := 1) (k := 0) rfl rfl rfl t3 tm) (s1 rfl) <| cp (oAdd tm (cI (by decide))) (s1 rfl) <| cp (oFldP o191_0 tm) (s1 rfl) <| cp (oFldP o184_0 tm) (s1 rfl) <| cwn (oSt (n := 1) (k := 0) rfl rfl rfl rfl z3 tm tm) (s2 rfl rfl) <| .nil) (by kernel_rfl) ?_
                  refine pBlkN ?_
                  refine pSub (Γ' := [(1, .d ((kL (kR f_api_Tok)).sig a1)), (4, .d ((kI .i64).sig a4)), (5, .d (kB.sig a5)), (6, .d (sP (kR f_api_Lattice) a0)), (12, .p 12 0), (13, .p 13 0)]) ⟨rfl, rfl, rfl, rfl, rfl, rfl, trivial⟩ ?_
                  refine pRen 76 5654 rfl ?_
                  exact pJ5 _ _ _ _ _ (so h) ⟨rfl, rfl, rfl, rfl, rfl, rfl, trivial⟩ rfl
        · rintro x112 x113 x114 x115 x116 rfl
          replace h := hk2
          exact pLoop (lW (ih _ _ _ _ _ h) ⟨rfl, rfl, rfl, rfl, rfl, rfl, trivial⟩ rfl)
      · refine wCF hp94 tm (s1 rfl) ?_
        refine wExit ?_
        refine pThenX ?_
        refine pThenX ?_
        refine pBlkX ?_
        exact pJ5 _ _ _ _ _ (so h) ⟨rfl, rfl, trivial⟩ rfl
    · rintro x89 x90 x91 x92 x93 rfl
      replace h := hk1
      refine wSeq ?_
      refine wFrzR (n := 0) (id := 5654) [] rfl rfl trivial ?_
      refine rg (cr (oLdP (n := 0) (k := 0) (m := 5) (d := (kR f_reticentref09_S)) (u := (⟨⟨x89, ⟨x90, x91⟩, x92⟩, x93⟩ : reticentref09_S)) (lfS (lfC (lfS (lfC lf1 (lfC (lfS (lfC lf1 (lfC lf1 lfN))) (lfC lf1 lfN)))) (lfC lf1 lfN))) rfl rfl rfl t191 tm) (s1 rfl) <| cwn (oStP (n := 1) (k := 0) (m := 5) (d := (kR f_reticentref09_S)) (u := (⟨⟨x89, ⟨x90, x91⟩, x92⟩, x93⟩ : reticentref09_S)) (lfS (lfC (lfS (lfC lf1 (lfC (lfS (lfC lf1 (lfC lf1 lfN))) (lfC lf1 lfN)))) (lfC lf1 lfN))) rfl rfl rfl z191 tm tm) (s2 rfl rfl) <| .nil) (by kernel_rfl) ?_
      refine pSeq ?_
      refine wRet ?_
      obtain rfl := so h
      exact pR1 (.inl rfl) rfl (.boxP (n := 1) (d := (kR f_reticentref09_S)) (u := (⟨⟨x89, ⟨x90, x91⟩, x92⟩, x93⟩ : reticentref09_S)) rfl rfl (lfS (lfC (lfS (lfC lf1 (lfC (lfS (lfC lf1 (lfC lf1 lfN))) (lfC lf1 lfN)))) (lfC lf1 lfN))) rfl t191 <| .nil)
theorem reticentref09_atoms.ok {a0 : List api_Slot} {r : List api_Atom} (h : reticentref09_atoms.f a0 = some r) : FnA Tryz.prog 128 [(kL (kR f_api_Slot)).sig a0] ((kL (kR f_api_Atom)).sig r) := by
  refine fnIntro Tryz.func128 rfl (by kernel_rfl) fun H0 w0 => ?_
  unfold reticentref09_atoms.f at h
  refine wSeq ?_
  refine rg (cp (oAs cV) trivial <| .nil) (by kernel_rfl) ?_
  refine pSeq ?_
  refine wSeq ?_
  refine rg (cw (oLitR (id := 6) (d := (kR f_api_Atom)) el30 (by decide) rfl rfl rfl e0) trivial <| cp (oAs tm) (s1 rfl) <| .nil) (by kernel_rfl) ?_
  refine pSeq ?_
  refine wSeq ?_
  refine wSeq ?_
  refine rg (cp (oMv tm) (s1 rfl) <| cp (oLenL u31 tm) (s1 rfl) <| cp (oMv (cI (by decide))) trivial <| .nil) (by kernel_rfl) ?_
  refine pSeq ?_
  refine wWeak (Γ' := [(3, .v 6), (7, .d ((kL (kR f_api_Slot)).sig a0)), (8, .d ((kI .i64).sig (a0.length : Int))), (9, .d ((kI .i64).sig 0))]) ⟨rfl, rfl, rfl, rfl, trivial⟩ ?_
  refine wRen 6 1003 rfl ?_
  obtain ⟨o1, h, hk1⟩ := bd h
  refine wK1 (fun x9 => x9 = o1) (fun x9 => [(3, .v 1003)]) (fun x9 => [.row 1003 28 (kR f_api_Atom) x9]) ?_ ?_
  · refine wBlock (wLoop ?_)
    refine lW (pc2 o1 (fun v7 v8 => [(3, .v 1003), (7, .d ((kL (kR f_api_Slot)).sig a0)), (8, .d ((kI .i64).sig (a0.length : Int))), (9, .d ((kI .i64).sig v8))]) (fun v7 v8 => [.row 1003 28 (kR f_api_Atom) v7]) (reticentref09_atoms.l0.partial_correctness a0) ?_ _ _ h) ⟨rfl, rfl, rfl, rfl, trivial⟩ rfl
    clear h
    intro f' ih v7 v8 h
    refine wSeq ?_
    refine rg (cp (oLt rfl tm tm) (s2 rfl rfl) <| .nil) (by kernel_rfl) ?_
    refine pSeq ?_
    refine wSeq ?_
    rcases ic h with ⟨hp10, h⟩ | ⟨hp10, h⟩
    · refine wCT hp10 tm (s1 rfl) ?_
      refine wSkip ?_
      refine pSeq ?_
      refine wSeq ?_
      refine wBlock ?_
      refine wSeq ?_
      obtain ⟨y11, hy11, h⟩ := bd h
      refine rg (cp (oIdx u31 z101 hy11 tm tm) (s2 rfl rfl) <| cp (oLd t101 tm) (s1 rfl) <| cw (oAlloc (id := 5) (ls := [.d kB false, .d (kI .i64) 0, .d (kI .i64) 0]) ze101 (fun g => ⟨[(.bool false)], _, rfl, zB g.H, ⟨[(.int .i64 0)], _, rfl, zI_i64 g.H, ⟨[(.int .i64 0)], _, rfl, zI_i64 g.H, rfl⟩⟩⟩)) trivial <| cwn (oStA (n := 0) (fs := f_api_Slot) rfl rfl z101 tm tm) (s2 rfl rfl) <| .nil) (by kernel_rfl) ?_
      refine pSeq ?_
      obtain ⟨hc12, h⟩ := ib h
      refine rg (cp (oMv tm) (s1 rfl) <| cp (oFldP o101_1 tm) (s1 rfl) <| cr (oLdB (n := 0) (k := 1) rfl rfl rfl t3 tm) (s1 rfl) <| cp (oFldP o101_2 tm) (s1 rfl) <| cr (oLdB (n := 0) (k := 2) rfl rfl rfl t3 tm) (s1 rfl) <| cp (oBuild (fs := f_api_Atom) (u := ⟨y11.V, y11.L⟩) rfl ze28 pl28 po28 (.op (zc := [(.int .i64 0)]) tm rfl (.op (zc := [(.int .i64 0)]) tm rfl .nil))) (s2 rfl rfl) <| cp (oLit (d := (kR f_api_Atom)) el30 (by decide) rfl rfl rfl (e1 tm e0)) (s1 rfl) <| cw (oApp (n := 1) (id' := 20) el30 (by decide) rfl (by decide) hc12 tm tm) (s2 rfl rfl) <| cp (oAs tm) (s1 rfl) <| .nil) (by kernel_rfl) ?_
      refine pBlkN ?_
      refine pSeq ?_
      refine rg (cp (oAdd tm (cI (by decide))) (s1 rfl) <| cp (oMv tm) (s1 rfl) <| .nil) (by kernel_rfl) ?_
      refine pDrop (.cons _ (.cons_cons _ .slnil)) ?_
      refine pSub (Γ' := [(3, .v 20), (7, .d ((kL (kR f_api_Slot)).sig a0)), (8, .d ((kI .i64).sig (a0.length : Int))), (9, .d ((kI .i64).sig (IntKind.i64.wrap (v8 + 1))))]) ⟨rfl, rfl, rfl, rfl, trivial⟩ ?_
      refine pRen 20 1003 rfl ?_
      exact pLoop (lW (ih _ _ h) ⟨rfl, rfl, rfl, rfl, trivial⟩ rfl)
    · refine wCF hp10 tm (s1 rfl) ?_
      refine wExit ?_
      refine pThenX ?_
      refine pThenX ?_
      refine pBlkX ?_
      exact pJ1 _ (so h) ⟨rfl, trivial⟩ rfl
  · rintro x9 rfl
    replace h := hk1
    refine pSeq ?_
    refine wSeq ?_
    refine rg (cp (oMv tm) (s1 rfl) <| cp (oAs tm) (s1 rfl) <| .nil) (by kernel_rfl) ?_
    refine pSeq ?_
    refine wFrzR (n := 0) (id := 1003) [2] rfl rfl ⟨rfl, trivial⟩ ?_
    refine wRet ?_
    obtain rfl := so h
    exact pR1 (.inl rfl) rfl (.tmp rfl <| .nil)
theorem reticentref08_Right.ok {a0 : api_Lattice} {a1 : List api_Instr} {r : Bool} (h : reticentref08_Right.f a0 a1 = some r) : FnA Tryz.prog 64 [(kR f_api_Lattice).sig a0, (kL (kR f_api_Instr)).sig a1] (kB.sig r) := by
  refine fnIntro Tryz.func64 rfl (by kernel_rfl) fun H0 w0 => ?_
  unfold reticentref08_Right.f at h
  refine wSeq ?_
  refine rg (cp (oBox tm) (s1 rfl) <| cp (oAs cB) trivial <| .nil) (by kernel_rfl) ?_
  refine pSeq ?_
  refine wSeq ?_
  refine wSeq ?_
  refine rg (cp (oMv tm) (s1 rfl) <| cp (oLenL u29 tm) (s1 rfl) <| cp (oMv (cI (by decide))) trivial <| .nil) (by kernel_rfl) ?_
  refine pSeq ?_
  obtain ⟨o1, h, hk1⟩ := bd h
  refine wK0 (.inr () = o1) ([(1, .d ((kL (kR f_api_Instr)).sig a1))]) ([]) ?_ ?_
  · refine wBlock (wLoop ?_)
    refine lW (pc1 o1 (fun v9 => [(1, .d ((kL (kR f_api_Instr)).sig a1)), (2, .d (sP (kR f_api_Lattice) a0)), (7, .d ((kL (kR f_api_Instr)).sig a1)), (8, .d ((kI .i64).sig (a1.length : Int))), (9, .d ((kI .i64).sig v9))]) (fun v9 => []) (reticentref08_Right.l0.partial_correctness a0 a1) ?_ _ h) ⟨rfl, rfl, rfl, rfl, rfl, trivial⟩ rfl
    clear h
    intro f' ih v9 h
    refine wSeq ?_
    refine rg (cp (oLt rfl tm tm) (s2 rfl rfl) <| .nil) (by kernel_rfl) ?_
    refine pSeq ?_
    refine wSeq ?_
    rcases ic h with ⟨hp10, h⟩ | ⟨hp10, h⟩
    · refine wCT hp10 tm (s1 rfl) ?_
      refine wSkip ?_
      refine pSeq ?_
      refine wSeq ?_
      refine wBlock ?_
      refine wSeq ?_
      obtain ⟨y11, hy11, h⟩ := bd h
      refine rg (cp (oIdx u29 z136 hy11 tm tm) (s2 rfl rfl) <| cp (oLd t136 tm) (s1 rfl) <| cw (oAlloc (id := 6) (ls := [.d (kI .i64) 0, .d (kI .i64) 0, .d (kI .i64) 0]) ze136 (fun g => ⟨[(.int .i64 0)], _, rfl, zI_i64 g.H, ⟨[(.int .i64 0)], _, rfl, zI_i64 g.H, ⟨[(.int .i64 0)], _, rfl, zI_i64 g.H, rfl⟩⟩⟩)) trivial <| cwn (oStA (n := 0) (fs := f_api_Instr) rfl rfl z136 tm tm) (s2 rfl rfl) <| .nil) (by kernel_rfl) ?_
      refine pSeq ?_
      refine wSeq ?_
      obtain ⟨y12, hy12, h⟩ := bd h
      refine rg (cp (oFld (fs := f_api_Lattice) (k := 1) rfl o25_1 tm) (s1 rfl) <| cp (oLd t23 tm) (s1 rfl) <| cp (oLenL u23 tm) (s1 rfl) <| cr (oLdA (n := 0) (fs := f_api_Instr) (u := ⟨y11.Op, y11.N, y11.L⟩) rfl ⟨rfl, rfl, rfl, trivial⟩ t136 tm) (s1 rfl) <| cp (oCall rfl (reticentref08_Instr.ok hy12) b137 (opds_cons tm (opds_cons tm opds_nil))) (s2 rfl rfl) <| cp (oNot tm) (s1 rfl) <| .nil) (by kernel_rfl) ?_
      refine pSeq ?_
      rcases ic h with ⟨hp13, h⟩ | ⟨hp13, h⟩
      · refine wBT hp13 tm (s1 rfl) ?_
        refine wSeq ?_
        refine rg (cp (oAs cB) trivial <| .nil) (by kernel_rfl) ?_
        refine pSeq ?_
        refine wRet ?_
        refine pBlkR ?_
        refine pThenR ?_
        refine pThenR ?_
        refine pBlkR ?_
        refine pThenR ?_
        obtain rfl := so h
        replace h := hk1
        refine pThenR ?_
        obtain rfl := so h
        exact pR1 (.inl rfl) rfl (.tmp rfl <| .nil)
      · refine wBF hp13 tm (s1 rfl) ?_
        refine wSkip ?_
        refine pBlkN ?_
        refine pSeq ?_
        refine rg (cp (oAdd tm (cI (by decide))) (s1 rfl) <| cp (oMv tm) (s1 rfl) <| .nil) (by kernel_rfl) ?_
        refine pDrop (.cons _ .slnil) ?_
        exact pLoop (lW (ih _ h) ⟨rfl, rfl, rfl, rfl, rfl, trivial⟩ rfl)
    · refine wCF hp10 tm (s1 rfl) ?_
      refine wExit ?_
      refine pThenX ?_
      refine pThenX ?_
      refine pBlkX ?_
      exact pJ0 (so h) ⟨rfl, trivial⟩ rfl
  · rintro rfl
    replace h := hk1
    refine pSeq ?_
    refine wSeq ?_
    refine rg (cp (oMv tm) (s1 rfl) <| cp (oLenL u29 tm) (s1 rfl) <| cp (oLe rfl tm (cI (by decide))) (s1 rfl) <| cp (oAs tm) (s1 rfl) <| .nil) (by kernel_rfl) ?_
    refine pSeq ?_
    refine wRet ?_
    obtain rfl := so h
    exact pR1 (.inl rfl) rfl (.tmp rfl <| .nil)
theorem reticentref09_label.ok {a0 : api_Lattice} {a1 : Int} {r : Bool} (h : reticentref09_label.f a0 a1 = some r) : FnA Tryz.prog 65 [(kR f_api_Lattice).sig a0, (kI .i64).sig a1] (kB.sig r) := by
  refine fnIntro Tryz.func65 rfl (by kernel_rfl) fun H0 w0 => ?_
  unfold reticentref09_label.f at h
  refine wSeq ?_
  refine rg (cp (oBox tm) (s1 rfl) <| cp (oAs cB) trivial <| .nil) (by kernel_rfl) ?_
  refine pSeq ?_
  obtain ⟨o1, h, hk1⟩ := bd h
  refine wJ1 (fun x2 => x2 = o1) (fun x2 => [(4, .d (kB.sig x2))]) (fun x2 => []) ?_ ?_
  · rcases ic h with ⟨hp3, h⟩ | ⟨hp3, h⟩
    · refine rg (cp (oMv tm) (s1 rfl) <| cp (oGe rfl tm (cI (by decide))) (s1 rfl) <| cp (oMv tm) (s1 rfl) <| cgB (decide_eq_true hp3) rfl rfl (oMv tm) (s1 rfl) <| cgB (decide_eq_true hp3) rfl rfl (oFld (fs := f_api_Lattice) (k := 1) rfl o25_1 tm) (s1 rfl) <| cgB (decide_eq_true hp3) rfl rfl (oLd t23 tm) (s1 rfl) <| cgB (decide_eq_true hp3) rfl rfl (oLenL u23 tm) (s1 rfl) <| cgB (decide_eq_true hp3) rfl rfl (oLt rfl tm tm) (s2 rfl rfl) <| cp (oPkT (decide_eq_true hp3) tm tm) (s2 rfl rfl) <| cp (oAs tm) (s1 rfl) <| .nil) (by kernel_rfl) ?_
      exact pJ1 _ (so h) ⟨rfl, trivial⟩ rfl
    · refine rg (cp (oMv tm) (s1 rfl) <| cp (oGe rfl tm (cI (by decide))) (s1 rfl) <| cp (oMv tm) (s1 rfl) <| csB (decide_eq_false hp3) rfl rfl <| csB (decide_eq_false hp3) rfl rfl <| csB (decide_eq_false hp3) rfl rfl <| csB (decide_eq_false hp3) rfl rfl <| csB (decide_eq_false hp3) rfl rfl <| cp (oPkF (decide_eq_false hp3) tm cB) (s1 rfl) <| cp (oAs tm) (s1 rfl) <| .nil) (by kernel_rfl) ?_
      exact pJ1 _ (so h) ⟨rfl, trivial⟩ rfl
  · rintro x2 rfl
    replace h := hk1
    refine wRet ?_
    obtain rfl := so h
    exact pR1 (.inl rfl) rfl (.tmp rfl <| .nil)
theorem reticentref09_Atoms.ok {a0 : api_Lattice} {a1 : List api_Atom} {r : Bool} (h : reticentref09_Atoms.f a0 a1 = some r) : FnA Tryz.prog 66 [(kR f_api_Lattice).sig a0, (kL (kR f_api_Atom)).sig a1] (kB.sig r) := by
  refine fnIntro Tryz.func66 rfl (by kernel_rfl) fun H0 w0 => ?_
  unfold reticentref09_Atoms.f at h
  refine wSeq ?_
  refine rg (cp (oBox tm) (s1 rfl) <| cp (oAs cB) trivial <| .nil) (by kernel_rfl) ?_
  refine pSeq ?_
  refine wSeq ?_
  refine wSeq ?_
  refine rg (cp (oMv tm) (s1 rfl) <| cp (oLenL u30 tm) (s1 rfl) <| cp (oMv (cI (by decide))) trivial <| .nil) (by kernel_rfl) ?_
  refine pSeq ?_
  obtain ⟨o1, h, hk1⟩ := bd h
  refine wK0 (.inr () = o1) ([]) ([]) ?_ ?_
  · refine wBlock (wLoop ?_)
    refine lW (pc1 o1 (fun v21 => [(2, .d (sP (kR f_api_Lattice) a0)), (7, .d ((kL (kR f_api_Atom)).sig a1)), (8, .d ((kI .i64).sig (a1.length : Int))), (9, .d ((kI .i64).sig v21))]) (fun v21 => []) (reticentref09_Atoms.l0.partial_correctness a0 a1) ?_ _ h) ⟨rfl, rfl, rfl, rfl, trivial⟩ rfl
    clear h
    intro f' ih v21 h
    refine wSeq ?_
    refine rg (cp (oLt rfl tm tm) (s2 rfl rfl) <| .nil) (by kernel_rfl) ?_
    refine pSeq ?_
    refine wSeq ?_
    rcases ic h with ⟨hp22, h⟩ | ⟨hp22, h⟩
    · refine wCT hp22 tm (s1 rfl) ?_
      refine wSkip ?_
      refine pSeq ?_
      refine wSeq ?_
      refine wBlock ?_
      refine wSeq ?_
      obtain ⟨y23, hy23, h⟩ := bd h
      refine rg (cp (oIdx u30 z28 hy23 tm tm) (s2 rfl rfl) <| cp (oLd t28 tm) (s1 rfl) <| cw (oAlloc (id := 6) (ls := [.d (kI .i64) 0, .d (kI .i64) 0]) ze28 (fun g => ⟨[(.int .i64 0)], _, rfl, zI_i64 g.H, ⟨[(.int .i64 0)], _, rfl, zI_i64 g.H, rfl⟩⟩)) trivial <| cwn (oStA (n := 0) (fs := f_api_Atom) rfl rfl z28 tm tm) (s2 rfl rfl) <| .nil) (by kernel_rfl) ?_
      refine pSeq ?_
      obtain ⟨o2, h, hk2⟩ := bd h
      refine wJ1 (fun x27 => x27 = o2) (fun x27 => [(2, .d (sP (kR f_api_Lattice) a0)), (7, .d ((kL (kR f_api_Atom)).sig a1)), (8, .d ((kI .i64).sig (a1.length : Int))), (9, .d ((kI .i64).sig v21)), (27, .d (kB.sig x27))]) (fun x27 => [.box 6 28 [.d (kI .i64) y23.V, .d (kI .i64) y23.L]]) ?_ ?_
      · rcases ic h with ⟨hp28, h⟩ | ⟨hp28, h⟩
        · refine rg (cp (oFldP o28_0 tm) (s1 rfl) <| cr (oLdB (n := 0) (k := 0) rfl rfl rfl t3 tm) (s1 rfl) <| cp (oLt rfl tm (cI (by decide))) (s1 rfl) <| cp (oMv tm) (s1 rfl) <| csB (decide_eq_true hp28) rfl rfl <| csB (decide_eq_true hp28) rfl rfl <| csB (decide_eq_true hp28) rfl rfl <| cp (oPkT (decide_eq_true hp28) tm cB) (s1 rfl) <| cp (oMv tm) (s1 rfl) <| csB rfl rfl rfl <| csB rfl rfl rfl <| csB rfl rfl rfl <| csB rfl rfl rfl <| csB rfl rfl rfl <| cp (oPkT rfl tm cB) (s1 rfl) <| .nil) (by kernel_rfl) ?_
          exact pJ1 _ (so h) ⟨rfl, rfl, rfl, rfl, rfl, trivial⟩ rfl
        · rcases ic h with ⟨hp29, h⟩ | ⟨hp29, h⟩
          · refine rg (cp (oFldP o28_0 tm) (s1 rfl) <| cr (oLdB (n := 0) (k := 0) rfl rfl rfl t3 tm) (s1 rfl) <| cp (oLt rfl tm (cI (by decide))) (s1 rfl) <| cp (oMv tm) (s1 rfl) <| cgB (decide_eq_false hp28) rfl rfl (oFldP o28_0 tm) (s1 rfl) <| crgB (decide_eq_false hp28) rfl rfl (oLdB (n := 0) (k := 0) rfl rfl rfl t3 tm) (s1 rfl) <| cgB (decide_eq_false hp28) rfl rfl (oGt rfl tm (cI (by decide))) (s1 rfl) <| cp (oPkF (decide_eq_false hp28) tm tm) (s2 rfl rfl) <| cp (oMv tm) (s1 rfl) <| csB (decide_eq_true hp29) rfl rfl <| csB (decide_eq_true hp29) rfl rfl <| csB (decide_eq_true hp29) rfl rfl <| csB (decide_eq_true hp29) rfl rfl <| csB (decide_eq_true hp29) rfl rfl <| cp (oPkT (decide_eq_true hp29) tm cB) (s1 rfl) <| .nil) (by kernel_rfl) ?_
            exact pJ1 _ (so h) ⟨rfl, rfl, rfl, rfl, rfl, trivial⟩ rfl
          · obtain ⟨y30, hy30, h⟩ := bd h
            refine rg (cp (oFldP o28_0 tm) (s1 rfl) <| cr (oLdB (n := 0) (k := 0) rfl rfl rfl t3 tm) (s1 rfl) <| cp (oLt rfl tm (cI (by decide))) (s1 rfl) <| cp (oMv tm) (s1 rfl) <| cgB (decide_eq_false hp28) rfl rfl (oFldP o28_0 tm) (s1 rfl) <| crgB (decide_eq_false hp28) rfl rfl (oLdB (n := 0) (k := 0) rfl rfl rfl t3 tm) (s1 rfl) <| cgB (decide_eq_false hp28) rfl rfl (oGt rfl tm (cI (by decide))) (s1 rfl) <| cp (oPkF (decide_eq_false hp28) tm tm) (s2 rfl rfl) <| cp (oMv tm) (s1 rfl) <| cgB (decide_eq_false hp29) rfl rfl (oLd t25 tm) (s1 rfl) <| cgB (decide_eq_false hp29) rfl rfl (oFldP o28_1 tm) (s1 rfl) <| crgB (decide_eq_false hp29) rfl rfl (oLdB (n := 0) (k := 1) rfl rfl rfl t3 tm) (s1 rfl) <| cgB (decide_eq_false hp29) rfl rfl (oCall rfl (reticentref09_label.ok hy30) b65 (opds_cons tm (opds_cons tm opds_nil))) (s2 rfl rfl) <| cgB (decide_eq_false hp29) rfl rfl (oNot tm) (s1 rfl) <| cp (oPkF (decide_eq_false hp29) tm tm) (s2 rfl rfl) <| .nil) (by kernel_rfl) ?_
            exact pJ1 _ (so h) ⟨rfl, rfl, rfl, rfl, rfl, trivial⟩ rfl
      · rintro x27 rfl
        replace h := hk2
        rcases ic h with ⟨hp31, h⟩ | ⟨hp31, h⟩
        · refine wBT hp31 tm (s1 rfl) ?_
          refine wSeq ?_
          refine rg (cp (oAs cB) trivial <| .nil) (by kernel_rfl) ?_
          refine pSeq ?_
          refine wRet ?_
          refine pBlkR ?_
          refine pThenR ?_
          refine pThenR ?_
          refine pBlkR ?_
          refine pThenR ?_
          obtain rfl := so h
          replace h := hk1
          refine pThenR ?_
          obtain rfl := so h
          exact pR1 (.inl rfl) rfl (.tmp rfl <| .nil)
        · refine wBF hp31 tm (s1 rfl) ?_
          refine wSkip ?_
          refine pBlkN ?_
          refine pSeq ?_
          refine rg (cp (oAdd tm (cI (by decide))) (s1 rfl) <| cp (oMv tm) (s1 rfl) <| .nil) (by kernel_rfl) ?_
          refine pDrop (.cons _ .slnil) ?_
          exact pLoop (lW (ih _ h) ⟨rfl, rfl, rfl, rfl, trivial⟩ rfl)
    · refine wCF hp22 tm (s1 rfl) ?_
      refine wExit ?_
      refine pThenX ?_
      refine pThenX ?_
      refine pBlkX ?_
      exact pJ0 (so h) trivial rfl
  · rintro rfl
    replace h := hk1
    refine pSeq ?_
    refine wSeq ?_
    refine rg (cp (oAs cB) trivial <| .nil) (by kernel_rfl) ?_
    refine pSeq ?_
    refine wRet ?_
    obtain rfl := so h
    exact pR1 (.inl rfl) rfl (.tmp rfl <| .nil)
theorem reticentref09_Stack.ok {a0 : api_Lattice} {a1 : List api_Slot} {r : Bool} (h : reticentref09_Stack.f a0 a1 = some r) : FnA Tryz.prog 67 [(kR f_api_Lattice).sig a0, (kL (kR f_api_Slot)).sig a1] (kB.sig r) := by
  refine fnIntro Tryz.func67 rfl (by kernel_rfl) fun H0 w0 => ?_
  unfold reticentref09_Stack.f at h
  refine wSeq ?_
  refine rg (cp (oBox tm) (s1 rfl) <| cp (oAs cB) trivial <| .nil) (by kernel_rfl) ?_
  refine pSeq ?_
  refine wSeq ?_
  refine wSeq ?_
  refine rg (cp (oMv tm) (s1 rfl) <| cp (oLenL u31 tm) (s1 rfl) <| cp (oMv (cI (by decide))) trivial <| .nil) (by kernel_rfl) ?_
  refine pSeq ?_
  obtain ⟨o1, h, hk1⟩ := bd h
  refine wK0 (.inr () = o1) ([(1, .d ((kL (kR f_api_Slot)).sig a1))]) ([]) ?_ ?_
  · refine wBlock (wLoop ?_)
    refine lW (pc1 o1 (fun v33 => [(1, .d ((kL (kR f_api_Slot)).sig a1)), (2, .d (sP (kR f_api_Lattice) a0)), (7, .d ((kL (kR f_api_Slot)).sig a1)), (8, .d ((kI .i64).sig (a1.length : Int))), (9, .d ((kI .i64).sig v33))]) (fun v33 => []) (reticentref09_Stack.l0.partial_correctness a0 a1) ?_ _ h) ⟨rfl, rfl, rfl, rfl, rfl, trivial⟩ rfl
    clear h
    intro f' ih v33 h
    refine wSeq ?_
    refine rg (cp (oLt rfl tm tm) (s2 rfl rfl) <| .nil) (by kernel_rfl) ?_
    refine pSeq ?_
    refine wSeq ?_
    rcases ic h with ⟨hp34, h⟩ | ⟨hp34, h⟩
    · refine wCT hp34 tm (s1 rfl) ?_
      refine wSkip ?_
      refine pSeq ?_
      refine wSeq ?_
      refine wBlock ?_
      refine wSeq ?_
      obtain ⟨y35, hy35, h⟩ := bd h
      refine rg (cp (oIdx u31 z101 hy35 tm tm) (s2 rfl rfl) <| cp (oLd t101 tm) (s1 rfl) <| cw (oAlloc (id := 6) (ls := [.d kB false, .d (kI .i64) 0, .d (kI .i64) 0]) ze101 (fun g => ⟨[(.bool false)], _, rfl, zB g.H, ⟨[(.int .i64 0)], _, rfl, zI_i64 g.H, ⟨[(.int .i64 0)], _, rfl, zI_i64 g.H, rfl⟩⟩⟩)) trivial <| cwn (oStA (n := 0) (fs := f_api_Slot) rfl rfl z101 tm tm) (s2 rfl rfl) <| .nil) (by kernel_rfl) ?_
      refine pSeq ?_
      obtain ⟨o2, h, hk2⟩ := bd h
      refine wJ1 (fun x42 => x42 = o2) (fun x42 => [(1, .d ((kL (kR f_api_Slot)).sig a1)), (2, .d (sP (kR f_api_Lattice) a0)), (7, .d ((kL (kR f_api_Slot)).sig a1)), (8, .d ((kI .i64).sig (a1.length : Int))), (9, .d ((kI .i64).sig v33)), (41, .d (kB.sig x42))]) (fun x42 => [.box 6 101 [.d kB y35.Ret, .d (kI .i64) y35.V, .d (kI .i64) y35.L]]) ?_ ?_
      · rcases ic h with ⟨hp43, h⟩ | ⟨hp43, h⟩
        · refine rg (cp (oFldP o101_1 tm) (s1 rfl) <| cr (oLdB (n := 0) (k := 1) rfl rfl rfl t3 tm) (s1 rfl) <| cp (oLt rfl tm (cI (by decide))) (s1 rfl) <| cp (oMv tm) (s1 rfl) <| csB (decide_eq_true hp43) rfl rfl <| csB (decide_eq_true hp43) rfl rfl <| csB (decide_eq_true hp43) rfl rfl <| cp (oPkT (decide_eq_true hp43) tm cB) (s1 rfl) <| cp (oMv tm) (s1 rfl) <| csB rfl rfl rfl <| csB rfl rfl rfl <| csB rfl rfl rfl <| csB rfl rfl rfl <| csB rfl rfl rfl <| cp (oPkT rfl tm cB) (s1 rfl) <| cp (oMv tm) (s1 rfl) <| csB rfl rfl rfl <| csB rfl rfl rfl <| csB rfl rfl rfl <| csU rfl rfl <| csU rfl rfl <| csU rfl rfl <| csU rfl rfl <| csU rfl rfl <| csU rfl rfl <| csU rfl rfl <| csU rfl rfl <| csB rfl rfl rfl <| cp (oPkT rfl tm cB) (s1 rfl) <| .nil) (by kernel_rfl) ?_
          exact pJ1 _ (so h) ⟨rfl, rfl, rfl, rfl, rfl, rfl, trivial⟩ rfl
        · rcases ic h with ⟨hp44, h⟩ | ⟨hp44, h⟩
          · refine rg (cp (oFldP o101_1 tm) (s1 rfl) <| cr (oLdB (n := 0) (k := 1) rfl rfl rfl t3 tm) (s1 rfl) <| cp (oLt rfl tm (cI (by decide))) (s1 rfl) <| cp (oMv tm) (s1 rfl) <| cgB (decide_eq_false hp43) rfl rfl (oFldP o101_1 tm) (s1 rfl) <| crgB (decide_eq_false hp43) rfl rfl (oLdB (n := 0) (k := 1) rfl rfl rfl t3 tm) (s1 rfl) <| cgB (decide_eq_false hp43) rfl rfl (oGt rfl tm (cI (by decide))) (s1 rfl) <| cp (oPkF (decide_eq_false hp43) tm tm) (s2 rfl rfl) <| cp (oMv tm) (s1 rfl) <| csB (decide_eq_true hp44) rfl rfl <| csB (decide_eq_true hp44) rfl rfl <| csB (decide_eq_true hp44) rfl rfl <| csB (decide_eq_true hp44) rfl rfl <| csB (decide_eq_true hp44) rfl rfl <| cp (oPkT (decide_eq_true hp44) tm cB) (s1 rfl) <| cp (oMv tm) (s1 rfl) <| csB rfl rfl rfl <| csB rfl rfl rfl <| csB rfl rfl rfl <| csU rfl rfl <| csU rfl rfl <| csU rfl rfl <| csU rfl rfl <| csU rfl rfl <| csU rfl rfl <| csU rfl rfl <| csU rfl rfl <| csB rfl rfl rfl <| cp (oPkT rfl tm cB) (s1 rfl) <| .nil) (by kernel_rfl) ?_
            exact pJ1 _ (so h) ⟨rfl, rfl, rfl, rfl, rfl, rfl, trivial⟩ rfl
          · obtain ⟨y45, hy45, h⟩ := bd h
            rcases ic h with ⟨hp46, h⟩ | ⟨hp46, h⟩
            · refine rg (cp (oFldP o101_1 tm) (s1 rfl) <| cr (oLdB (n := 0) (k := 1) rfl rfl rfl t3 tm) (s1 rfl) <| cp (oLt rfl tm (cI (by decide))) (s1 rfl) <| cp (oMv tm) (s1 rfl) <| cgB (decide_eq_false hp43) rfl rfl (oFldP o101_1 tm) (s1 rfl) <| crgB (decide_eq_false hp43) rfl rfl (oLdB (n := 0) (k := 1) rfl rfl rfl t3 tm) (s1 rfl) <| cgB (decide_eq_false hp43) rfl rfl (oGt rfl tm (cI (by decide))) (s1 rfl) <| cp (oPkF (decide_eq_false hp43) tm tm) (s2 rfl rfl) <| cp (oMv tm) (s1 rfl) <| cgB (decide_eq_false hp44) rfl rfl (oLd t25 tm) (s1 rfl) <| cgB (decide_eq_false hp44) rfl rfl (oFldP o101_2 tm) (s1 rfl) <| crgB (decide_eq_false hp44) rfl rfl (oLdB (n := 0) (k := 2) rfl rfl rfl t3 tm) (s1 rfl) <| cgB (decide_eq_false hp44) rfl rfl (oCall rfl (reticentref09_label.ok hy45) b65 (opds_cons tm (opds_cons tm opds_nil))) (s2 rfl rfl) <| cgB (decide_eq_false hp44) rfl rfl (oNot tm) (s1 rfl) <| cp (oPkF (decide_eq_false hp44) tm tm) (s2 rfl rfl) <| cp (oMv tm) (s1 rfl) <| csB hp46 rfl rfl <| csB hp46 rfl rfl <| csB hp46 rfl rfl <| csU rfl rfl <| csU rfl rfl <| csU rfl rfl <| csU rfl rfl <| csU rfl rfl <| csU rfl rfl <| csU rfl rfl <| csU rfl rfl <| csB hp46 rfl rfl <| cp (oPkT hp46 tm cB) (s1 rfl) <| .nil) (by kernel_rfl) ?_
              exact pJ1 _ (so h) ⟨rfl, rfl, rfl, rfl, rfl, rfl, trivial⟩ rfl
            · rcases ic h with ⟨hp47, h⟩ | ⟨hp47, h⟩
              · rcases ic h with ⟨hp48, h⟩ | ⟨hp48, h⟩
                · refine rg (cp (oFldP o101_1 tm) (s1 rfl) <| cr (oLdB (n := 0) (k := 1) rfl rfl rfl t3 tm) (s1 rfl) <| cp (oLt rfl tm (cI (by decide))) (s1 rfl) <| cp (oMv tm) (s1 rfl) <| cgB (decide_eq_false hp43) rfl rfl (oFldP o101_1 tm) (s1 rfl) <| crgB (decide_eq_false hp43) rfl rfl (oLdB (n := 0) (k := 1) rfl rfl rfl t3 tm) (s1 rfl) <| cgB (decide_eq_false hp43) rfl rfl (oGt rfl tm (cI (by decide))) (s1 rfl) <| cp (oPkF (decide_eq_false hp43) tm tm) (s2 rfl rfl) <| cp (oMv tm) (s1 rfl) <| cgB (decide_eq_false hp44) rfl rfl (oLd t25 tm) (s1 rfl) <| cgB (decide_eq_false hp44) rfl rfl (oFldP o101_2 tm) (s1 rfl) <| crgB (decide_eq_false hp44) rfl rfl (oLdB (n := 0) (k := 2) rfl rfl rfl t3 tm) (s1 rfl) <| cgB (decide_eq_false hp44) rfl rfl (oCall rfl (reticentref09_label.ok hy45) b65 (opds_cons tm (opds_cons tm opds_nil))) (s2 rfl rfl) <| cgB (decide_eq_false hp44) rfl rfl (oNot tm) (s1 rfl) <| cp (oPkF (decide_eq_false hp44) tm tm) (s2 rfl rfl) <| cp (oMv tm) (s1 rfl) <| cgB (nb hp46) rfl rfl (oFldP o101_0 tm) (s1 rfl) <| crgB (nb hp46) rfl rfl (oLdB (n := 0) (k := 0) rfl rfl rfl t4 tm) (s1 rfl) <| cgB (nb hp46) rfl rfl (oMv tm) (s1 rfl) <| cgB hp47 rfl rfl (oFldP o101_1 tm) (s1 rfl) <| crgB hp47 rfl rfl (oLdB (n := 0) (k := 1) rfl rfl rfl t3 tm) (s1 rfl) <| cgB hp47 rfl rfl (oLt rfl tm (cI (by decide))) (s1 rfl) <| cgB hp47 rfl rfl (oMv tm) (s1 rfl) <| csB (decide_eq_true hp48) rfl rfl <| csB (decide_eq_true hp48) rfl rfl <| csB (decide_eq_true hp48) rfl rfl <| cgB hp47 rfl rfl (oPkT (decide_eq_true hp48) tm cB) (s1 rfl) <| cgB (nb hp46) rfl rfl (oPkT hp47 tm tm) (s2 rfl rfl) <| cp (oPkF (nb hp46) tm tm) (s2 rfl rfl) <| .nil) (by kernel_rfl) ?_
                  exact pJ1 _ (so h) ⟨rfl, rfl, rfl, rfl, rfl, rfl, trivial⟩ rfl
                · refine rg (cp (oFldP o101_1 tm) (s1 rfl) <| cr (oLdB (n := 0) (k := 1) rfl rfl rfl t3 tm) (s1 rfl) <| cp (oLt rfl tm (cI (by decide))) (s1 rfl) <| cp (oMv tm) (s1 rfl) <| cgB (decide_eq_false hp43) rfl rfl (oFldP o101_1 tm) (s1 rfl) <| crgB (decide_eq_false hp43) rfl rfl (oLdB (n := 0) (k := 1) rfl rfl rfl t3 tm) (s1 rfl) <| cgB (decide_eq_false hp43) rfl rfl (oGt rfl tm (cI (by decide))) (s1 rfl) <| cp (oPkF (decide_eq_false hp43) tm tm) (s2 rfl rfl) <| cp (oMv tm) (s1 rfl) <| cgB (decide_eq_false hp44) rfl rfl (oLd t25 tm) (s1 rfl) <| cgB (decide_eq_false hp44) rfl rfl (oFldP o101_2 tm) (s1 rfl) <| crgB (decide_eq_false hp44) rfl rfl (oLdB (n := 0) (k := 2) rfl rfl rfl t3 tm) (s1 rfl) <| cgB (decide_eq_false hp44) rfl rfl (oCall rfl (reticentref09_label.ok hy45) b65 (opds_cons tm (opds_cons tm opds_nil))) (s2 rfl rfl) <| cgB (decide_eq_false hp44) rfl rfl (oNot tm) (s1 rfl) <| cp (oPkF (decide_eq_false hp44) tm tm) (s2 rfl rfl) <| cp (oMv tm) (s1 rfl) <| cgB (nb hp46) rfl rfl (oFldP o101_0 tm) (s1 rfl) <| crgB (nb hp46) rfl rfl (oLdB (n := 0) (k := 0) rfl rfl rfl t4 tm) (s1 rfl) <| cgB (nb hp46) rfl rfl (oMv tm) (s1 rfl) <| cgB hp47 rfl rfl (oFldP o101_1 tm) (s1 rfl) <| crgB hp47 rfl rfl (oLdB (n := 0) (k := 1) rfl rfl rfl t3 tm) (s1 rfl) <| cgB hp47 rfl rfl (oLt rfl tm (cI (by decide))) (s1 rfl) <| cgB hp47 rfl rfl (oMv tm) (s1 rfl) <| cgB (decide_eq_false hp48) rfl rfl (oFldP o101_1 tm) (s1 rfl) <| crgB (decide_eq_false hp48) rfl rfl (oLdB (n := 0) (k := 1) rfl rfl rfl t3 tm) (s1 rfl) <| cgB (decide_eq_false hp48) rfl rfl (oGt rfl tm (cI (by decide))) (s1 rfl) <| cgB hp47 rfl rfl (oPkF (decide_eq_false hp48) tm tm) (s2 rfl rfl) <| cgB (nb hp46) rfl rfl (oPkT hp47 tm tm) (s2 rfl rfl) <| cp (oPkF (nb hp46) tm tm) (s2 rfl rfl) <| .nil) (by kernel_rfl) ?_
                  exact pJ1 _ (so h) ⟨rfl, rfl, rfl, rfl, rfl, rfl, trivial⟩ rfl
              · refine rg (cp (oFldP o101_1 tm) (s1 rfl) <| cr (oLdB (n := 0) (k := 1) rfl rfl rfl t3 tm) (s1 rfl) <| cp (oLt rfl tm (cI (by decide))) (s1 rfl) <| cp (oMv tm) (s1 rfl) <| cgB (decide_eq_false hp43) rfl rfl (oFldP o101_1 tm) (s1 rfl) <| crgB (decide_eq_false hp43) rfl rfl (oLdB (n := 0) (k := 1) rfl rfl rfl t3 tm) (s1 rfl) <| cgB (decide_eq_false hp43) rfl rfl (oGt rfl tm (cI (by decide))) (s1 rfl) <| cp (oPkF (decide_eq_false hp43) tm tm) (s2 rfl rfl) <| cp (oMv tm) (s1 rfl) <| cgB (decide_eq_false hp44) rfl rfl (oLd t25 tm) (s1 rfl) <| cgB (decide_eq_false hp44) rfl rfl (oFldP o101_2 tm) (s1 rfl) <| crgB (decide_eq_false hp44) rfl rfl (oLdB (n := 0) (k := 2) rfl rfl rfl t3 tm) (s1 rfl) <| cgB (decide_eq_false hp44) rfl rfl (oCall rfl (reticentref09_label.ok hy45) b65 (opds_cons tm (opds_cons tm opds_nil))) (s2 rfl rfl) <| cgB (decide_eq_false hp44) rfl rfl (oNot tm) (s1 rfl) <| cp (oPkF (decide_eq_false hp44) tm tm) (s2 rfl rfl) <| cp (oMv tm) (s1 rfl) <| cgB (nb hp46) rfl rfl (oFldP o101_0 tm) (s1 rfl) <| crgB (nb hp46) rfl rfl (oLdB (n := 0) (k := 0) rfl rfl rfl t4 tm) (s1 rfl) <| cgB (nb hp46) rfl rfl (oMv tm) (s1 rfl) <| csB (nb hp47) rfl rfl <| csB (nb hp47) rfl rfl <| csB (nb hp47) rfl rfl <| csB (nb hp47) rfl rfl <| csU rfl rfl <| csU rfl rfl <| csU rfl rfl <| csB (nb hp47) rfl rfl <| cgB (nb hp46) rfl rfl (oPkF (nb hp47) tm cB) (s1 rfl) <| cp (oPkF (nb hp46) tm tm) (s2 rfl rfl) <| .nil) (by kernel_rfl) ?_
                exact pJ1 _ (so h) ⟨rfl, rfl, rfl, rfl, rfl, rfl, trivial⟩ rfl
      · rintro x42 rfl
        replace h := hk2
        rcases ic h with ⟨hp49, h⟩ | ⟨hp49, h⟩
        · refine wBT hp49 tm (s1 rfl) ?_
          refine wSeq ?_
          refine rg (cp (oAs cB) trivial <| .nil) (by kernel_rfl) ?_
          refine pSeq ?_
          refine wRet ?_
          refine pBlkR ?_
          refine pThenR ?_
          refine pThenR ?_
          refine pBlkR ?_
          refine pThenR ?_
          obtain rfl := so h
          replace h := hk1
          refine pThenR ?_
          obtain rfl := so h
          exact pR1 (.inl rfl) rfl (.tmp rfl <| .nil)
        · refine wBF hp49 tm (s1 rfl) ?_
          refine wSkip ?_
          refine pBlkN ?_
          refine pSeq ?_
          refine rg (cp (oAdd tm (cI (by decide))) (s1 rfl) <| cp (oMv tm) (s1 rfl) <| .nil) (by kernel_rfl) ?_
          refine pDrop (.cons _ .slnil) ?_
          exact pLoop (lW (ih _ h) ⟨rfl, rfl, rfl, rfl, rfl, trivial⟩ rfl)
    · refine wCF hp34 tm (s1 rfl) ?_
      refine wExit ?_
      refine pThenX ?_
      refine pThenX ?_
      refine pBlkX ?_
      exact pJ0 (so h) ⟨rfl, trivial⟩ rfl
  · rintro rfl
    replace h := hk1
    refine pSeq ?_
    refine wSeq ?_
    refine rg (cp (oMv tm) (s1 rfl) <| cp (oLenL u31 tm) (s1 rfl) <| cp (oLe rfl tm (cI (by decide))) (s1 rfl) <| cp (oAs tm) (s1 rfl) <| .nil) (by kernel_rfl) ?_
    refine pSeq ?_
    refine wRet ?_
    obtain rfl := so h
    exact pR1 (.inl rfl) rfl (.tmp rfl <| .nil)
theorem reticentref09_Right.ok {a0 : api_Lattice} {a1 : api_State} {r : Bool} (h : reticentref09_Right.f a0 a1 = some r) : FnA Tryz.prog 19 [(kR f_api_Lattice).sig a0, (kR f_api_State).sig a1] (kB.sig r) := by
  refine fnIntro Tryz.func19 rfl (by kernel_rfl) fun H0 w0 => ?_
  unfold reticentref09_Right.f at h
  refine wSeq ?_
  refine rg (cp (oBox tm) (s1 rfl) <| cp (oBox tm) (s1 rfl) <| cp (oAs cB) trivial <| .nil) (by kernel_rfl) ?_
  refine pSeq ?_
  refine wSeq ?_
  obtain ⟨o1, h, hk1⟩ := bd h
  refine wJ1 (fun x6 => x6 = o1) (fun x6 => [(2, .d (sP (kR f_api_Lattice) a0)), (3, .d (sP (kR f_api_State) a1)), (29, .d (kB.sig x6))]) (fun x6 => []) ?_ ?_
  · obtain ⟨y7, hy7, h⟩ := bd h
    rcases ic h with ⟨hp8, h⟩ | ⟨hp8, h⟩
    · refine rg (cp (oLd t25 tm) (s1 rfl) <| cp (oFld (fs := f_api_State) (k := 1) rfl o33_1 tm) (s1 rfl) <| cp (oLd t29 tm) (s1 rfl) <| cp (oCall rfl (reticentref08_Right.ok hy7) b64 (opds_cons tm (opds_cons tm opds_nil))) (s2 rfl rfl) <| cp (oNot tm) (s1 rfl) <| cp (oMv tm) (s1 rfl) <| csB hp8 rfl rfl <| csB hp8 rfl rfl <| csB hp8 rfl rfl <| csB hp8 rfl rfl <| cp (oPkT hp8 tm cB) (s1 rfl) <| cp (oMv tm) (s1 rfl) <| csB rfl rfl rfl <| csB rfl rfl rfl <| csB rfl rfl rfl <| csB rfl rfl rfl <| cp (oPkT rfl tm cB) (s1 rfl) <| cp (oMv tm) (s1 rfl) <| csB rfl rfl rfl <| csB rfl rfl rfl <| csB rfl rfl rfl <| csB rfl rfl rfl <| csB rfl rfl rfl <| csB rfl rfl rfl <| cp (oPkT rfl tm cB) (s1 rfl) <| .nil) (by kernel_rfl) ?_
      exact pJ1 _ (so h) ⟨rfl, rfl, rfl, trivial⟩ rfl
    · rcases ic h with ⟨hp9, h⟩ | ⟨hp9, h⟩
      · refine rg (cp (oLd t25 tm) (s1 rfl) <| cp (oFld (fs := f_api_State) (k := 1) rfl o33_1 tm) (s1 rfl) <| cp (oLd t29 tm) (s1 rfl) <| cp (oCall rfl (reticentref08_Right.ok hy7) b64 (opds_cons tm (opds_cons tm opds_nil))) (s2 rfl rfl) <| cp (oNot tm) (s1 rfl) <| cp (oMv tm) (s1 rfl) <| cgB (nb hp8) rfl rfl (oFld (fs := f_api_State) (k := 0) rfl o33_0 tm) (s1 rfl) <| cgB (nb hp8) rfl rfl (oFld (fs := f_api_Atom) (k := 0) rfl o28_0 tm) (s1 rfl) <| cgB (nb hp8) rfl rfl (oLd t3 tm) (s1 rfl) <| cgB (nb hp8) rfl rfl (oLt rfl tm (cI (by decide))) (s1 rfl) <| cp (oPkF (nb hp8) tm tm) (s2 rfl rfl) <| cp (oMv tm) (s1 rfl) <| csB (decide_eq_true hp9) rfl rfl <| csB (decide_eq_true hp9) rfl rfl <| csB (decide_eq_true hp9) rfl rfl <| csB (decide_eq_true hp9) rfl rfl <| cp (oPkT (decide_eq_true hp9) tm cB) (s1 rfl) <| cp (oMv tm) (s1 rfl) <| csB rfl rfl rfl <| csB rfl rfl rfl <| csB rfl rfl rfl <| csB rfl rfl rfl <| csB rfl rfl rfl <| csB rfl rfl rfl <| cp (oPkT rfl tm cB) (s1 rfl) <| .nil) (by kernel_rfl) ?_
        exact pJ1 _ (so h) ⟨rfl, rfl, rfl, trivial⟩ rfl
      · rcases ic h with ⟨hp10, h⟩ | ⟨hp10, h⟩
        · refine rg (cp (oLd t25 tm) (s1 rfl) <| cp (oFld (fs := f_api_State) (k := 1) rfl o33_1 tm) (s1 rfl) <| cp (oLd t29 tm) (s1 rfl) <| cp (oCall rfl (reticentref08_Right.ok hy7) b64 (opds_cons tm (opds_cons tm opds_nil))) (s2 rfl rfl) <| cp (oNot tm) (s1 rfl) <| cp (oMv tm) (s1 rfl) <| cgB (nb hp8) rfl rfl (oFld (fs := f_api_State) (k := 0) rfl o33_0 tm) (s1 rfl) <| cgB (nb hp8) rfl rfl (oFld (fs := f_api_Atom) (k := 0) rfl o28_0 tm) (s1 rfl) <| cgB (nb hp8) rfl rfl (oLd t3 tm) (s1 rfl) <| cgB (nb hp8) rfl rfl (oLt rfl tm (cI (by decide))) (s1 rfl) <| cp (oPkF (nb hp8) tm tm) (s2 rfl rfl) <| cp (oMv tm) (s1 rfl) <| cgB (decide_eq_false hp9) rfl rfl (oFld (fs := f_api_State) (k := 0) rfl o33_0 tm) (s1 rfl) <| cgB (decide_eq_false hp9) rfl rfl (oFld (fs := f_api_Atom) (k := 0) rfl o28_0 tm) (s1 rfl) <| cgB (decide_eq_false hp9) rfl rfl (oLd t3 tm) (s1 rfl) <| cgB (decide_eq_false hp9) rfl rfl (oGt rfl tm (cI (by decide))) (s1 rfl) <| cp (oPkF (decide_eq_false hp9) tm tm) (s2 rfl rfl) <| cp (oMv tm) (s1 rfl) <| csB (decide_eq_true hp10) rfl rfl <| csB (decide_eq_true hp10) rfl rfl <| csB (decide_eq_true hp10) rfl rfl <| csB (decide_eq_true hp10) rfl rfl <| csB (decide_eq_true hp10) rfl rfl <| csB (decide_eq_true hp10) rfl rfl <| cp (oPkT (decide_eq_true hp10) tm cB) (s1 rfl) <| .nil) (by kernel_rfl) ?_
          exact pJ1 _ (so h) ⟨rfl, rfl, rfl, trivial⟩ rfl
        · obtain ⟨y11, hy11, h⟩ := bd h
          refine rg (cp (oLd t25 tm) (s1 rfl) <| cp (oFld (fs := f_api_State) (k := 1) rfl o33_1 tm) (s1 rfl) <| cp (oLd t29 tm) (s1 rfl) <| cp (oCall rfl (reticentref08_Right.ok hy7) b64 (opds_cons tm (opds_cons tm opds_nil))) (s2 rfl rfl) <| cp (oNot tm) (s1 rfl) <| cp (oMv tm) (s1 rfl) <| cgB (nb hp8) rfl rfl (oFld (fs := f_api_State) (k := 0) rfl o33_0 tm) (s1 rfl) <| cgB (nb hp8) rfl rfl (oFld (fs := f_api_Atom) (k := 0) rfl o28_0 tm) (s1 rfl) <| cgB (nb hp8) rfl rfl (oLd t3 tm) (s1 rfl) <| cgB (nb hp8) rfl rfl (oLt rfl tm (cI (by decide))) (s1 rfl) <| cp (oPkF (nb hp8) tm tm) (s2 rfl rfl) <| cp (oMv tm) (s1 rfl) <| cgB (decide_eq_false hp9) rfl rfl (oFld (fs := f_api_State) (k := 0) rfl o33_0 tm) (s1 rfl) <| cgB (decide_eq_false hp9) rfl rfl (oFld (fs := f_api_Atom) (k := 0) rfl o28_0 tm) (s1 rfl) <| cgB (decide_eq_false hp9) rfl rfl (oLd t3 tm) (s1 rfl) <| cgB (decide_eq_false hp9) rfl rfl (oGt rfl tm (cI (by decide))) (s1 rfl) <| cp (oPkF (decide_eq_false hp9) tm tm) (s2 rfl rfl) <| cp (oMv tm) (s1 rfl) <| cgB (decide_eq_false hp10) rfl rfl (oLd t25 tm) (s1 rfl) <| cgB (decide_eq_false hp10) rfl rfl (oFld (fs := f_api_State) (k := 0) rfl o33_0 tm) (s1 rfl) <| cgB (decide_eq_false hp10) rfl rfl (oFld (fs := f_api_Atom) (k := 1) rfl o28_1 tm) (s1 rfl) <| cgB (decide_eq_false hp10) rfl rfl (oLd t3 tm) (s1 rfl) <| cgB (decide_eq_false hp10) rfl rfl (oCall rfl (reticentref09_label.ok hy11) b65 (opds_cons tm (opds_cons tm opds_nil))) (s2 rfl rfl) <| cgB (decide_eq_false hp10) rfl rfl (oNot tm) (s1 rfl) <| cp (oPkF (decide_eq_false hp10) tm tm) (s2 rfl rfl) <| .nil) (by kernel_rfl) ?_
          exact pJ1 _ (so h) ⟨rfl, rfl, rfl, trivial⟩ rfl
  · rintro x6 rfl
    replace h := hk1
    rcases ic h with ⟨hp12, h⟩ | ⟨hp12, h⟩
    · refine wBT hp12 tm (s1 rfl) ?_
      refine wSeq ?_
      refine rg (cp (oAs cB) trivial <| .nil) (by kernel_rfl) ?_
      refine pSeq ?_
      refine wRet ?_
      refine pThenR ?_
      obtain rfl := so h
      exact pR1 (.inl rfl) rfl (.tmp rfl <| .nil)
    · refine wBF hp12 tm (s1 rfl) ?_
      refine wSkip ?_
      refine pSeq ?_
      obtain ⟨o1, h, hk1⟩ := bd h
      refine wJ1 (fun x20 => x20 = o1) (fun x20 => [(4, .d (kB.sig x20))]) (fun x20 => []) ?_ ?_
      · obtain ⟨y21, hy21, h⟩ := bd h
        rcases ic h with ⟨hp22, h⟩ | ⟨hp22, h⟩
        · rcases ic h with ⟨hp23, h⟩ | ⟨hp23, h⟩
          · obtain ⟨y24, hy24, h⟩ := bd h
            rcases ic h with ⟨hp25, h⟩ | ⟨hp25, h⟩
            · obtain ⟨y26, hy26, h⟩ := bd h
              rcases ic h with ⟨hp27, h⟩ | ⟨hp27, h⟩
              · refine rg (cp (oLd t25 tm) (s1 rfl) <| cp (oFld (fs := f_api_State) (k := 2) rfl o33_2 tm) (s1 rfl) <| cp (oLd t30 tm) (s1 rfl) <| cp (oCall rfl (reticentref09_Atoms.ok hy21) b66 (opds_cons tm (opds_cons tm opds_nil))) (s2 rfl rfl) <| cp (oMv tm) (s1 rfl) <| cgB hp22 rfl rfl (oFld (fs := f_api_State) (k := 2) rfl o33_2 tm) (s1 rfl) <| cgB hp22 rfl rfl (oLd t30 tm) (s1 rfl) <| cgB hp22 rfl rfl (oLenL u30 tm) (s1 rfl) <| cgB hp22 rfl rfl (oLe rfl tm (cI (by decide))) (s1 rfl) <| cp (oPkT hp22 tm tm) (s2 rfl rfl) <| cp (oMv tm) (s1 rfl) <| cgB (decide_eq_true hp23) rfl rfl (oLd t25 tm) (s1 rfl) <| cgB (decide_eq_true hp23) rfl rfl (oFld (fs := f_api_State) (k := 3) rfl o33_3 tm) (s1 rfl) <| cgB (decide_eq_true hp23) rfl rfl (oLd t31 tm) (s1 rfl) <| cgB (decide_eq_true hp23) rfl rfl (oCall rfl (reticentref09_Stack.ok hy24) b67 (opds_cons tm (opds_cons tm opds_nil))) (s2 rfl rfl) <| cp (oPkT (decide_eq_true hp23) tm tm) (s2 rfl rfl) <| cp (oMv tm) (s1 rfl) <| cgB hp25 rfl rfl (oLd t25 tm) (s1 rfl) <| cgB hp25 rfl rfl (oFld (fs := f_api_State) (k := 4) rfl o33_4 tm) (s1 rfl) <| cgB hp25 rfl rfl (oLd t30 tm) (s1 rfl) <| cgB hp25 rfl rfl (oCall rfl (reticentref09_Atoms.ok hy26) b66 (opds_cons tm (opds_cons tm opds_nil))) (s2 rfl rfl) <| cp (oPkT hp25 tm tm) (s2 rfl rfl) <| cp (oMv tm) (s1 rfl) <| cgB hp27 rfl rfl (oFld (fs := f_api_State) (k := 4) rfl o33_4 tm) (s1 rfl) <| cgB hp27 rfl rfl (oLd t30 tm) (s1 rfl) <| cgB hp27 rfl rfl (oLenL u30 tm) (s1 rfl) <| cgB hp27 rfl rfl (oLe rfl tm (cI (by decide))) (s1 rfl) <| cp (oPkT hp27 tm tm) (s2 rfl rfl) <| cp (oAs tm) (s1 rfl) <| .nil) (by kernel_rfl) ?_
                exact pJ1 _ (so h) ⟨rfl, trivial⟩ rfl
              · refine rg (cp (oLd t25 tm) (s1 rfl) <| cp (oFld (fs := f_api_State) (k := 2) rfl o33_2 tm) (s1 rfl) <| cp (oLd t30 tm) (s1 rfl) <| cp (oCall rfl (reticentref09_Atoms.ok hy21) b66 (opds_cons tm (opds_cons tm opds_nil))) (s2 rfl rfl) <| cp (oMv tm) (s1 rfl) <| cgB hp22 rfl rfl (oFld (fs := f_api_State) (k := 2) rfl o33_2 tm) (s1 rfl) <| cgB hp22 rfl rfl (oLd t30 tm) (s1 rfl) <| cgB hp22 rfl rfl (oLenL u30 tm) (s1 rfl) <| cgB hp22 rfl rfl (oLe rfl tm (cI (by decide))) (s1 rfl) <| cp (oPkT hp22 tm tm) (s2 rfl rfl) <| cp (oMv tm) (s1 rfl) <| cgB (decide_eq_true hp23) rfl rfl (oLd t25 tm) (s1 rfl) <| cgB (decide_eq_true hp23) rfl rfl (oFld (fs := f_api_State) (k := 3) rfl o33_3 tm) (s1 rfl) <| cgB (decide_eq_true hp23) rfl rfl (oLd t31 tm) (s1 rfl) <| cgB (decide_eq_true hp23) rfl rfl (oCall rfl (reticentref09_Stack.ok hy24) b67 (opds_cons tm (opds_cons tm opds_nil))) (s2 rfl rfl) <| cp (oPkT (decide_eq_true hp23) tm tm) (s2 rfl rfl) <| cp (oMv tm) (s1 rfl) <| cgB hp25 rfl rfl (oLd t25 tm) (s1 rfl) <| cgB hp25 rfl rfl (oFld (fs := f_api_State) (k := 4) rfl o33_4 tm) (s1 rfl) <| cgB hp25 rfl rfl (oLd t30 tm) (s1 rfl) <| cgB hp25 rfl rfl (oCall rfl (reticentref09_Atoms.ok hy26) b66 (opds_cons tm (opds_cons tm opds_nil))) (s2 rfl rfl) <| cp (oPkT hp25 tm tm) (s2 rfl rfl) <| cp (oMv tm) (s1 rfl) <| csB (nb hp27) rfl rfl <| csB (nb hp27) rfl rfl <| csB (nb hp27) rfl rfl <| csB (nb hp27) rfl rfl <| cp (oPkF (nb hp27) tm cB) (s1 rfl) <| cp (oAs tm) (s1 rfl) <| .nil) (by kernel_rfl) ?_
                exact pJ1 _ (so h) ⟨rfl, trivial⟩ rfl
            · refine rg (cp (oLd t25 tm) (s1 rfl) <| cp (oFld (fs := f_api_State) (k := 2) rfl o33_2 tm) (s1 rfl) <| cp (oLd t30 tm) (s1 rfl) <| cp (oCall rfl (reticentref09_Atoms.ok hy21) b66 (opds_cons tm (opds_cons tm opds_nil))) (s2 rfl rfl) <| cp (oMv tm) (s1 rfl) <| cgB hp22 rfl rfl (oFld (fs := f_api_State) (k := 2) rfl o33_2 tm) (s1 rfl) <| cgB hp22 rfl rfl (oLd t30 tm) (s1 rfl) <| cgB hp22 rfl rfl (oLenL u30 tm) (s1 rfl) <| cgB hp22 rfl rfl (oLe rfl tm (cI (by decide))) (s1 rfl) <| cp (oPkT hp22 tm tm) (s2 rfl rfl) <| cp (oMv tm) (s1 rfl) <| cgB (decide_eq_true hp23) rfl rfl (oLd t25 tm) (s1 rfl) <| cgB (decide_eq_true hp23) rfl rfl (oFld (fs := f_api_State) (k := 3) rfl o33_3 tm) (s1 rfl) <| cgB (decide_eq_true hp23) rfl rfl (oLd t31 tm) (s1 rfl) <| cgB (decide_eq_true hp23) rfl rfl (oCall rfl (reticentref09_Stack.ok hy24) b67 (opds_cons tm (opds_cons tm opds_nil))) (s2 rfl rfl) <| cp (oPkT (decide_eq_true hp23) tm tm) (s2 rfl rfl) <| cp (oMv tm) (s1 rfl) <| csB (nb hp25) rfl rfl <| csB (nb hp25) rfl rfl <| csB (nb hp25) rfl rfl <| csB (nb hp25) rfl rfl <| cp (oPkF (nb hp25) tm cB) (s1 rfl) <| cp (oMv tm) (s1 rfl) <| csB rfl rfl rfl <| csB rfl rfl rfl <| csB rfl rfl rfl <| csB rfl rfl rfl <| cp (oPkF rfl tm cB) (s1 rfl) <| cp (oAs tm) (s1 rfl) <| .nil) (by kernel_rfl) ?_
              exact pJ1 _ (so h) ⟨rfl, trivial⟩ rfl
          · refine rg (cp (oLd t25 tm) (s1 rfl) <| cp (oFld (fs := f_api_State) (k := 2) rfl o33_2 tm) (s1 rfl) <| cp (oLd t30 tm) (s1 rfl) <| cp (oCall rfl (reticentref09_Atoms.ok hy21) b66 (opds_cons tm (opds_cons tm opds_nil))) (s2 rfl rfl) <| cp (oMv tm) (s1 rfl) <| cgB hp22 rfl rfl (oFld (fs := f_api_State) (k := 2) rfl o33_2 tm) (s1 rfl) <| cgB hp22 rfl rfl (oLd t30 tm) (s1 rfl) <| cgB hp22 rfl rfl (oLenL u30 tm) (s1 rfl) <| cgB hp22 rfl rfl (oLe rfl tm (cI (by decide))) (s1 rfl) <| cp (oPkT hp22 tm tm) (s2 rfl rfl) <| cp (oMv tm) (s1 rfl) <| csB (decide_eq_false hp23) rfl rfl <| csB (decide_eq_false hp23) rfl rfl <| csB (decide_eq_false hp23) rfl rfl <| csB (decide_eq_false hp23) rfl rfl <| cp (oPkF (decide_eq_false hp23) tm cB) (s1 rfl) <| cp (oMv tm) (s1 rfl) <| csB rfl rfl rfl <| csB rfl rfl rfl <| csB rfl rfl rfl <| csB rfl rfl rfl <| cp (oPkF rfl tm cB) (s1 rfl) <| cp (oMv tm) (s1 rfl) <| csB rfl rfl rfl <| csB rfl rfl rfl <| csB rfl rfl rfl <| csB rfl rfl rfl <| cp (oPkF rfl tm cB) (s1 rfl) <| cp (oAs tm) (s1 rfl) <| .nil) (by kernel_rfl) ?_
            exact pJ1 _ (so h) ⟨rfl, trivial⟩ rfl
        · refine rg (cp (oLd t25 tm) (s1 rfl) <| cp (oFld (fs := f_api_State) (k := 2) rfl o33_2 tm) (s1 rfl) <| cp (oLd t30 tm) (s1 rfl) <| cp (oCall rfl (reticentref09_Atoms.ok hy21) b66 (opds_cons tm (opds_cons tm opds_nil))) (s2 rfl rfl) <| cp (oMv tm) (s1 rfl) <| csB (nb hp22) rfl rfl <| csB (nb hp22) rfl rfl <| csB (nb hp22) rfl rfl <| csB (nb hp22) rfl rfl <| cp (oPkF (nb hp22) tm cB) (s1 rfl) <| cp (oMv tm) (s1 rfl) <| csB rfl rfl rfl <| csB rfl rfl rfl <| csB rfl rfl rfl <| csB rfl rfl rfl <| cp (oPkF rfl tm cB) (s1 rfl) <| cp (oMv tm) (s1 rfl) <| csB rfl rfl rfl <| csB rfl rfl rfl <| csB rfl rfl rfl <| csB rfl rfl rfl <| cp (oPkF rfl tm cB) (s1 rfl) <| cp (oMv tm) (s1 rfl) <| csB rfl rfl rfl <| csB rfl rfl rfl <| csB rfl rfl rfl <| csB rfl rfl rfl <| cp (oPkF rfl tm cB) (s1 rfl) <| cp (oAs tm) (s1 rfl) <| .nil) (by kernel_rfl) ?_
          exact pJ1 _ (so h) ⟨rfl, trivial⟩ rfl
      · rintro x20 rfl
        replace h := hk1
        refine wRet ?_
        obtain rfl := so h
        exact pR1 (.inl rfl) rfl (.tmp rfl <| .nil)
theorem reticentref09_From.ok {a0 : api_Lattice} {a1 : List api_Tok} {a2 : Int} {r : reticentref09_R} (h : reticentref09_From.f a0 a1 a2 = some r) : FnA Tryz.prog 53 [(kR f_api_Lattice).sig a0, (kL (kR f_api_Tok)).sig a1, (kI .i64).sig a2] ((kR f_reticentref09_R).sig r) := by
  refine fnIntro Tryz.func53 rfl (by kernel_rfl) fun H0 w0 => ?_
  unfold reticentref09_From.f at h
  refine wSeq ?_
  refine rg (cp (oBox tm) (s1 rfl) <| cw (oAlloc (id := 6) (ls := [.d (kI .i64) 0, .d (kI .i64) 0, .d (kL (kR f_api_Instr)) [], .d (kL (kR f_api_Atom)) [], .d (kL (kR f_api_Slot)) [], .d (kL (kR f_api_Atom)) [], .d (kI .i64) 0, .d (kI .i64) 0]) ze38 (fun g => ⟨[(.int .i64 0)], _, rfl, zI_i64 g.H, ⟨[(.int .i64 0)], _, rfl, zI_i64 g.H, ⟨[(.slice none 0 0)], _, rfl, zL g.H, ⟨[(.slice none 0 0)], _, rfl, zL g.H, ⟨[(.slice none 0 0)], _, rfl, zL g.H, ⟨[(.slice none 0 0)], _, rfl, zL g.H, ⟨[(.int .i64 0)], _, rfl, zI_i64 g.H, ⟨[(.int .i64 0)], _, rfl, zI_i64 g.H, rfl⟩⟩⟩⟩⟩⟩⟩⟩)) trivial <| .nil) (by kernel_rfl) ?_
  refine pSeq ?_
  refine wSeq ?_
  obtain ⟨y1, hy1, h⟩ := bd h
  refine rg (cp (oMv tm) (s1 rfl) <| cp (oMv tm) (s1 rfl) <| cp (oBuild (fs := f_reticentref09_P) (u := ⟨a2, (⟨0, 0⟩ : api_Atom), 0⟩) rfl ze184 pl184 po184 (.op (zc := [(.int .i64 0)]) tm rfl (.ze (zc := [(.int .i64 0), (.int .i64 0)]) zR_api_Atom (.ze (zc := [(.int .i64 0)]) zI_i64 .nil)))) (s1 rfl) <| cp (oCall rfl (reticentref09_must.ok hy1) b124 (opds_cons tm (opds_cons tm (opds_cons (cI (by decide)) (opds_cons (cS (by decide)) opds_nil))))) (s2 rfl rfl) <| cw (oAlloc (id := 7) (ls := [.d (kI .i64) 0, .d (kI .i64) 0, .d (kI .i64) 0, .d (kI .i64) 0]) ze184 (fun g => ⟨[(.int .i64 0)], _, rfl, zI_i64 g.H, ⟨[(.int .i64 0)], _, rfl, zI_i64 g.H, ⟨[(.int .i64 0)], _, rfl, zI_i64 g.H, ⟨[(.int .i64 0)], _, rfl, zI_i64 g.H, rfl⟩⟩⟩⟩)) trivial <| cwn (oStP (n := 0) (k := 0) (m := 4) (d := (kR f_reticentref09_P)) (u := y1) (lfS (lfC lf1 (lfC (lfS (lfC lf1 (lfC lf1 lfN))) (lfC lf1 lfN)))) rfl rfl rfl z184 tm tm) (s2 rfl rfl) <| .nil) (by kernel_rfl) ?_
  refine pSeq ?_
  refine wSeq ?_
  obtain ⟨y2, hy2, h⟩ := bd h
  refine rg (cp (oLd t25 tm) (s1 rfl) <| cp (oMv tm) (s1 rfl) <| cr (oLdP (n := 0) (k := 0) (m := 4) (d := (kR f_reticentref09_P)) (u := y1) (lfS (lfC lf1 (lfC (lfS (lfC lf1 (lfC lf1 lfN))) (lfC lf1 lfN)))) rfl rfl rfl t184 tm) (s1 rfl) <| cp (oCall rfl (reticentref09_atom.ok hy2) b125 (opds_cons tm (opds_cons tm (opds_cons tm opds_nil)))) (s3 rfl rfl rfl) <| cwn (oStP (n := 0) (k := 0) (m := 4) (d := (kR f_reticentref09_P)) (u := y2) (lfS (lfC lf1 (lfC (lfS (lfC lf1 (lfC lf1 lfN))) (lfC lf1 lfN)))) rfl rfl rfl z184 tm tm) (s2 rfl rfl) <| .nil) (by kernel_rfl) ?_
  refine pSeq ?_
  refine wSeq ?_
  refine rg (cp (oFldP o184_1 tm) (s1 rfl) <| cr (oLdP (n := 0) (k := 1) (m := 2) (d := (kR f_api_Atom)) (u := y2.A) (lfS (lfC lf1 (lfC lf1 lfN))) rfl rfl rfl t28 tm) (s1 rfl) <| cp (oBuild (fs := f_api_State) (u := ⟨y2.A, [], [], [], []⟩) rfl ze33 pl33 po33 (.op (zc := [(.int .i64 0), (.int .i64 0)]) tm rfl (.ze (zc := [(.slice none 0 0)]) zL (.ze (zc := [(.slice none 0 0)]) zL (.ze (zc := [(.slice none 0 0)]) zL (.ze (zc := [(.slice none 0 0)]) zL .nil)))))) (s1 rfl) <| cw (oAlloc (id := 8) (ls := [.d (kI .i64) 0, .d (kI .i64) 0, .d (kL (kR f_api_Instr)) [], .d (kL (kR f_api_Atom)) [], .d (kL (kR f_api_Slot)) [], .d (kL (kR f_api_Atom)) []]) ze33 (fun g => ⟨[(.int .i64 0)], _, rfl, zI_i64 g.H, ⟨[(.int .i64 0)], _, rfl, zI_i64 g.H, ⟨[(.slice none 0 0)], _, rfl, zL g.H, ⟨[(.slice none 0 0)], _, rfl, zL g.H, ⟨[(.slice none 0 0)], _, rfl, zL g.H, ⟨[(.slice none 0 0)], _, rfl, zL g.H, rfl⟩⟩⟩⟩⟩⟩)) trivial <| cwn (oStP (n := 0) (k := 0) (m := 6) (d := (kR f_api_State)) (u := (⟨y2.A, [], [], [], []⟩ : api_State)) (lfS (lfC (lfS (lfC lf1 (lfC lf1 lfN))) (lfC lf1 (lfC lf1 (lfC lf1 (lfC lf1 lfN)))))) rfl rfl rfl z33 tm tm) (s2 rfl rfl) <| .nil) (by kernel_rfl) ?_
  refine pSeq ?_
  refine wSeq ?_
  obtain ⟨y3, hy3, h⟩ := bd h
  refine rg (cp (oMv tm) (s1 rfl) <| cr (oLdP (n := 1) (k := 0) (m := 4) (d := (kR f_reticentref09_P)) (u := y2) (lfS (lfC lf1 (lfC (lfS (lfC lf1 (lfC lf1 lfN))) (lfC lf1 lfN)))) rfl rfl rfl t184 tm) (s1 rfl) <| cp (oCall rfl (reticentref09_must.ok hy3) b124 (opds_cons tm (opds_cons tm (opds_cons (cI (by decide)) (opds_cons (cS (by decide)) opds_nil))))) (s2 rfl rfl) <| cwn (oStP (n := 1) (k := 0) (m := 4) (d := (kR f_reticentref09_P)) (u := y3) (lfS (lfC lf1 (lfC (lfS (lfC lf1 (lfC lf1 lfN))) (lfC lf1 lfN)))) rfl rfl rfl z184 tm tm) (s2 rfl rfl) <| .nil) (by kernel_rfl) ?_
  refine pSeq ?_
  refine wSeq ?_
  obtain ⟨y4, hy4, h⟩ := bd h
  refine rg (cp (oMv tm) (s1 rfl) <| cr (oLdP (n := 1) (k := 0) (m := 4) (d := (kR f_reticentref09_P)) (u := y3) (lfS (lfC lf1 (lfC (lfS (lfC lf1 (lfC lf1 lfN))) (lfC lf1 lfN)))) rfl rfl rfl t184 tm) (s1 rfl) <| cp (oCall rfl (reticentref09_must.ok hy4) b124 (opds_cons tm (opds_cons tm (opds_cons (cI (by decide)) (opds_cons (cS (by decide)) opds_nil))))) (s2 rfl rfl) <| cwn (oStP (n := 1) (k := 0) (m := 4) (d := (kR f_reticentref09_P)) (u := y4) (lfS (lfC lf1 (lfC (lfS (lfC lf1 (lfC lf1 lfN))) (lfC lf1 lfN)))) rfl rfl rfl z184 tm tm) (s2 rfl rfl) <| .nil) (by kernel_rfl) ?_
  refine pSeq ?_
  refine wSeq ?_
  refine wSeq ?_
  refine rg (cp (oFldP o184_2 tm) (s1 rfl) <| cr (oLdB (n := 1) (k := 3) rfl rfl rfl t34 tm) (s1 rfl) <| cp (oEq rfl tm (cI (by decide))) (s1 rfl) <| .nil) (by kernel_rfl) ?_
  refine pSeq ?_
  rcases ic h with ⟨hp5, h⟩ | ⟨hp5, h⟩
  · refine wCT hp5 tm (s1 rfl) ?_
    refine wSeq ?_
    obtain ⟨y6, hy6, h⟩ := bd h
    refine rg (cp (oLd t25 tm) (s1 rfl) <| cp (oMv tm) (s1 rfl) <| cp (oFldP o184_0 tm) (s1 rfl) <| cr (oLdB (n := 1) (k := 0) rfl rfl rfl t3 tm) (s1 rfl) <| cp (oCall rfl (reticentref08_From.ok hy6) b126 (opds_cons tm (opds_cons tm (opds_cons tm opds_nil)))) (s3 rfl rfl rfl) <| cw (oAlloc (id := 9) (ls := [.d (kL (kR f_api_Instr)) [], .d (kI .i64) 0, .d (kI .i64) 0]) ze188 (fun g => ⟨[(.slice none 0 0)], _, rfl, zL g.H, ⟨[(.int .i64 0)], _, rfl, zI_i64 g.H, ⟨[(.int .i64 0)], _, rfl, zI_i64 g.H, rfl⟩⟩⟩)) trivial <| cwn (oStA (n := 0) (fs := f_reticentref08_C) rfl rfl z188 tm tm) (s2 rfl rfl) <| .nil) (by kernel_rfl) ?_
    refine pSeq ?_
    refine wSeq ?_
    refine rg (cp (oFldP o188_0 tm) (s1 rfl) <| cr (oLdB (n := 0) (k := 0) rfl rfl rfl t29 tm) (s1 rfl) <| cp (oFldP o33_1 tm) (s1 rfl) <| cwn (oSt (n := 1) (k := 2) rfl rfl rfl rfl z29 tm tm) (s2 rfl rfl) <| .nil) (by kernel_rfl) ?_
    refine pSeq ?_
    refine wSeq ?_
    refine rg (cp (oFldP o188_1 tm) (s1 rfl) <| cr (oLdB (n := 0) (k := 1) rfl rfl rfl t3 tm) (s1 rfl) <| cp (oFldP o184_0 tm) (s1 rfl) <| cwn (oSt (n := 2) (k := 0) rfl rfl rfl rfl z3 tm tm) (s2 rfl rfl) <| .nil) (by kernel_rfl) ?_
    refine pSeq ?_
    refine rg (cp (oFldP o188_2 tm) (s1 rfl) <| cr (oLdB (n := 0) (k := 2) rfl rfl rfl t34 tm) (s1 rfl) <| cp (oFldP o184_2 tm) (s1 rfl) <| cwn (oSt (n := 2) (k := 3) rfl rfl rfl rfl z34 tm tm) (s2 rfl rfl) <| .nil) (by kernel_rfl) ?_
    refine pSeq ?_
    refine wSeq ?_
    obtain ⟨y7, hy7, h⟩ := bd h
    refine rg (cp (oLd t25 tm) (s1 rfl) <| cp (oMv tm) (s1 rfl) <| cr (oLdP (n := 2) (k := 0) (m := 4) (d := (kR f_reticentref09_P)) (u := (⟨y6.I, y4.A, y6.E⟩ : reticentref09_P)) (lfS (lfC lf1 (lfC (lfS (lfC lf1 (lfC lf1 lfN))) (lfC lf1 lfN)))) rfl rfl rfl t184 tm) (s1 rfl) <| cp (oCall rfl (reticentref09_row.ok hy7) b127 (opds_cons tm (opds_cons tm (opds_cons tm (opds_cons (cS (by decide)) (opds_cons (cI (by decide)) (opds_cons cB opds_nil))))))) (s3 rfl rfl rfl) <| cw (oAlloc (id := 10) (ls := [.d (kI .i64) 0, .d (kI .i64) 0, .d (kI .i64) 0, .d (kI .i64) 0, .d (kL (kR f_api_Slot)) []]) ze191 (fun g => ⟨[(.int .i64 0)], _, rfl, zI_i64 g.H, ⟨[(.int .i64 0)], _, rfl, zI_i64 g.H, ⟨[(.int .i64 0)], _, rfl, zI_i64 g.H, ⟨[(.int .i64 0)], _, rfl, zI_i64 g.H, ⟨[(.slice none 0 0)], _, rfl, zL g.H, rfl⟩⟩⟩⟩⟩)) trivial <| cwn (oStP (n := 0) (k := 0) (m := 5) (d := (kR f_reticentref09_S)) (u := y7) (lfS (lfC (lfS (lfC lf1 (lfC (lfS (lfC lf1 (lfC lf1 lfN))) (lfC lf1 lfN)))) (lfC lf1 lfN))) rfl rfl rfl z191 tm tm) (s2 rfl rfl) <| .nil) (by kernel_rfl) ?_
    refine pSeq ?_
    refine wSeq ?_
    obtain ⟨y8, hy8, h⟩ := bd h
    refine rg (cp (oLd t25 tm) (s1 rfl) <| cp (oMv tm) (s1 rfl) <| cp (oFldP o191_0 tm) (s1 rfl) <| cr (oLdP (n := 0) (k := 0) (m := 4) (d := (kR f_reticentref09_P)) (u := y7.P) (lfS (lfC lf1 (lfC (lfS (lfC lf1 (lfC lf1 lfN))) (lfC lf1 lfN)))) rfl rfl rfl t184 tm) (s1 rfl) <| cp (oCall rfl (reticentref09_row.ok hy8) b127 (opds_cons tm (opds_cons tm (opds_cons tm (opds_cons (cS (by decide)) (opds_cons (cI (by decide)) (opds_cons cB opds_nil))))))) (s3 rfl rfl rfl) <| cw (oAlloc (id := 11) (ls := [.d (kI .i64) 0, .d (kI .i64) 0, .d (kI .i64) 0, .d (kI .i64) 0, .d (kL (kR f_api_Slot)) []]) ze191 (fun g => ⟨[(.int .i64 0)], _, rfl, zI_i64 g.H, ⟨[(.int .i64 0)], _, rfl, zI_i64 g.H, ⟨[(.int .i64 0)], _, rfl, zI_i64 g.H, ⟨[(.int .i64 0)], _, rfl, zI_i64 g.H, ⟨[(.slice none 0 0)], _, rfl, zL g.H, rfl⟩⟩⟩⟩⟩)) trivial <| cwn (oStP (n := 0) (k := 0) (m := 5) (d := (kR f_reticentref09_S)) (u := y8) (lfS (lfC (lfS (lfC lf1 (lfC (lfS (lfC lf1 (lfC lf1 lfN))) (lfC lf1 lfN)))) (lfC lf1 lfN))) rfl rfl rfl z191 tm tm) (s2 rfl rfl) <| .nil) (by kernel_rfl) ?_
    refine pSeq ?_
    refine wSeq ?_
    obtain ⟨y9, hy9, h⟩ := bd h
    refine rg (cp (oLd t25 tm) (s1 rfl) <| cp (oMv tm) (s1 rfl) <| cp (oFldP o191_0 tm) (s1 rfl) <| cr (oLdP (n := 0) (k := 0) (m := 4) (d := (kR f_reticentref09_P)) (u := y8.P) (lfS (lfC lf1 (lfC (lfS (lfC lf1 (lfC lf1 lfN))) (lfC lf1 lfN)))) rfl rfl rfl t184 tm) (s1 rfl) <| cp (oCall rfl (reticentref09_row.ok hy9) b127 (opds_cons tm (opds_cons tm (opds_cons tm (opds_cons (cS (by decide)) (opds_cons (cI (by decide)) (opds_cons cB opds_nil))))))) (s3 rfl rfl rfl) <| cw (oAlloc (id := 12) (ls := [.d (kI .i64) 0, .d (kI .i64) 0, .d (kI .i64) 0, .d (kI .i64) 0, .d (kL (kR f_api_Slot)) []]) ze191 (fun g => ⟨[(.int .i64 0)], _, rfl, zI_i64 g.H, ⟨[(.int .i64 0)], _, rfl, zI_i64 g.H, ⟨[(.int .i64 0)], _, rfl, zI_i64 g.H, ⟨[(.int .i64 0)], _, rfl, zI_i64 g.H, ⟨[(.slice none 0 0)], _, rfl, zL g.H, rfl⟩⟩⟩⟩⟩)) trivial <| cwn (oStP (n := 0) (k := 0) (m := 5) (d := (kR f_reticentref09_S)) (u := y9) (lfS (lfC (lfS (lfC lf1 (lfC (lfS (lfC lf1 (lfC lf1 lfN))) (lfC lf1 lfN)))) (lfC lf1 lfN))) rfl rfl rfl z191 tm tm) (s2 rfl rfl) <| .nil) (by kernel_rfl) ?_
    refine pSeq ?_
    refine wSeq ?_
    refine wSeq ?_
    refine rg (cp (oFldP o191_0 tm) (s1 rfl) <| cp (oFldP o184_2 tm) (s1 rfl) <| cr (oLdB (n := 0) (k := 3) rfl rfl rfl t34 tm) (s1 rfl) <| cp (oNe rfl tm (cI (by decide))) (s1 rfl) <| .nil) (by kernel_rfl) ?_
    refine pSeq ?_
    rcases ic h with ⟨hp10, h⟩ | ⟨hp10, h⟩
    · refine wNT hp10 tm (s1 rfl) ?_
      refine wSkip ?_
      refine pSeq ?_
      refine wSeq ?_
      obtain ⟨y11, hy11, h⟩ := bd h
      refine rg (cp (oFldP o191_1 tm) (s1 rfl) <| cr (oLdB (n := 2) (k := 4) rfl rfl rfl t31 tm) (s1 rfl) <| cp (oCall rfl (reticentref09_atoms.ok hy11) b128 (opds_cons tm opds_nil)) (s1 rfl) <| cp (oFldP o33_2 tm) (s1 rfl) <| cwn (oSt (n := 4) (k := 3) rfl rfl rfl rfl z30 tm tm) (s2 rfl rfl) <| .nil) (by kernel_rfl) ?_
      refine pSeq ?_
      refine wSeq ?_
      refine rg (cp (oFldP o191_1 tm) (s1 rfl) <| cr (oLdB (n := 1) (k := 4) rfl rfl rfl t31 tm) (s1 rfl) <| cp (oFldP o33_3 tm) (s1 rfl) <| cwn (oSt (n := 4) (k := 4) rfl rfl rfl rfl z31 tm tm) (s2 rfl rfl) <| .nil) (by kernel_rfl) ?_
      refine pSeq ?_
      refine wSeq ?_
      obtain ⟨y12, hy12, h⟩ := bd h
      refine rg (cp (oFldP o191_1 tm) (s1 rfl) <| cr (oLdB (n := 0) (k := 4) rfl rfl rfl t31 tm) (s1 rfl) <| cp (oCall rfl (reticentref09_atoms.ok hy12) b128 (opds_cons tm opds_nil)) (s1 rfl) <| cp (oFldP o33_4 tm) (s1 rfl) <| cwn (oSt (n := 4) (k := 5) rfl rfl rfl rfl z30 tm tm) (s2 rfl rfl) <| .nil) (by kernel_rfl) ?_
      refine pSeq ?_
      refine wSeq ?_
      refine wSeq ?_
      obtain ⟨y13, hy13, h⟩ := bd h
      refine rg (cp (oLd t25 tm) (s1 rfl) <| cr (oLdP (n := 4) (k := 0) (m := 6) (d := (kR f_api_State)) (u := (⟨y2.A, y6.L, y11, y8.L, y12⟩ : api_State)) (lfS (lfC (lfS (lfC lf1 (lfC lf1 lfN))) (lfC lf1 (lfC lf1 (lfC lf1 (lfC lf1 lfN)))))) rfl rfl rfl t33 tm) (s1 rfl) <| cp (oCall rfl (reticentref09_Right.ok hy13) b19 (opds_cons tm (opds_cons tm opds_nil))) (s2 rfl rfl) <| cp (oNot tm) (s1 rfl) <| .nil) (by kernel_rfl) ?_
      refine pSeq ?_
      rcases ic h with ⟨hp14, h⟩ | ⟨hp14, h⟩
      · refine wBT hp14 tm (s1 rfl) ?_
        refine wSeq ?_
        refine rg (cp (oMv tm) (s1 rfl) <| cp (oBuild (fs := f_reticentref09_R) (u := ⟨(⟨(⟨0, 0⟩ : api_Atom), [], [], [], []⟩ : api_State), a2, 1⟩) rfl ze38 pl38 po38 (.ze (zc := [(.int .i64 0), (.int .i64 0), (.slice none 0 0), (.slice none 0 0), (.slice none 0 0), (.slice none 0 0)]) zR_api_State (.op (zc := [(.int .i64 0)]) tm rfl (.op (zc := [(.int .i64 0)]) (cI (by decide)) rfl .nil)))) (s1 rfl) <| cwn (oStP (n := 6) (k := 0) (m := 8) (d := (kR f_reticentref09_R)) (u := (⟨(⟨(⟨0, 0⟩ : api_Atom), [], [], [], []⟩ : api_State), a2, 1⟩ : reticentref09_R)) (lfS (lfC (lfS (lfC (lfS (lfC lf1 (lfC lf1 lfN))) (lfC lf1 (lfC lf1 (lfC lf1 (lfC lf1 lfN)))))) (lfC lf1 (lfC lf1 lfN)))) rfl rfl rfl z38 tm tm) (s2 rfl rfl) <| .nil) (by kernel_rfl) ?_
        refine pSeq ?_
        refine wRet ?_
        refine pThenR ?_
        obtain rfl := so h
        exact pR1 (.inl rfl) rfl (.boxP (n := 6) (d := (kR f_reticentref09_R)) (u := (⟨⟨⟨0, 0⟩, [], [], [], []⟩, a2, 1⟩ : reticentref09_R)) rfl rfl (lfS (lfC (lfS (lfC (lfS (lfC lf1 (lfC lf1 lfN))) (lfC lf1 (lfC lf1 (lfC lf1 (lfC lf1 lfN)))))) (lfC lf1 (lfC lf1 lfN)))) rfl t38 <| .nil)
      · refine wBF hp14 tm (s1 rfl) ?_
        refine wSkip ?_
        refine pSeq ?_
        refine wSeq ?_
        refine rg (cr (oLdP (n := 4) (k := 0) (m := 6) (d := (kR f_api_State)) (u := (⟨y2.A, y6.L, y11, y8.L, y12⟩ : api_State)) (lfS (lfC (lfS (lfC lf1 (lfC lf1 lfN))) (lfC lf1 (lfC lf1 (lfC lf1 (lfC lf1 lfN)))))) rfl rfl rfl t33 tm) (s1 rfl) <| cp (oFldP o191_0 tm) (s1 rfl) <| cp (oFldP o184_0 tm) (s1 rfl) <| cr (oLdB (n := 0) (k := 0) rfl rfl rfl t3 tm) (s1 rfl) <| cp (oBuild (fs := f_reticentref09_R) (u := ⟨(⟨y2.A, y6.L, y11, y8.L, y12⟩ : api_State), y9.P.I, 0⟩) rfl ze38 pl38 po38 (.op (zc := [(.int .i64 0), (.int .i64 0), (.slice none 0 0), (.slice none 0 0), (.slice none 0 0), (.slice none 0 0)]) tm rfl (.op (zc := [(.int .i64 0)]) tm rfl (.ze (zc := [(.int .i64 0)]) zI_i64 .nil)))) (s2 rfl rfl) <| cwn (oStP (n := 6) (k := 0) (m := 8) (d := (kR f_reticentref09_R)) (u := (⟨(⟨y2.A, y6.L, y11, y8.L, y12⟩ : api_State), y9.P.I, 0⟩ : reticentref09_R)) (lfS (lfC (lfS (lfC (lfS (lfC lf1 (lfC lf1 lfN))) (lfC lf1 (lfC lf1 (lfC lf1 (lfC lf1 lfN)))))) (lfC lf1 (lfC lf1 lfN)))) rfl rfl rfl z38 tm tm) (s2 rfl rfl) <| .nil) (by kernel_rfl) ?_
        refine pSeq ?_
        refine wRet ?_
        obtain rfl := so h
        exact pR1 (.inl rfl) rfl (.boxP (n := 6) (d := (kR f_reticentref09_R)) (u := (⟨⟨y2.A, y6.L, y11, y8.L, y12⟩, y9.P.I, 0⟩ : reticentref09_R)) rfl rfl (lfS (lfC (lfS (lfC (lfS (lfC lf1 (lfC lf1 lfN))) (lfC lf1 (lfC lf1 (lfC lf1 (lfC lf1 lfN)))))) (lfC lf1 (lfC lf1 lfN)))) rfl t38 <| .nil)
    · refine wNF hp10 tm (s1 rfl) ?_
      refine wSeq ?_
      refine rg (cp (oFldP o191_0 tm) (s1 rfl) <| cp (oFldP o184_0 tm) (s1 rfl) <| cr (oLdB (n := 0) (k := 0) rfl rfl rfl t3 tm) (s1 rfl) <| cp (oFldP o191_0 tm) (s1 rfl) <| cp (oFldP o184_2 tm) (s1 rfl) <| cr (oLdB (n := 0) (k := 3) rfl rfl rfl t34 tm) (s1 rfl) <| cp (oBuild (fs := f_reticentref09_R) (u := ⟨(⟨(⟨0, 0⟩ : api_Atom), [], [], [], []⟩ : api_State), y9.P.I, y9.P.E⟩) rfl ze38 pl38 po38 (.ze (zc := [(.int .i64 0), (.int .i64 0), (.slice none 0 0), (.slice none 0 0), (.slice none 0 0), (.slice none 0 0)]) zR_api_State (.op (zc := [(.int .i64 0)]) tm rfl (.op (zc := [(.int .i64 0)]) tm rfl .nil)))) (s2 rfl rfl) <| cwn (oStP (n := 6) (k := 0) (m := 8) (d := (kR f_reticentref09_R)) (u := (⟨(⟨(⟨0, 0⟩ : api_Atom), [], [], [], []⟩ : api_State), y9.P.I, y9.P.E⟩ : reticentref09_R)) (lfS (lfC (lfS (lfC (lfS (lfC lf1 (lfC lf1 lfN))) (lfC lf1 (lfC lf1 (lfC lf1 (lfC lf1 lfN)))))) (lfC lf1 (lfC lf1 lfN)))) rfl rfl rfl z38 tm tm) (s2 rfl rfl) <| .nil) (by kernel_rfl) ?_
      refine pSeq ?_
      refine wRet ?_
      refine pThenR ?_
      obtain rfl := so h
      exact pR1 (.inl rfl) rfl (.boxP (n := 6) (d := (kR f_reticentref09_R)) (u := (⟨⟨⟨0, 0⟩, [], [], [], []⟩, y9.P.I, y9.P.E⟩ : reticentref09_R)) rfl rfl (lfS (lfC (lfS (lfC (lfS (lfC lf1 (lfC lf1 lfN))) (lfC lf1 (lfC lf1 (lfC lf1 (lfC lf1 lfN)))))) (lfC lf1 (lfC lf1 lfN)))) rfl t38 <| .nil)
  · refine wCF hp5 tm (s1 rfl) ?_
    refine wSkip ?_
    refine pSeq ?_
    refine wSeq ?_
    obtain ⟨y15, hy15, h⟩ := bd h
    refine rg (cp (oLd t25 tm) (s1 rfl) <| cp (oMv tm) (s1 rfl) <| cr (oLdP (n := 1) (k := 0) (m := 4) (d := (kR f_reticentref09_P)) (u := y4) (lfS (lfC lf1 (lfC (lfS (lfC lf1 (lfC lf1 lfN))) (lfC lf1 lfN)))) rfl rfl rfl t184 tm) (s1 rfl) <| cp (oCall rfl (reticentref09_row.ok hy15) b127 (opds_cons tm (opds_cons tm (opds_cons tm (opds_cons (cS (by decide)) (opds_cons (cI (by decide)) (opds_cons cB opds_nil))))))) (s3 rfl rfl rfl) <| cw (oAlloc (id := 10) (ls := [.d (kI .i64) 0, .d (kI .i64) 0, .d (kI .i64) 0, .d (kI .i64) 0, .d (kL (kR f_api_Slot)) []]) ze191 (fun g => ⟨[(.int .i64 0)], _, rfl, zI_i64 g.H, ⟨[(.int .i64 0)], _, rfl, zI_i64 g.H, ⟨[(.int .i64 0)], _, rfl, zI_i64 g.H, ⟨[(.int .i64 0)], _, rfl, zI_i64 g.H, ⟨[(.slice none 0 0)], _, rfl, zL g.H, rfl⟩⟩⟩⟩⟩)) trivial <| cwn (oStP (n := 0) (k := 0) (m := 5) (d := (kR f_reticentref09_S)) (u := y15) (lfS (lfC (lfS (lfC lf1 (lfC (lfS (lfC lf1 (lfC lf1 lfN))) (lfC lf1 lfN)))) (lfC lf1 lfN))) rfl rfl rfl z191 tm tm) (s2 rfl rfl) <| .nil) (by kernel_rfl) ?_
    refine pSeq ?_
    refine wSeq ?_
    obtain ⟨y16, hy16, h⟩ := bd h
    refine rg (cp (oLd t25 tm) (s1 rfl) <| cp (oMv tm) (s1 rfl) <| cp (oFldP o191_0 tm) (s1 rfl) <| cr (oLdP (n := 0) (k := 0) (m := 4) (d := (kR f_reticentref09_P)) (u := y15.P) (lfS (lfC lf1 (lfC (lfS (lfC lf1 (lfC lf1 lfN))) (lfC lf1 lfN)))) rfl rfl rfl t184 tm) (s1 rfl) <| cp (oCall rfl (reticentref09_row.ok hy16) b127 (opds_cons tm (opds_cons tm (opds_cons tm (opds_cons (cS (by decide)) (opds_cons (cI (by decide)) (opds_cons cB opds_nil))))))) (s3 rfl rfl rfl) <| cw (oAlloc (id := 11) (ls := [.d (kI .i64) 0, .d (kI .i64) 0, .d (kI .i64) 0, .d (kI .i64) 0, .d (kL (kR f_api_Slot)) []]) ze191 (fun g => ⟨[(.int .i64 0)], _, rfl, zI_i64 g.H, ⟨[(.int .i64 0)], _, rfl, zI_i64 g.H, ⟨[(.int .i64 0)], _, rfl, zI_i64 g.H, ⟨[(.int .i64 0)], _, rfl, zI_i64 g.H, ⟨[(.slice none 0 0)], _, rfl, zL g.H, rfl⟩⟩⟩⟩⟩)) trivial <| cwn (oStP (n := 0) (k := 0) (m := 5) (d := (kR f_reticentref09_S)) (u := y16) (lfS (lfC (lfS (lfC lf1 (lfC (lfS (lfC lf1 (lfC lf1 lfN))) (lfC lf1 lfN)))) (lfC lf1 lfN))) rfl rfl rfl z191 tm tm) (s2 rfl rfl) <| .nil) (by kernel_rfl) ?_
    refine pSeq ?_
    refine wSeq ?_
    obtain ⟨y17, hy17, h⟩ := bd h
    refine rg (cp (oLd t25 tm) (s1 rfl) <| cp (oMv tm) (s1 rfl) <| cp (oFldP o191_0 tm) (s1 rfl) <| cr (oLdP (n := 0) (k := 0) (m := 4) (d := (kR f_reticentref09_P)) (u := y16.P) (lfS (lfC lf1 (lfC (lfS (lfC lf1 (lfC lf1 lfN))) (lfC lf1 lfN)))) rfl rfl rfl t184 tm) (s1 rfl) <| cp (oCall rfl (reticentref09_row.ok hy17) b127 (opds_cons tm (opds_cons tm (opds_cons tm (opds_cons (cS (by decide)) (opds_cons (cI (by decide)) (opds_cons cB opds_nil))))))) (s3 rfl rfl rfl) <| cw (oAlloc (id := 12) (ls := [.d (kI .i64) 0, .d (kI .i64) 0, .d (kI .i64) 0, .d (kI .i64) 0, .d (kL (kR f_api_Slot)) []]) ze191 (fun g => ⟨[(.int .i64 0)], _, rfl, zI_i64 g.H, ⟨[(.int .i64 0)], _, rfl, zI_i64 g.H, ⟨[(.int .i64 0)], _, rfl, zI_i64 g.H, ⟨[(.int .i64 0)], _, rfl, zI_i64 g.H, ⟨[(.slice none 0 0)], _, rfl, zL g.H, rfl⟩⟩⟩⟩⟩)) trivial <| cwn (oStP (n := 0) (k := 0) (m := 5) (d := (kR f_reticentref09_S)) (u := y17) (lfS (lfC (lfS (lfC lf1 (lfC (lfS (lfC lf1 (lfC lf1 lfN))) (lfC lf1 lfN)))) (lfC lf1 lfN))) rfl rfl rfl z191 tm tm) (s2 rfl rfl) <| .nil) (by kernel_rfl) ?_
    refine pSeq ?_
    refine wSeq ?_
    refine wSeq ?_
    refine rg (cp (oFldP o191_0 tm) (s1 rfl) <| cp (oFldP o184_2 tm) (s1 rfl) <| cr (oLdB (n := 0) (k := 3) rfl rfl rfl t34 tm) (s1 rfl) <| cp (oNe rfl tm (cI (by decide))) (s1 rfl) <| .nil) (by kernel_rfl) ?_
    refine pSeq ?_
    rcases ic h with ⟨hp18, h⟩ | ⟨hp18, h⟩
    · refine wNT hp18 tm (s1 rfl) ?_
      refine wSkip ?_
      refine pSeq ?_
      refine wSeq ?_
      obtain ⟨y19, hy19, h⟩ := bd h
      refine rg (cp (oFldP o191_1 tm) (s1 rfl) <| cr (oLdB (n := 2) (k := 4) rfl rfl rfl t31 tm) (s1 rfl) <| cp (oCall rfl (reticentref09_atoms.ok hy19) b128 (opds_cons tm opds_nil)) (s1 rfl) <| cp (oFldP o33_2 tm) (s1 rfl) <| cwn (oSt (n := 3) (k := 3) rfl rfl rfl rfl z30 tm tm) (s2 rfl rfl) <| .nil) (by kernel_rfl) ?_
      refine pSeq ?_
      refine wSeq ?_
      refine rg (cp (oFldP o191_1 tm) (s1 rfl) <| cr (oLdB (n := 1) (k := 4) rfl rfl rfl t31 tm) (s1 rfl) <| cp (oFldP o33_3 tm) (s1 rfl) <| cwn (oSt (n := 3) (k := 4) rfl rfl rfl rfl z31 tm tm) (s2 rfl rfl) <| .nil) (by kernel_rfl) ?_
      refine pSeq ?_
      refine wSeq ?_
      obtain ⟨y20, hy20, h⟩ := bd h
      refine rg (cp (oFldP o191_1 tm) (s1 rfl) <| cr (oLdB (n := 0) (k := 4) rfl rfl rfl t31 tm) (s1 rfl) <| cp (oCall rfl (reticentref09_atoms.ok hy20) b128 (opds_cons tm opds_nil)) (s1 rfl) <| cp (oFldP o33_4 tm) (s1 rfl) <| cwn (oSt (n := 3) (k := 5) rfl rfl rfl rfl z30 tm tm) (s2 rfl rfl) <| .nil) (by kernel_rfl) ?_
      refine pSeq ?_
      refine wSeq ?_
      refine wSeq ?_
      obtain ⟨y21, hy21, h⟩ := bd h
      refine rg (cp (oLd t25 tm) (s1 rfl) <| cr (oLdP (n := 3) (k := 0) (m := 6) (d := (kR f_api_State)) (u := (⟨y2.A, [], y19, y16.L, y20⟩ : api_State)) (lfS (lfC (lfS (lfC lf1 (lfC lf1 lfN))) (lfC lf1 (lfC lf1 (lfC lf1 (lfC lf1 lfN)))))) rfl rfl rfl t33 tm) (s1 rfl) <| cp (oCall rfl (reticentref09_Right.ok hy21) b19 (opds_cons tm (opds_cons tm opds_nil))) (s2 rfl rfl) <| cp (oNot tm) (s1 rfl) <| .nil) (by kernel_rfl) ?_
      refine pSeq ?_
      rcases ic h with ⟨hp22, h⟩ | ⟨hp22, h⟩
      · refine wBT hp22 tm (s1 rfl) ?_
        refine wSeq ?_
        refine rg (cp (oMv tm) (s1 rfl) <| cp (oBuild (fs := f_reticentref09_R) (u := ⟨(⟨(⟨0, 0⟩ : api_Atom), [], [], [], []⟩ : api_State), a2, 1⟩) rfl ze38 pl38 po38 (.ze (zc := [(.int .i64 0), (.int .i64 0), (.slice none 0 0), (.slice none 0 0), (.slice none 0 0), (.slice none 0 0)]) zR_api_State (.op (zc := [(.int .i64 0)]) tm rfl (.op (zc := [(.int .i64 0)]) (cI (by decide)) rfl .nil)))) (s1 rfl) <| cwn (oStP (n := 5) (k := 0) (m := 8) (d := (kR f_reticentref09_R)) (u := (⟨(⟨(⟨0, 0⟩ : api_Atom), [], [], [], []⟩ : api_State), a2, 1⟩ : reticentref09_R)) (lfS (lfC (lfS (lfC (lfS (lfC lf1 (lfC lf1 lfN))) (lfC lf1 (lfC lf1 (lfC lf1 (lfC lf1 lfN)))))) (lfC lf1 (lfC lf1 lfN)))) rfl rfl rfl z38 tm tm) (s2 rfl rfl) <| .nil) (by kernel_rfl) ?_
        refine pSeq ?_
        refine wRet ?_
        refine pThenR ?_
        obtain rfl := so h
        exact pR1 (.inl rfl) rfl (.boxP (n := 5) (d := (kR f_reticentref09_R)) (u := (⟨⟨⟨0, 0⟩, [], [], [], []⟩, a2, 1⟩ : reticentref09_R)) rfl rfl (lfS (lfC (lfS (lfC (lfS (lfC lf1 (lfC lf1 lfN))) (lfC lf1 (lfC lf1 (lfC lf1 (lfC lf1 lfN)))))) (lfC lf1 (lfC lf1 lfN)))) rfl t38 <| .nil)
      · refine wBF hp22 tm (s1 rfl) ?_
        refine wSkip ?_
        refine pSeq ?_
        refine wSeq ?_
        refine rg (cr (oLdP (n := 3) (k := 0) (m := 6) (d := (kR f_api_State)) (u := (⟨y2.A, [], y19, y16.L, y20⟩ : api_State)) (lfS (lfC (lfS (lfC lf1 (lfC lf1 lfN))) (lfC lf1 (lfC lf1 (lfC lf1 (lfC lf1 lfN)))))) rfl rfl rfl t33 tm) (s1 rfl) <| cp (oFldP o191_0 tm) (s1 rfl) <| cp (oFldP o184_0 tm) (s1 rfl) <| cr (oLdB (n := 0) (k := 0) rfl rfl rfl t3 tm) (s1 rfl) <| cp (oBuild (fs := f_reticentref09_R) (u := ⟨(⟨y2.A, [], y19, y16.L, y20⟩ : api_State), y17.P.I, 0⟩) rfl ze38 pl38 po38 (.op (zc := [(.int .i64 0), (.int .i64 0), (.slice none 0 0), (.slice none 0 0), (.slice none 0 0), (.slice none 0 0)]) tm rfl (.op (zc := [(.int .i64 0)]) tm rfl (.ze (zc := [(.int .i64 0)]) zI_i64 .nil)))) (s2 rfl rfl) <| cwn (oStP (n := 5) (k := 0) (m := 8) (d := (kR f_reticentref09_R)) (u := (⟨(⟨y2.A, [], y19, y16.L, y20⟩ : api_State), y17.P.I, 0⟩ : reticentref09_R)) (lfS (lfC (lfS (lfC (lfS (lfC lf1 (lfC lf1 lfN))) (lfC lf1 (lfC lf1 (lfC lf1 (lfC lf1 lfN)))))) (lfC lf1 (lfC lf1 lfN)))) rfl rfl rfl z38 tm tm) (s2 rfl rfl) <| .nil) (by kernel_rfl) ?_
        refine pSeq ?_
        refine wRet ?_
        obtain rfl := so h
        exact pR1 (.inl rfl) rfl (.boxP (n := 5) (d := (kR f_reticentref09_R)) (u := (⟨⟨y2.A, [], y19, y16.L, y20⟩, y17.P.I, 0⟩ : reticentref09_R)) rfl rfl (lfS (lfC (lfS (lfC (lfS (lfC lf1 (lfC lf1 lfN))) (lfC lf1 (lfC lf1 (lfC lf1 (lfC lf1 lfN)))))) (lfC lf1 (lfC lf1 lfN)))) rfl t38 <| .nil)
    · refine wNF hp18 tm (s1 rfl) ?_
      refine wSeq ?_
      refine rg (cp (oFldP o191_0 tm) (s1 rfl) <| cp (oFldP o184_0 tm) (s1 rfl) <| cr (oLdB (n := 0) (k := 0) rfl rfl rfl t3 tm) (s1 rfl) <| cp (oFldP o191_0 tm) (s1 rfl) <| cp (oFldP o184_2 tm) (s1 rfl) <| cr (oLdB (n := 0) (k := 3) rfl rfl rfl t34 tm) (s1 rfl) <| cp (oBuild (fs := f_reticentref09_R) (u := ⟨(⟨(⟨0, 0⟩ : api_Atom), [], [], [], []⟩ : api_State), y17.P.I, y17.P.E⟩) rfl ze38 pl38 po38 (.ze (zc := [(.int .i64 0), (.int .i64 0), (.slice none 0 0), (.slice none 0 0), (.slice none 0 0), (.slice none 0 0)]) zR_api_State (.op (zc := [(.int .i64 0)]) tm rfl (.op (zc := [(.int .i64 0)]) tm rfl .nil)))) (s2 rfl rfl) <| cwn (oStP (n := 5) (k := 0) (m := 8) (d := (kR f_reticentref09_R)) (u := (⟨(⟨(⟨0, 0⟩ : api_Atom), [], [], [], []⟩ : api_State), y17.P.I, y17.P.E⟩ : reticentref09_R)) (lfS (lfC (lfS (lfC (lfS (lfC lf1 (lfC lf1 lfN))) (lfC lf1 (lfC lf1 (lfC lf1 (lfC lf1 lfN)))))) (lfC lf1 (lfC lf1 lfN)))) rfl rfl rfl z38 tm tm) (s2 rfl rfl) <| .nil) (by kernel_rfl) ?_
      refine pSeq ?_
      refine wRet ?_
      refine pThenR ?_
      obtain rfl := so h
      exact pR1 (.inl rfl) rfl (.boxP (n := 5) (d := (kR f_reticentref09_R)) (u := (⟨⟨⟨0, 0⟩, [], [], [], []⟩, y17.P.I, y17.P.E⟩ : reticentref09_R)) rfl rfl (lfS (lfC (lfS (lfC (lfS (lfC lf1 (lfC lf1 lfN))) (lfC lf1 (lfC lf1 (lfC lf1 (lfC lf1 lfN)))))) (lfC lf1 (lfC lf1 lfN)))) rfl t38 <| .nil)
theorem reticentref09_Parse.ok {a0 : api_Lattice} {a1 : Str} {r : reticentref09_R} (h : reticentref09_Parse.f a0 a1 = some r) : FnA Tryz.prog 13 [(kR f_api_Lattice).sig a0, kS.sig a1] ((kR f_reticentref09_R).sig r) := by
  refine fnIntro Tryz.func13 rfl (by kernel_rfl) fun H0 w0 => ?_
  unfold reticentref09_Parse.f at h
  refine wSeq ?_
  refine rg (cp (oBox tm) (s1 rfl) <| cw (oAlloc (id := 4) (ls := [.d (kI .i64) 0, .d (kI .i64) 0, .d (kL (kR f_api_Instr)) [], .d (kL (kR f_api_Atom)) [], .d (kL (kR f_api_Slot)) [], .d (kL (kR f_api_Atom)) [], .d (kI .i64) 0, .d (kI .i64) 0]) ze38 (fun g => ⟨[(.int .i64 0)], _, rfl, zI_i64 g.H, ⟨[(.int .i64 0)], _, rfl, zI_i64 g.H, ⟨[(.slice none 0 0)], _, rfl, zL g.H, ⟨[(.slice none 0 0)], _, rfl, zL g.H, ⟨[(.slice none 0 0)], _, rfl, zL g.H, ⟨[(.slice none 0 0)], _, rfl, zL g.H, ⟨[(.int .i64 0)], _, rfl, zI_i64 g.H, ⟨[(.int .i64 0)], _, rfl, zI_i64 g.H, rfl⟩⟩⟩⟩⟩⟩⟩⟩)) trivial <| .nil) (by kernel_rfl) ?_
  refine pSeq ?_
  refine wSeq ?_
  obtain ⟨y1, hy1, h⟩ := bd h
  refine rg (cp (oLd t25 tm) (s1 rfl) <| cp (oCall rfl (reticentref01_Check.ok hy1) b18 (opds_cons tm opds_nil)) (s1 rfl) <| cp (oAs tm) (s1 rfl) <| .nil) (by kernel_rfl) ?_
  refine pSeq ?_
  refine wSeq ?_
  refine wSeq ?_
  refine rg (cp (oMv tm) (s1 rfl) <| cp (oNe rfl tm (cI (by decide))) (s1 rfl) <| .nil) (by kernel_rfl) ?_
  refine pSeq ?_
  rcases ic h with ⟨hp2, h⟩ | ⟨hp2, h⟩
  · refine wNT hp2 tm (s1 rfl) ?_
    refine wSkip ?_
    refine pSeq ?_
    refine wSeq ?_
    obtain ⟨y3, hy3, h⟩ := bd h
    refine rg (cp (oMv tm) (s1 rfl) <| cp (oCall rfl (reticentref03_Lex.ok hy3) b52 (opds_cons tm opds_nil)) (s1 rfl) <| cw (oAlloc (id := 6) (ls := [.d (kL (kR f_api_Tok)) [], .d (kI .i64) 0, .d (kI .i64) 0]) ze96 (fun g => ⟨[(.slice none 0 0)], _, rfl, zL g.H, ⟨[(.int .i64 0)], _, rfl, zI_i64 g.H, ⟨[(.int .i64 0)], _, rfl, zI_i64 g.H, rfl⟩⟩⟩)) trivial <| cwn (oStA (n := 0) (fs := f_reticentref03_R) rfl rfl z96 tm tm) (s2 rfl rfl) <| .nil) (by kernel_rfl) ?_
    refine pSeq ?_
    refine wSeq ?_
    refine wSeq ?_
    refine rg (cp (oFldP o96_2 tm) (s1 rfl) <| cr (oLdB (n := 0) (k := 2) rfl rfl rfl t34 tm) (s1 rfl) <| cp (oNe rfl tm (cI (by decide))) (s1 rfl) <| .nil) (by kernel_rfl) ?_
    refine pSeq ?_
    rcases ic h with ⟨hp4, h⟩ | ⟨hp4, h⟩
    · refine wNT hp4 tm (s1 rfl) ?_
      refine wSkip ?_
      refine pSeq ?_
      refine wSeq ?_
      obtain ⟨y5, hy5, h⟩ := bd h
      refine rg (cp (oLd t25 tm) (s1 rfl) <| cp (oFldP o96_0 tm) (s1 rfl) <| cr (oLdB (n := 0) (k := 0) rfl rfl rfl t89 tm) (s1 rfl) <| cp (oCall rfl (reticentref09_From.ok hy5) b53 (opds_cons tm (opds_cons tm (opds_cons (cI (by decide)) opds_nil)))) (s2 rfl rfl) <| cw (oAlloc (id := 7) (ls := [.d (kI .i64) 0, .d (kI .i64) 0, .d (kL (kR f_api_Instr)) [], .d (kL (kR f_api_Atom)) [], .d (kL (kR f_api_Slot)) [], .d (kL (kR f_api_Atom)) [], .d (kI .i64) 0, .d (kI .i64) 0]) ze38 (fun g => ⟨[(.int .i64 0)], _, rfl, zI_i64 g.H, ⟨[(.int .i64 0)], _, rfl, zI_i64 g.H, ⟨[(.slice none 0 0)], _, rfl, zL g.H, ⟨[(.slice none 0 0)], _, rfl, zL g.H, ⟨[(.slice none 0 0)], _, rfl, zL g.H, ⟨[(.slice none 0 0)], _, rfl, zL g.H, ⟨[(.int .i64 0)], _, rfl, zI_i64 g.H, ⟨[(.int .i64 0)], _, rfl, zI_i64 g.H, rfl⟩⟩⟩⟩⟩⟩⟩⟩)) trivial <| cwn (oStP (n := 0) (k := 0) (m := 8) (d := (kR f_reticentref09_R)) (u := y5) (lfS (lfC (lfS (lfC (lfS (lfC lf1 (lfC lf1 lfN))) (lfC lf1 (lfC lf1 (lfC lf1 (lfC lf1 lfN)))))) (lfC lf1 (lfC lf1 lfN)))) rfl rfl rfl z38 tm tm) (s2 rfl rfl) <| .nil) (by kernel_rfl) ?_
      refine pSeq ?_
      refine wSeq ?_
      obtain ⟨y6, hy6, h⟩ := bd h
      refine rg (cp (oFldP o96_0 tm) (s1 rfl) <| cr (oLdB (n := 1) (k := 0) rfl rfl rfl t89 tm) (s1 rfl) <| cp (oFldP o38_1 tm) (s1 rfl) <| cr (oLdB (n := 0) (k := 6) rfl rfl rfl t3 tm) (s1 rfl) <| cp (oIdx u89 z94 hy6 tm tm) (s2 rfl rfl) <| cp (oFld (fs := f_api_Tok) (k := 2) rfl o94_2 tm) (s1 rfl) <| cp (oLd t3 tm) (s1 rfl) <| cp (oAs tm) (s1 rfl) <| .nil) (by kernel_rfl) ?_
      refine pSeq ?_
      refine wSeq ?_
      refine wSeq ?_
      refine rg (cp (oFldP o38_2 tm) (s1 rfl) <| cr (oLdB (n := 0) (k := 7) rfl rfl rfl t34 tm) (s1 rfl) <| cp (oNe rfl tm (cI (by decide))) (s1 rfl) <| .nil) (by kernel_rfl) ?_
      refine pSeq ?_
      rcases ic h with ⟨hp7, h⟩ | ⟨hp7, h⟩
      · refine wNT hp7 tm (s1 rfl) ?_
        refine wSkip ?_
        refine pSeq ?_
        refine wSeq ?_
        refine wSeq ?_
        obtain ⟨y8, hy8, h⟩ := bd h
        refine rg (cp (oFldP o96_0 tm) (s1 rfl) <| cr (oLdB (n := 1) (k := 0) rfl rfl rfl t89 tm) (s1 rfl) <| cp (oFldP o38_1 tm) (s1 rfl) <| cr (oLdB (n := 0) (k := 6) rfl rfl rfl t3 tm) (s1 rfl) <| cp (oIdx u89 z94 hy8 tm tm) (s2 rfl rfl) <| cp (oFld (fs := f_api_Tok) (k := 0) rfl o94_0 tm) (s1 rfl) <| cp (oLd t3 tm) (s1 rfl) <| cp (oNe rfl tm (cI (by decide))) (s1 rfl) <| .nil) (by kernel_rfl) ?_
        refine pSeq ?_
        rcases ic h with ⟨hp9, h⟩ | ⟨hp9, h⟩
        · refine wNT hp9 tm (s1 rfl) ?_
          refine wSkip ?_
          refine pSeq ?_
          refine wSeq ?_
          refine rg (cp (oFldP o38_0 tm) (s1 rfl) <| cr (oLdP (n := 0) (k := 0) (m := 6) (d := (kR f_api_State)) (u := y5.S) (lfS (lfC (lfS (lfC lf1 (lfC lf1 lfN))) (lfC lf1 (lfC lf1 (lfC lf1 (lfC lf1 lfN)))))) rfl rfl rfl t33 tm) (s1 rfl) <| cp (oBuild (fs := f_reticentref09_R) (u := ⟨y5.S, 0, 0⟩) rfl ze38 pl38 po38 (.op (zc := [(.int .i64 0), (.int .i64 0), (.slice none 0 0), (.slice none 0 0), (.slice none 0 0), (.slice none 0 0)]) tm rfl (.ze (zc := [(.int .i64 0)]) zI_i64 (.ze (zc := [(.int .i64 0)]) zI_i64 .nil)))) (s1 rfl) <| cwn (oStP (n := 2) (k := 0) (m := 8) (d := (kR f_reticentref09_R)) (u := (⟨y5.S, 0, 0⟩ : reticentref09_R)) (lfS (lfC (lfS (lfC (lfS (lfC lf1 (lfC lf1 lfN))) (lfC lf1 (lfC lf1 (lfC lf1 (lfC lf1 lfN)))))) (lfC lf1 (lfC lf1 lfN)))) rfl rfl rfl z38 tm tm) (s2 rfl rfl) <| .nil) (by kernel_rfl) ?_
          refine pSeq ?_
          refine wRet ?_
          obtain rfl := so h
          exact pR1 (.inl rfl) rfl (.boxP (n := 2) (d := (kR f_reticentref09_R)) (u := (⟨y5.S, 0, 0⟩ : reticentref09_R)) rfl rfl (lfS (lfC (lfS (lfC (lfS (lfC lf1 (lfC lf1 lfN))) (lfC lf1 (lfC lf1 (lfC lf1 (lfC lf1 lfN)))))) (lfC lf1 (lfC lf1 lfN)))) rfl t38 <| .nil)
        · refine wNF hp9 tm (s1 rfl) ?_
          refine wSeq ?_
          refine rg (cp (oMv tm) (s1 rfl) <| cp (oBuild (fs := f_reticentref09_R) (u := ⟨(⟨(⟨0, 0⟩ : api_Atom), [], [], [], []⟩ : api_State), y6.At, 4⟩) rfl ze38 pl38 po38 (.ze (zc := [(.int .i64 0), (.int .i64 0), (.slice none 0 0), (.slice none 0 0), (.slice none 0 0), (.slice none 0 0)]) zR_api_State (.op (zc := [(.int .i64 0)]) tm rfl (.op (zc := [(.int .i64 0)]) (cI (by decide)) rfl .nil)))) (s1 rfl) <| cwn (oStP (n := 2) (k := 0) (m := 8) (d := (kR f_reticentref09_R)) (u := (⟨(⟨(⟨0, 0⟩ : api_Atom), [], [], [], []⟩ : api_State), y6.At, 4⟩ : reticentref09_R)) (lfS (lfC (lfS (lfC (lfS (lfC lf1 (lfC lf1 lfN))) (lfC lf1 (lfC lf1 (lfC lf1 (lfC lf1 lfN)))))) (lfC lf1 (lfC lf1 lfN)))) rfl rfl rfl z38 tm tm) (s2 rfl rfl) <| .nil) (by kernel_rfl) ?_
          refine pSeq ?_
          refine wRet ?_
          refine pThenR ?_
          obtain rfl := so h
          exact pR1 (.inl rfl) rfl (.boxP (n := 2) (d := (kR f_reticentref09_R)) (u := (⟨⟨⟨0, 0⟩, [], [], [], []⟩, y6.At, 4⟩ : reticentref09_R)) rfl rfl (lfS (lfC (lfS (lfC (lfS (lfC lf1 (lfC lf1 lfN))) (lfC lf1 (lfC lf1 (lfC lf1 (lfC lf1 lfN)))))) (lfC lf1 (lfC lf1 lfN)))) rfl t38 <| .nil)
      · refine wNF hp7 tm (s1 rfl) ?_
        refine wSeq ?_
        refine rg (cp (oMv tm) (s1 rfl) <| cp (oFldP o38_2 tm) (s1 rfl) <| cr (oLdB (n := 0) (k := 7) rfl rfl rfl t34 tm) (s1 rfl) <| cp (oBuild (fs := f_reticentref09_R) (u := ⟨(⟨(⟨0, 0⟩ : api_Atom), [], [], [], []⟩ : api_State), y6.At, y5.E⟩) rfl ze38 pl38 po38 (.ze (zc := [(.int .i64 0), (.int .i64 0), (.slice none 0 0), (.slice none 0 0), (.slice none 0 0), (.slice none 0 0)]) zR_api_State (.op (zc := [(.int .i64 0)]) tm rfl (.op (zc := [(.int .i64 0)]) tm rfl .nil)))) (s2 rfl rfl) <| cwn (oStP (n := 2) (k := 0) (m := 8) (d := (kR f_reticentref09_R)) (u := (⟨(⟨(⟨0, 0⟩ : api_Atom), [], [], [], []⟩ : api_State), y6.At, y5.E⟩ : reticentref09_R)) (lfS (lfC (lfS (lfC (lfS (lfC lf1 (lfC lf1 lfN))) (lfC lf1 (lfC lf1 (lfC lf1 (lfC lf1 lfN)))))) (lfC lf1 (lfC lf1 lfN)))) rfl rfl rfl z38 tm tm) (s2 rfl rfl) <| .nil) (by kernel_rfl) ?_
        refine pSeq ?_
        refine wRet ?_
        refine pThenR ?_
        obtain rfl := so h
        exact pR1 (.inl rfl) rfl (.boxP (n := 2) (d := (kR f_reticentref09_R)) (u := (⟨⟨⟨0, 0⟩, [], [], [], []⟩, y6.At, y5.E⟩ : reticentref09_R)) rfl rfl (lfS (lfC (lfS (lfC (lfS (lfC lf1 (lfC lf1 lfN))) (lfC lf1 (lfC lf1 (lfC lf1 (lfC lf1 lfN)))))) (lfC lf1 (lfC lf1 lfN)))) rfl t38 <| .nil)
    · refine wNF hp4 tm (s1 rfl) ?_
      refine wSeq ?_
      refine rg (cp (oFldP o96_1 tm) (s1 rfl) <| cr (oLdB (n := 0) (k := 1) rfl rfl rfl t3 tm) (s1 rfl) <| cp (oFldP o96_2 tm) (s1 rfl) <| cr (oLdB (n := 0) (k := 2) rfl rfl rfl t34 tm) (s1 rfl) <| cp (oBuild (fs := f_reticentref09_R) (u := ⟨(⟨(⟨0, 0⟩ : api_Atom), [], [], [], []⟩ : api_State), y3.At, y3.E⟩) rfl ze38 pl38 po38 (.ze (zc := [(.int .i64 0), (.int .i64 0), (.slice none 0 0), (.slice none 0 0), (.slice none 0 0), (.slice none 0 0)]) zR_api_State (.op (zc := [(.int .i64 0)]) tm rfl (.op (zc := [(.int .i64 0)]) tm rfl .nil)))) (s2 rfl rfl) <| cwn (oStP (n := 1) (k := 0) (m := 8) (d := (kR f_reticentref09_R)) (u := (⟨(⟨(⟨0, 0⟩ : api_Atom), [], [], [], []⟩ : api_State), y3.At, y3.E⟩ : reticentref09_R)) (lfS (lfC (lfS (lfC (lfS (lfC lf1 (lfC lf1 lfN))) (lfC lf1 (lfC lf1 (lfC lf1 (lfC lf1 lfN)))))) (lfC lf1 (lfC lf1 lfN)))) rfl rfl rfl z38 tm tm) (s2 rfl rfl) <| .nil) (by kernel_rfl) ?_
      refine pSeq ?_
      refine wRet ?_
      refine pThenR ?_
      obtain rfl := so h
      exact pR1 (.inl rfl) rfl (.boxP (n := 1) (d := (kR f_reticentref09_R)) (u := (⟨⟨⟨0, 0⟩, [], [], [], []⟩, y3.At, y3.E⟩ : reticentref09_R)) rfl rfl (lfS (lfC (lfS (lfC (lfS (lfC lf1 (lfC lf1 lfN))) (lfC lf1 (lfC lf1 (lfC lf1 (lfC lf1 lfN)))))) (lfC lf1 (lfC lf1 lfN)))) rfl t38 <| .nil)
  · refine wNF hp2 tm (s1 rfl) ?_
    refine wSeq ?_
    refine rg (cp (oMv tm) (s1 rfl) <| cp (oBuild (fs := f_reticentref09_R) (u := ⟨(⟨(⟨0, 0⟩ : api_Atom), [], [], [], []⟩ : api_State), 0, y1⟩) rfl ze38 pl38 po38 (.ze (zc := [(.int .i64 0), (.int .i64 0), (.slice none 0 0), (.slice none 0 0), (.slice none 0 0), (.slice none 0 0)]) zR_api_State (.ze (zc := [(.int .i64 0)]) zI_i64 (.op (zc := [(.int .i64 0)]) tm rfl .nil)))) (s1 rfl) <| cwn (oStP (n := 0) (k := 0) (m := 8) (d := (kR f_reticentref09_R)) (u := (⟨(⟨(⟨0, 0⟩ : api_Atom), [], [], [], []⟩ : api_State), 0, y1⟩ : reticentref09_R)) (lfS (lfC (lfS (lfC (lfS (lfC lf1 (lfC lf1 lfN))) (lfC lf1 (lfC lf1 (lfC lf1 (lfC lf1 lfN)))))) (lfC lf1 (lfC lf1 lfN)))) rfl rfl rfl z38 tm tm) (s2 rfl rfl) <| .nil) (by kernel_rfl) ?_
    refine pSeq ?_
    refine wRet ?_
    refine pThenR ?_
    obtain rfl := so h
    exact pR1 (.inl rfl) rfl (.boxP (n := 0) (d := (kR f_reticentref09_R)) (u := (⟨⟨⟨0, 0⟩, [], [], [], []⟩, 0, y1⟩ : reticentref09_R)) rfl rfl (lfS (lfC (lfS (lfC (lfS (lfC lf1 (lfC lf1 lfN))) (lfC lf1 (lfC lf1 (lfC lf1 (lfC lf1 lfN)))))) (lfC lf1 (lfC lf1 lfN)))) rfl t38 <| .nil)
theorem reticentlaw09_alive.ok {r : Bool} (h : reticentlaw09_alive.f = some r) : FnA Tryz.prog 14 [] (kB.sig r) := by
  refine fnIntro Tryz.func14 rfl (by kernel_rfl) fun H0 w0 => ?_
  unfold reticentlaw09_alive.f at h
  refine wSeq ?_
  refine rg (cp (oAs cB) trivial <| .nil) (by kernel_rfl) ?_
  refine pSeq ?_
  refine wSeq ?_
  refine rg (cp (oLit (d := kS) el22 (by decide) rfl rfl rfl (e1 (cS (by decide)) (e1 (cS (by decide)) e0))) trivial <| cp (oLit (d := (kI .u32)) el23 (by decide) rfl rfl rfl (e1 (cI (by decide)) (e1 (cI (by decide)) e0))) trivial <| cp (oBuild (fs := f_api_Lattice) (u := ⟨([([97] : Str), ([98] : Str)] : List Str), ([3, 2] : List Int)⟩) rfl ze25 pl25 po25 (.op (zc := [(.slice none 0 0)]) tm rfl (.op (zc := [(.slice none 0 0)]) tm rfl .nil))) (s2 rfl rfl) <| cw (oAlloc (id := 1) (ls := [.d (kL kS) [], .d (kL (kI .u32)) []]) ze25 (fun g => ⟨[(.slice none 0 0)], _, rfl, zL g.H, ⟨[(.slice none 0 0)], _, rfl, zL g.H, rfl⟩⟩)) trivial <| cwn (oStA (n := 0) (fs := f_api_Lattice) rfl rfl z25 tm tm) (s2 rfl rfl) <| .nil) (by kernel_rfl) ?_
  refine pSeq ?_
  refine wSeq ?_
  obtain ⟨y1, hy1, h⟩ := bd h
  refine rg (cr (oLdA (n := 0) (fs := f_api_Lattice) (u := ⟨([([97] : Str), ([98] : Str)] : List Str), ([3, 2] : List Int)⟩) rfl ⟨rfl, rfl, trivial⟩ t25 tm) (s1 rfl) <| cp (oCall rfl (state_Parse.ok hy1) b12 (opds_cons tm (opds_cons (cS (s := ks0) (by decide)) opds_nil))) (s1 rfl) <| cp (oMv tm) (s1 rfl) <| cp (oExt (k := 0) rfl tm) (s1 rfl) <| cp (oExt (k := 1) rfl tm) (s1 rfl) <| cp (oExt (k := 2) rfl tm) (s1 rfl) <| cw (oAlloc (id := 2) (ls := [.d (kI .i64) 0, .d (kI .i64) 0, .d (kL (kR f_api_Instr)) [], .d (kL (kR f_api_Atom)) [], .d (kL (kR f_api_Slot)) [], .d (kL (kR f_api_Atom)) []]) ze33 (fun g => ⟨[(.int .i64 0)], _, rfl, zI_i64 g.H, ⟨[(.int .i64 0)], _, rfl, zI_i64 g.H, ⟨[(.slice none 0 0)], _, rfl, zL g.H, ⟨[(.slice none 0 0)], _, rfl, zL g.H, ⟨[(.slice none 0 0)], _, rfl, zL g.H, ⟨[(.slice none 0 0)], _, rfl, zL g.H, rfl⟩⟩⟩⟩⟩⟩)) trivial <| cwn (oStP (n := 0) (k := 0) (m := 6) (d := (kR f_api_State)) (u := y1.1) (lfS (lfC (lfS (lfC lf1 (lfC lf1 lfN))) (lfC lf1 (lfC lf1 (lfC lf1 (lfC lf1 lfN)))))) rfl rfl rfl z33 tm tm) (s2 rfl rfl) <| cp (oAs tm) (s1 rfl) <| cp (oAs tm) (s1 rfl) <| .nil) (by kernel_rfl) ?_
  refine pSeq ?_
  obtain ⟨o1, h, hk1⟩ := bd h
  refine wJ1 (fun x7 => x7 = o1) (fun x7 => [(0, .d (kB.sig x7))]) (fun x7 => [.box 2 33 [.d (kI .i64) y1.1.Pc.V, .d (kI .i64) y1.1.Pc.L, .d (kL (kR f_api_Instr)) y1.1.Code, .d (kL (kR f_api_Atom)) y1.1.Mem, .d (kL (kR f_api_Slot)) y1.1.Stack, .d (kL (kR f_api_Atom)) y1.1.Out], .box 1 25 [.d (kL kS) ([([97] : Str), ([98] : Str)] : List Str), .d (kL (kI .u32)) ([3, 2] : List Int)]]) ?_ ?_
  · rcases ic h with ⟨hp8, h⟩ | ⟨hp8, h⟩
    · rcases ic h with ⟨hp9, h⟩ | ⟨hp9, h⟩
      · obtain ⟨y10, hy10, h⟩ := bd h
        rcases ic h with ⟨hp11, h⟩ | ⟨hp11, h⟩
        · obtain ⟨y12, hy12, h⟩ := bd h
          refine rg (cp (oMv tm) (s1 rfl) <| cp (oEq rfl tm (cI (by decide))) (s1 rfl) <| cp (oMv tm) (s1 rfl) <| cgB (decide_eq_true hp8) rfl rfl (oFldP o33_3 tm) (s1 rfl) <| crgB (decide_eq_true hp8) rfl rfl (oLdB (n := 0) (k := 4) rfl rfl rfl t31 tm) (s1 rfl) <| cgB (decide_eq_true hp8) rfl rfl (oLenL u31 tm) (s1 rfl) <| cgB (decide_eq_true hp8) rfl rfl (oEq rfl tm (cI (by decide))) (s1 rfl) <| cp (oPkT (decide_eq_true hp8) tm tm) (s2 rfl rfl) <| cp (oMv tm) (s1 rfl) <| cgB (decide_eq_true hp9) rfl rfl (oFldP o33_3 tm) (s1 rfl) <| crgB (decide_eq_true hp9) rfl rfl (oLdB (n := 0) (k := 4) rfl rfl rfl t31 tm) (s1 rfl) <| cgB (decide_eq_true hp9) rfl rfl (oIdx u31 z101 hy10 tm (cI (by decide))) (s1 rfl) <| cgB (decide_eq_true hp9) rfl rfl (oLd t101 tm) (s1 rfl) <| cgB (decide_eq_true hp9) rfl rfl (oBuild (fs := f_api_Slot) (u := ⟨true, 1, 1⟩) rfl ze101 pl101 po101 (.op (zc := [(.bool false)]) cB rfl (.op (zc := [(.int .i64 0)]) (cI (by decide)) rfl (.op (zc := [(.int .i64 0)]) (cI (by decide)) rfl .nil)))) trivial <| cgB (decide_eq_true hp9) rfl rfl (oREq eqk101 rfl eg101 rfl tm tm) (s2 rfl rfl) <| cp (oPkT (decide_eq_true hp9) tm tm) (s2 rfl rfl) <| cp (oMv tm) (s1 rfl) <| crgB (decide_eq_true hp11) rfl rfl (oLdA (n := 1) (fs := f_api_Lattice) (u := ⟨([([97] : Str), ([98] : Str)] : List Str), ([3, 2] : List Int)⟩) rfl ⟨rfl, rfl, trivial⟩ t25 tm) (s1 rfl) <| crgB (decide_eq_true hp11) rfl rfl (oLdP (n := 0) (k := 0) (m := 6) (d := (kR f_api_State)) (u := y1.1) (lfS (lfC (lfS (lfC lf1 (lfC lf1 lfN))) (lfC lf1 (lfC lf1 (lfC lf1 (lfC lf1 lfN)))))) rfl rfl rfl t33 tm) (s1 rfl) <| cgB (decide_eq_true hp11) rfl rfl (oCall rfl (state_Right.ok hy12) b20 (opds_cons tm (opds_cons tm opds_nil))) (s2 rfl rfl) <| cp (oPkT (decide_eq_true hp11) tm tm) (s2 rfl rfl) <| cp (oAs tm) (s1 rfl) <| .nil) (by kernel_rfl) ?_
          exact pJ1 _ (so h) ⟨rfl, trivial⟩ rfl
        · refine rg (cp (oMv tm) (s1 rfl) <| cp (oEq rfl tm (cI (by decide))) (s1 rfl) <| cp (oMv tm) (s1 rfl) <| cgB (decide_eq_true hp8) rfl rfl (oFldP o33_3 tm) (s1 rfl) <| crgB (decide_eq_true hp8) rfl rfl (oLdB (n := 0) (k := 4) rfl rfl rfl t31 tm) (s1 rfl) <| cgB (decide_eq_true hp8) rfl rfl (oLenL u31 tm) (s1 rfl) <| cgB (decide_eq_true hp8) rfl rfl (oEq rfl tm (cI (by decide))) (s1 rfl) <| cp (oPkT (decide_eq_true hp8) tm tm) (s2 rfl rfl) <| cp (oMv tm) (s1 rfl) <| cgB (decide_eq_true hp9) rfl rfl (oFldP o33_3 tm) (s1 rfl) <| crgB (decide_eq_true hp9) rfl rfl (oLdB (n := 0) (k := 4) rfl rfl rfl t31 tm) (s1 rfl) <| cgB (decide_eq_true hp9) rfl rfl (oIdx u31 z101 hy10 tm (cI (by decide))) (s1 rfl) <| cgB (decide_eq_true hp9) rfl rfl (oLd t101 tm) (s1 rfl) <| cgB (decide_eq_true hp9) rfl rfl (oBuild (fs := f_api_Slot) (u := ⟨true, 1, 1⟩) rfl ze101 pl101 po101 (.op (zc := [(.bool false)]) cB rfl (.op (zc := [(.int .i64 0)]) (cI (by decide)) rfl (.op (zc := [(.int .i64 0)]) (cI (by decide)) rfl .nil)))) trivial <| cgB (decide_eq_true hp9) rfl rfl (oREq eqk101 rfl eg101 rfl tm tm) (s2 rfl rfl) <| cp (oPkT (decide_eq_true hp9) tm tm) (s2 rfl rfl) <| cp (oMv tm) (s1 rfl) <| csB (decide_eq_false hp11) rfl rfl <| csB (decide_eq_false hp11) rfl rfl <| csB (decide_eq_false hp11) rfl rfl <| cp (oPkF (decide_eq_false hp11) tm cB) (s1 rfl) <| cp (oAs tm) (s1 rfl) <| .nil) (by kernel_rfl) ?_
          exact pJ1 _ (so h) ⟨rfl, trivial⟩ rfl
      · refine rg (cp (oMv tm) (s1 rfl) <| cp (oEq rfl tm (cI (by decide))) (s1 rfl) <| cp (oMv tm) (s1 rfl) <| cgB (decide_eq_true hp8) rfl rfl (oFldP o33_3 tm) (s1 rfl) <| crgB (decide_eq_true hp8) rfl rfl (oLdB (n := 0) (k := 4) rfl rfl rfl t31 tm) (s1 rfl) <| cgB (decide_eq_true hp8) rfl rfl (oLenL u31 tm) (s1 rfl) <| cgB (decide_eq_true hp8) rfl rfl (oEq rfl tm (cI (by decide))) (s1 rfl) <| cp (oPkT (decide_eq_true hp8) tm tm) (s2 rfl rfl) <| cp (oMv tm) (s1 rfl) <| csB (decide_eq_false hp9) rfl rfl <| csB (decide_eq_false hp9) rfl rfl <| csB (decide_eq_false hp9) rfl rfl <| csB (decide_eq_false hp9) rfl rfl <| csB (decide_eq_false hp9) rfl rfl <| csB (decide_eq_false hp9) rfl rfl <| cp (oPkF (decide_eq_false hp9) tm cB) (s1 rfl) <| cp (oMv tm) (s1 rfl) <| csB rfl rfl rfl <| csB rfl rfl rfl <| csB rfl rfl rfl <| cp (oPkF rfl tm cB) (s1 rfl) <| cp (oAs tm) (s1 rfl) <| .nil) (by kernel_rfl) ?_
        exact pJ1 _ (so h) ⟨rfl, trivial⟩ rfl
    · refine rg (cp (oMv tm) (s1 rfl) <| cp (oEq rfl tm (cI (by decide))) (s1 rfl) <| cp (oMv tm) (s1 rfl) <| csB (decide_eq_false hp8) rfl rfl <| csB (decide_eq_false hp8) rfl rfl <| csB (decide_eq_false hp8) rfl rfl <| csB (decide_eq_false hp8) rfl rfl <| cp (oPkF (decide_eq_false hp8) tm cB) (s1 rfl) <| cp (oMv tm) (s1 rfl) <| csB rfl rfl rfl <| csB rfl rfl rfl <| csB rfl rfl rfl <| csB rfl rfl rfl <| csB rfl rfl rfl <| csB rfl rfl rfl <| cp (oPkF rfl tm cB) (s1 rfl) <| cp (oMv tm) (s1 rfl) <| csB rfl rfl rfl <| csB rfl rfl rfl <| csB rfl rfl rfl <| cp (oPkF rfl tm cB) (s1 rfl) <| cp (oAs tm) (s1 rfl) <| .nil) (by kernel_rfl) ?_
      exact pJ1 _ (so h) ⟨rfl, trivial⟩ rfl
  · rintro x7 rfl
    replace h := hk1
    refine wRet ?_
    obtain rfl := so h
    exact pR1 (.inl rfl) rfl (.tmp rfl <| .nil)
theorem reticentref08_Same.ok {a0 : List api_Instr} {a1 : List api_Instr} {r : Bool} (h : reticentref08_Same.f a0 a1 = some r) : FnA Tryz.prog 54 [(kL (kR f_api_Instr)).sig a0, (kL (kR f_api_Instr)).sig a1] (kB.sig r) := by
  refine fnIntro Tryz.func54 rfl (by kernel_rfl) fun H0 w0 => ?_
  unfold reticentref08_Same.f at h
  refine wSeq ?_
  refine rg (cp (oAs cB) trivial <| .nil) (by kernel_rfl) ?_
  refine pSeq ?_
  refine wSeq ?_
  refine wSeq ?_
  refine rg (cp (oMv tm) (s1 rfl) <| cp (oLenL u29 tm) (s1 rfl) <| cp (oMv tm) (s1 rfl) <| cp (oLenL u29 tm) (s1 rfl) <| cp (oNe rfl tm tm) (s2 rfl rfl) <| .nil) (by kernel_rfl) ?_
  refine pSeq ?_
  rcases ic h with ⟨hp1, h⟩ | ⟨hp1, h⟩
  · refine wNT hp1 tm (s1 rfl) ?_
    refine wSkip ?_
    refine pSeq ?_
    refine wSeq ?_
    refine wSeq ?_
    refine rg (cp (oMv tm) (s1 rfl) <| cp (oLenL u29 tm) (s1 rfl) <| cp (oMv (cI (by decide))) trivial <| .nil) (by kernel_rfl) ?_
    refine pSeq ?_
    obtain ⟨o1, h, hk1⟩ := bd h
    refine wK0 (.inr () = o1) ([]) ([]) ?_ ?_
    · refine wBlock (wLoop ?_)
      refine lW (pc1 o1 (fun v10 => [(0, .d ((kL (kR f_api_Instr)).sig a0)), (1, .d ((kL (kR f_api_Instr)).sig a1)), (12, .d ((kI .i64).sig (a0.length : Int))), (13, .d ((kI .i64).sig v10))]) (fun v10 => []) (reticentref08_Same.l0.partial_correctness a0 a1) ?_ _ h) ⟨rfl, rfl, rfl, rfl, trivial⟩ rfl
      clear h
      intro f' ih v10 h
      refine wSeq ?_
      refine rg (cp (oLt rfl tm tm) (s2 rfl rfl) <| .nil) (by kernel_rfl) ?_
      refine pSeq ?_
      refine wSeq ?_
      rcases ic h with ⟨hp11, h⟩ | ⟨hp11, h⟩
      · refine wCT hp11 tm (s1 rfl) ?_
        refine wSkip ?_
        refine pSeq ?_
        refine wSeq ?_
        refine wBlock ?_
        refine wSeq ?_
        refine rg (cp (oMv tm) (s1 rfl) <| cp (oAs tm) (s1 rfl) <| .nil) (by kernel_rfl) ?_
        refine pSeq ?_
        refine wSeq ?_
        obtain ⟨y12, hy12, h⟩ := bd h
        obtain ⟨y13, hy13, h⟩ := bd h
        refine rgD hm (cp (oMv tm) (s1 rfl) <| cp (oMv tm) (s1 rfl) <| cp (oIdx u29 z136 hy12 tm tm) (s2 rfl rfl) <| cp (oLd t136 tm) (s1 rfl) <| cp (oMv tm) (s1 rfl) <| cp (oMv tm) (s1 rfl) <| cp (oIdx u29 z136 hy13 tm tm) (s2 rfl rfl) <| cp (oLd t136 tm) (s1 rfl) <| cp (oRNe eqk136 rfl eg136 rfl tm tm) (s2 rfl rfl) <| .nil) (by kernel_rfl) (by kernel_rfl) ?_
        refine pSeq ?_
        rcases ic h with ⟨hp14, h⟩ | ⟨hp14, h⟩
        · refine wNT hp14 tm (s1 rfl) ?_
          refine wSkip ?_
          refine pBlkN ?_
          refine pSeq ?_
          refine rg (cp (oAdd tm (cI (by decide))) (s1 rfl) <| cp (oMv tm) (s1 rfl) <| .nil) (by kernel_rfl) ?_
          exact pLoop (lW (ih _ h) ⟨rfl, rfl, rfl, rfl, trivial⟩ rfl)
        · refine wNF hp14 tm (s1 rfl) ?_
          refine wSeq ?_
          refine rg (cp (oAs cB) trivial <| .nil) (by kernel_rfl) ?_
          refine pSeq ?_
          refine wRet ?_
          refine pBlkR ?_
          refine pThenR ?_
          refine pThenR ?_
          refine pBlkR ?_
          refine pThenR ?_
          obtain rfl := so h
          replace h := hk1
          refine pThenR ?_
          obtain rfl := so h
          exact pR1 (.inl rfl) rfl (.tmp rfl <| .nil)
      · refine wCF hp11 tm (s1 rfl) ?_
        refine wExit ?_
        refine pThenX ?_
        refine pThenX ?_
        refine pBlkX ?_
        exact pJ0 (so h) trivial rfl
    · rintro rfl
      replace h := hk1
      refine pSeq ?_
      refine wSeq ?_
      refine rg (cp (oAs cB) trivial <| .nil) (by kernel_rfl) ?_
      refine pSeq ?_
      refine wRet ?_
      obtain rfl := so h
      exact pR1 (.inl rfl) rfl (.tmp rfl <| .nil)
  · refine wNF hp1 tm (s1 rfl) ?_
    refine wSeq ?_
    refine rg (cp (oAs cB) trivial <| .nil) (by kernel_rfl) ?_
    refine pSeq ?_
    refine wRet ?_
    refine pThenR ?_
    obtain rfl := so h
    exact pR1 (.inl rfl) rfl (.tmp rfl <| .nil)
theorem reticentref09_AtomsSame.ok {a0 : List api_Atom} {a1 : List api_Atom} {r : Bool} (h : reticentref09_AtomsSame.f a0 a1 = some r) : FnA Tryz.prog 55 [(kL (kR f_api_Atom)).sig a0, (kL (kR f_api_Atom)).sig a1] (kB.sig r) := by
  refine fnIntro Tryz.func55 rfl (by kernel_rfl) fun H0 w0 => ?_
  unfold reticentref09_AtomsSame.f at h
  refine wSeq ?_
  refine rg (cp (oAs cB) trivial <| .nil) (by kernel_rfl) ?_
  refine pSeq ?_
  refine wSeq ?_
  refine wSeq ?_
  refine rg (cp (oMv tm) (s1 rfl) <| cp (oLenL u30 tm) (s1 rfl) <| cp (oMv tm) (s1 rfl) <| cp (oLenL u30 tm) (s1 rfl) <| cp (oNe rfl tm tm) (s2 rfl rfl) <| .nil) (by kernel_rfl) ?_
  refine pSeq ?_
  rcases ic h with ⟨hp1, h⟩ | ⟨hp1, h⟩
  · refine wNT hp1 tm (s1 rfl) ?_
    refine wSkip ?_
    refine pSeq ?_
    refine wSeq ?_
    refine wSeq ?_
    refine rg (cp (oMv tm) (s1 rfl) <| cp (oLenL u30 tm) (s1 rfl) <| cp (oMv (cI (by decide))) trivial <| .nil) (by kernel_rfl) ?_
    refine pSeq ?_
    obtain ⟨o1, h, hk1⟩ := bd h
    refine wK0 (.inr () = o1) ([]) ([]) ?_ ?_
    · refine wBlock (wLoop ?_)
      refine lW (pc1 o1 (fun v10 => [(0, .d ((kL (kR f_api_Atom)).sig a0)), (1, .d ((kL (kR f_api_Atom)).sig a1)), (12, .d ((kI .i64).sig (a0.length : Int))), (13, .d ((kI .i64).sig v10))]) (fun v10 => []) (reticentref09_AtomsSame.l0.partial_correctness a0 a1) ?_ _ h) ⟨rfl, rfl, rfl, rfl, trivial⟩ rfl
      clear h
      intro f' ih v10 h
      refine wSeq ?_
      refine rg (cp (oLt rfl tm tm) (s2 rfl rfl) <| .nil) (by kernel_rfl) ?_
      refine pSeq ?_
      refine wSeq ?_
      rcases ic h with ⟨hp11, h⟩ | ⟨hp11, h⟩
      · refine wCT hp11 tm (s1 rfl) ?_
        refine wSkip ?_
        refine pSeq ?_
        refine wSeq ?_
        refine wBlock ?_
        refine wSeq ?_
        refine rg (cp (oMv tm) (s1 rfl) <| cp (oAs tm) (s1 rfl) <| .nil) (by kernel_rfl) ?_
        refine pSeq ?_
        refine wSeq ?_
        obtain ⟨y12, hy12, h⟩ := bd h
        obtain ⟨y13, hy13, h⟩ := bd h
        refine rgD hm (cp (oMv tm) (s1 rfl) <| cp (oMv tm) (s1 rfl) <| cp (oIdx u30 z28 hy12 tm tm) (s2 rfl rfl) <| cp (oLd t28 tm) (s1 rfl) <| cp (oMv tm) (s1 rfl) <| cp (oMv tm) (s1 rfl) <| cp (oIdx u30 z28 hy13 tm tm) (s2 rfl rfl) <| cp (oLd t28 tm) (s1 rfl) <| cp (oRNe eqk28 rfl eg28 rfl tm tm) (s2 rfl rfl) <| .nil) (by kernel_rfl) (by kernel_rfl) ?_
        refine pSeq ?_
        rcases ic h with ⟨hp14, h⟩ | ⟨hp14, h⟩
        · refine wNT hp14 tm (s1 rfl) ?_
          refine wSkip ?_
          refine pBlkN ?_
          refine pSeq ?_
          refine rg (cp (oAdd tm (cI (by decide))) (s1 rfl) <| cp (oMv tm) (s1 rfl) <| .nil) (by kernel_rfl) ?_
          exact pLoop (lW (ih _ h) ⟨rfl, rfl, rfl, rfl, trivial⟩ rfl)
        · refine wNF hp14 tm (s1 rfl) ?_
          refine wSeq ?_
          refine rg (cp (oAs cB) trivial <| .nil) (by kernel_rfl) ?_
          refine pSeq ?_
          refine wRet ?_
          refine pBlkR ?_
          refine pThenR ?_
          refine pThenR ?_
          refine pBlkR ?_
          refine pThenR ?_
          obtain rfl := so h
          replace h := hk1
          refine pThenR ?_
          obtain rfl := so h
          exact pR1 (.inl rfl) rfl (.tmp rfl <| .nil)
      · refine wCF hp11 tm (s1 rfl) ?_
        refine wExit ?_
        refine pThenX ?_
        refine pThenX ?_
        refine pBlkX ?_
        exact pJ0 (so h) trivial rfl
    · rintro rfl
      replace h := hk1
      refine pSeq ?_
      refine wSeq ?_
      refine rg (cp (oAs cB) trivial <| .nil) (by kernel_rfl) ?_
      refine pSeq ?_
      refine wRet ?_
      obtain rfl := so h
      exact pR1 (.inl rfl) rfl (.tmp rfl <| .nil)
  · refine wNF hp1 tm (s1 rfl) ?_
    refine wSeq ?_
    refine rg (cp (oAs cB) trivial <| .nil) (by kernel_rfl) ?_
    refine pSeq ?_
    refine wRet ?_
    refine pThenR ?_
    obtain rfl := so h
    exact pR1 (.inl rfl) rfl (.tmp rfl <| .nil)
theorem reticentref09_Same.ok {a0 : api_State} {a1 : api_State} {r : Bool} (h : reticentref09_Same.f a0 a1 = some r) : FnA Tryz.prog 15 [(kR f_api_State).sig a0, (kR f_api_State).sig a1] (kB.sig r) := by
  refine fnIntro Tryz.func15 rfl (by kernel_rfl) fun H0 w0 => ?_
  unfold reticentref09_Same.f at h
  refine wSeq ?_
  refine rg (cp (oBox tm) (s1 rfl) <| cp (oBox tm) (s1 rfl) <| cp (oAs cB) trivial <| .nil) (by kernel_rfl) ?_
  refine pSeq ?_
  refine wSeq ?_
  obtain ⟨o1, h, hk1⟩ := bd h
  refine wJ1 (fun x8 => x8 = o1) (fun x8 => [(2, .d (sP (kR f_api_State) a0)), (3, .d (sP (kR f_api_State) a1)), (43, .d (kB.sig x8))]) (fun x8 => []) ?_ ?_
  · rcases ic h with ⟨hp9, h⟩ | ⟨hp9, h⟩
    · obtain ⟨y10, hy10, h⟩ := bd h
      rcases ic h with ⟨hp11, h⟩ | ⟨hp11, h⟩
      · refine rg (cp (oFld (fs := f_api_State) (k := 0) rfl o33_0 tm) (s1 rfl) <| cp (oLd t28 tm) (s1 rfl) <| cp (oFld (fs := f_api_State) (k := 0) rfl o33_0 tm) (s1 rfl) <| cp (oLd t28 tm) (s1 rfl) <| cp (oRNe eqk28 rfl eg28 rfl tm tm) (s2 rfl rfl) <| cp (oMv tm) (s1 rfl) <| cgB (nf hp9) rfl rfl (oFld (fs := f_api_State) (k := 1) rfl o33_1 tm) (s1 rfl) <| cgB (nf hp9) rfl rfl (oLd t29 tm) (s1 rfl) <| cgB (nf hp9) rfl rfl (oFld (fs := f_api_State) (k := 1) rfl o33_1 tm) (s1 rfl) <| cgB (nf hp9) rfl rfl (oLd t29 tm) (s1 rfl) <| cgB (nf hp9) rfl rfl (oCall rfl (reticentref08_Same.ok hy10) b54 (opds_cons tm (opds_cons tm opds_nil))) (s2 rfl rfl) <| cgB (nf hp9) rfl rfl (oNot tm) (s1 rfl) <| cp (oPkF (nf hp9) tm tm) (s2 rfl rfl) <| cp (oMv tm) (s1 rfl) <| csB hp11 rfl rfl <| csB hp11 rfl rfl <| csB hp11 rfl rfl <| csB hp11 rfl rfl <| csB hp11 rfl rfl <| csB hp11 rfl rfl <| cp (oPkT hp11 tm cB) (s1 rfl) <| cp (oMv tm) (s1 rfl) <| csB rfl rfl rfl <| csB rfl rfl rfl <| csB rfl rfl rfl <| csB rfl rfl rfl <| csB rfl rfl rfl <| csB rfl rfl rfl <| cp (oPkT rfl tm cB) (s1 rfl) <| cp (oMv tm) (s1 rfl) <| csB rfl rfl rfl <| csB rfl rfl rfl <| csB rfl rfl rfl <| csB rfl rfl rfl <| csB rfl rfl rfl <| csB rfl rfl rfl <| csB rfl rfl rfl <| cp (oPkT rfl tm cB) (s1 rfl) <| .nil) (by kernel_rfl) ?_
        exact pJ1 _ (so h) ⟨rfl, rfl, rfl, trivial⟩ rfl
      · obtain ⟨y12, hy12, h⟩ := bd h
        rcases ic h with ⟨hp13, h⟩ | ⟨hp13, h⟩
        · refine rg (cp (oFld (fs := f_api_State) (k := 0) rfl o33_0 tm) (s1 rfl) <| cp (oLd t28 tm) (s1 rfl) <| cp (oFld (fs := f_api_State) (k := 0) rfl o33_0 tm) (s1 rfl) <| cp (oLd t28 tm) (s1 rfl) <| cp (oRNe eqk28 rfl eg28 rfl tm tm) (s2 rfl rfl) <| cp (oMv tm) (s1 rfl) <| cgB (nf hp9) rfl rfl (oFld (fs := f_api_State) (k := 1) rfl o33_1 tm) (s1 rfl) <| cgB (nf hp9) rfl rfl (oLd t29 tm) (s1 rfl) <| cgB (nf hp9) rfl rfl (oFld (fs := f_api_State) (k := 1) rfl o33_1 tm) (s1 rfl) <| cgB (nf hp9) rfl rfl (oLd t29 tm) (s1 rfl) <| cgB (nf hp9) rfl rfl (oCall rfl (reticentref08_Same.ok hy10) b54 (opds_cons tm (opds_cons tm opds_nil))) (s2 rfl rfl) <| cgB (nf hp9) rfl rfl (oNot tm) (s1 rfl) <| cp (oPkF (nf hp9) tm tm) (s2 rfl rfl) <| cp (oMv tm) (s1 rfl) <| cgB (nb hp11) rfl rfl (oFld (fs := f_api_State) (k := 2) rfl o33_2 tm) (s1 rfl) <| cgB (nb hp11) rfl rfl (oLd t30 tm) (s1 rfl) <| cgB (nb hp11) rfl rfl (oFld (fs := f_api_State) (k := 2) rfl o33_2 tm) (s1 rfl) <| cgB (nb hp11) rfl rfl (oLd t30 tm) (s1 rfl) <| cgB (nb hp11) rfl rfl (oCall rfl (reticentref09_AtomsSame.ok hy12) b55 (opds_cons tm (opds_cons tm opds_nil))) (s2 rfl rfl) <| cgB (nb hp11) rfl rfl (oNot tm) (s1 rfl) <| cp (oPkF (nb hp11) tm tm) (s2 rfl rfl) <| cp (oMv tm) (s1 rfl) <| csB hp13 rfl rfl <| csB hp13 rfl rfl <| csB hp13 rfl rfl <| csB hp13 rfl rfl <| csB hp13 rfl rfl <| csB hp13 rfl rfl <| cp (oPkT hp13 tm cB) (s1 rfl) <| cp (oMv tm) (s1 rfl) <| csB rfl rfl rfl <| csB rfl rfl rfl <| csB rfl rfl rfl <| csB rfl rfl rfl <| csB rfl rfl rfl <| csB rfl rfl rfl <| csB rfl rfl rfl <| cp (oPkT rfl tm cB) (s1 rfl) <| .nil) (by kernel_rfl) ?_
          exact pJ1 _ (so h) ⟨rfl, rfl, rfl, trivial⟩ rfl
        · obtain ⟨y14, hy14, h⟩ := bd h
          rcases ic h with ⟨hp15, h⟩ | ⟨hp15, h⟩
          · refine rg (cp (oFld (fs := f_api_State) (k := 0) rfl o33_0 tm) (s1 rfl) <| cp (oLd t28 tm) (s1 rfl) <| cp (oFld (fs := f_api_State) (k := 0) rfl o33_0 tm) (s1 rfl) <| cp (oLd t28 tm) (s1 rfl) <| cp (oRNe eqk28 rfl eg28 rfl tm tm) (s2 rfl rfl) <| cp (oMv tm) (s1 rfl) <| cgB (nf hp9) rfl rfl (oFld (fs := f_api_State) (k := 1) rfl o33_1 tm) (s1 rfl) <| cgB (nf hp9) rfl rfl (oLd t29 tm) (s1 rfl) <| cgB (nf hp9) rfl rfl (oFld (fs := f_api_State) (k := 1) rfl o33_1 tm) (s1 rfl) <| cgB (nf hp9) rfl rfl (oLd t29 tm) (s1 rfl) <| cgB (nf hp9) rfl rfl (oCall rfl (reticentref08_Same.ok hy10) b54 (opds_cons tm (opds_cons tm opds_nil))) (s2 rfl rfl) <| cgB (nf hp9) rfl rfl (oNot tm) (s1 rfl) <| cp (oPkF (nf hp9) tm tm) (s2 rfl rfl) <| cp (oMv tm) (s1 rfl) <| cgB (nb hp11) rfl rfl (oFld (fs := f_api_State) (k := 2) rfl o33_2 tm) (s1 rfl) <| cgB (nb hp11) rfl rfl (oLd t30 tm) (s1 rfl) <| cgB (nb hp11) rfl rfl (oFld (fs := f_api_State) (k := 2) rfl o33_2 tm) (s1 rfl) <| cgB (nb hp11) rfl rfl (oLd t30 tm) (s1 rfl) <| cgB (nb hp11) rfl rfl (oCall rfl (reticentref09_AtomsSame.ok hy12) b55 (opds_cons tm (opds_cons tm opds_nil))) (s2 rfl rfl) <| cgB (nb hp11) rfl rfl (oNot tm) (s1 rfl) <| cp (oPkF (nb hp11) tm tm) (s2 rfl rfl) <| cp (oMv tm) (s1 rfl) <| cgB (nb hp13) rfl rfl (oFld (fs := f_api_State) (k := 4) rfl o33_4 tm) (s1 rfl) <| cgB (nb hp13) rfl rfl (oLd t30 tm) (s1 rfl) <| cgB (nb hp13) rfl rfl (oFld (fs := f_api_State) (k := 4) rfl o33_4 tm) (s1 rfl) <| cgB (nb hp13) rfl rfl (oLd t30 tm) (s1 rfl) <| cgB (nb hp13) rfl rfl (oCall rfl (reticentref09_AtomsSame.ok hy14) b55 (opds_cons tm (opds_cons tm opds_nil))) (s2 rfl rfl) <| cgB (nb hp13) rfl rfl (oNot tm) (s1 rfl) <| cp (oPkF (nb hp13) tm tm) (s2 rfl rfl) <| cp (oMv tm) (s1 rfl) <| csB hp15 rfl rfl <| csB hp15 rfl rfl <| csB hp15 rfl rfl <| csB hp15 rfl rfl <| csB hp15 rfl rfl <| csB hp15 rfl rfl <| csB hp15 rfl rfl <| cp (oPkT hp15 tm cB) (s1 rfl) <| .nil) (by kernel_rfl) ?_
            exact pJ1 _ (so h) ⟨rfl, rfl, rfl, trivial⟩ rfl
          · refine rg (cp (oFld (fs := f_api_State) (k := 0) rfl o33_0 tm) (s1 rfl) <| cp (oLd t28 tm) (s1 rfl) <| cp (oFld (fs := f_api_State) (k := 0) rfl o33_0 tm) (s1 rfl) <| cp (oLd t28 tm) (s1 rfl) <| cp (oRNe eqk28 rfl eg28 rfl tm tm) (s2 rfl rfl) <| cp (oMv tm) (s1 rfl) <| cgB (nf hp9) rfl rfl (oFld (fs := f_api_State) (k := 1) rfl o33_1 tm) (s1 rfl) <| cgB (nf hp9) rfl rfl (oLd t29 tm) (s1 rfl) <| cgB (nf hp9) rfl rfl (oFld (fs := f_api_State) (k := 1) rfl o33_1 tm) (s1 rfl) <| cgB (nf hp9) rfl rfl (oLd t29 tm) (s1 rfl) <| cgB (nf hp9) rfl rfl (oCall rfl (reticentref08_Same.ok hy10) b54 (opds_cons tm (opds_cons tm opds_nil))) (s2 rfl rfl) <| cgB (nf hp9) rfl rfl (oNot tm) (s1 rfl) <| cp (oPkF (nf hp9) tm tm) (s2 rfl rfl) <| cp (oMv tm) (s1 rfl) <| cgB (nb hp11) rfl rfl (oFld (fs := f_api_State) (k := 2) rfl o33_2 tm) (s1 rfl) <| cgB (nb hp11) rfl rfl (oLd t30 tm) (s1 rfl) <| cgB (nb hp11) rfl rfl (oFld (fs := f_api_State) (k := 2) rfl o33_2 tm) (s1 rfl) <| cgB (nb hp11) rfl rfl (oLd t30 tm) (s1 rfl) <| cgB (nb hp11) rfl rfl (oCall rfl (reticentref09_AtomsSame.ok hy12) b55 (opds_cons tm (opds_cons tm opds_nil))) (s2 rfl rfl) <| cgB (nb hp11) rfl rfl (oNot tm) (s1 rfl) <| cp (oPkF (nb hp11) tm tm) (s2 rfl rfl) <| cp (oMv tm) (s1 rfl) <| cgB (nb hp13) rfl rfl (oFld (fs := f_api_State) (k := 4) rfl o33_4 tm) (s1 rfl) <| cgB (nb hp13) rfl rfl (oLd t30 tm) (s1 rfl) <| cgB (nb hp13) rfl rfl (oFld (fs := f_api_State) (k := 4) rfl o33_4 tm) (s1 rfl) <| cgB (nb hp13) rfl rfl (oLd t30 tm) (s1 rfl) <| cgB (nb hp13) rfl rfl (oCall rfl (reticentref09_AtomsSame.ok hy14) b55 (opds_cons tm (opds_cons tm opds_nil))) (s2 rfl rfl) <| cgB (nb hp13) rfl rfl (oNot tm) (s1 rfl) <| cp (oPkF (nb hp13) tm tm) (s2 rfl rfl) <| cp (oMv tm) (s1 rfl) <| cgB (nb hp15) rfl rfl (oFld (fs := f_api_State) (k := 3) rfl o33_3 tm) (s1 rfl) <| cgB (nb hp15) rfl rfl (oLd t31 tm) (s1 rfl) <| cgB (nb hp15) rfl rfl (oLenL u31 tm) (s1 rfl) <| cgB (nb hp15) rfl rfl (oFld (fs := f_api_State) (k := 3) rfl o33_3 tm) (s1 rfl) <| cgB (nb hp15) rfl rfl (oLd t31 tm) (s1 rfl) <| cgB (nb hp15) rfl rfl (oLenL u31 tm) (s1 rfl) <| cgB (nb hp15) rfl rfl (oNe rfl tm tm) (s2 rfl rfl) <| cp (oPkF (nb hp15) tm tm) (s2 rfl rfl) <| .nil) (by kernel_rfl) ?_
            exact pJ1 _ (so h) ⟨rfl, rfl, rfl, trivial⟩ rfl
    · refine rg (cp (oFld (fs := f_api_State) (k := 0) rfl o33_0 tm) (s1 rfl) <| cp (oLd t28 tm) (s1 rfl) <| cp (oFld (fs := f_api_State) (k := 0) rfl o33_0 tm) (s1 rfl) <| cp (oLd t28 tm) (s1 rfl) <| cp (oRNe eqk28 rfl eg28 rfl tm tm) (s2 rfl rfl) <| cp (oMv tm) (s1 rfl) <| csB (nt hp9) rfl rfl <| csB (nt hp9) rfl rfl <| csB (nt hp9) rfl rfl <| csB (nt hp9) rfl rfl <| csB (nt hp9) rfl rfl <| csB (nt hp9) rfl rfl <| cp (oPkT (nt hp9) tm cB) (s1 rfl) <| cp (oMv tm) (s1 rfl) <| csB rfl rfl rfl <| csB rfl rfl rfl <| csB rfl rfl rfl <| csB rfl rfl rfl <| csB rfl rfl rfl <| csB rfl rfl rfl <| cp (oPkT rfl tm cB) (s1 rfl) <| cp (oMv tm) (s1 rfl) <| csB rfl rfl rfl <| csB rfl rfl rfl <| csB rfl rfl rfl <| csB rfl rfl rfl <| csB rfl rfl rfl <| csB rfl rfl rfl <| cp (oPkT rfl tm cB) (s1 rfl) <| cp (oMv tm) (s1 rfl) <| csB rfl rfl rfl <| csB rfl rfl rfl <| csB rfl rfl rfl <| csB rfl rfl rfl <| csB rfl rfl rfl <| csB rfl rfl rfl <| csB rfl rfl rfl <| cp (oPkT rfl tm cB) (s1 rfl) <| .nil) (by kernel_rfl) ?_
      exact pJ1 _ (so h) ⟨rfl, rfl, rfl, trivial⟩ rfl
  · rintro x8 rfl
    replace h := hk1
    rcases ic h with ⟨hp16, h⟩ | ⟨hp16, h⟩
    · refine wBT hp16 tm (s1 rfl) ?_
      refine wSeq ?_
      refine rg (cp (oAs cB) trivial <| .nil) (by kernel_rfl) ?_
      refine pSeq ?_
      refine wRet ?_
      refine pThenR ?_
      obtain rfl := so h
      exact pR1 (.inl rfl) rfl (.tmp rfl <| .nil)
    · refine wBF hp16 tm (s1 rfl) ?_
      refine wSkip ?_
      refine pSeq ?_
      refine wSeq ?_
      refine wSeq ?_
      refine rg (cp (oFld (fs := f_api_State) (k := 3) rfl o33_3 tm) (s1 rfl) <| cp (oLd t31 tm) (s1 rfl) <| cp (oLenL u31 tm) (s1 rfl) <| cp (oMv (cI (by decide))) trivial <| .nil) (by kernel_rfl) ?_
      refine pSeq ?_
      obtain ⟨o1, h, hk1⟩ := bd h
      refine wK0 (.inr () = o1) ([]) ([]) ?_ ?_
      · refine wBlock (wLoop ?_)
        refine lW (pc1 o1 (fun v25 => [(2, .d (sP (kR f_api_State) a0)), (3, .d (sP (kR f_api_State) a1)), (46, .d ((kI .i64).sig (a0.Stack.length : Int))), (47, .d ((kI .i64).sig v25))]) (fun v25 => []) (reticentref09_Same.l0.partial_correctness a0 a1) ?_ _ h) ⟨rfl, rfl, rfl, rfl, trivial⟩ rfl
        clear h
        intro f' ih v25 h
        refine wSeq ?_
        refine rg (cp (oLt rfl tm tm) (s2 rfl rfl) <| .nil) (by kernel_rfl) ?_
        refine pSeq ?_
        refine wSeq ?_
        rcases ic h with ⟨hp26, h⟩ | ⟨hp26, h⟩
        · refine wCT hp26 tm (s1 rfl) ?_
          refine wSkip ?_
          refine pSeq ?_
          refine wSeq ?_
          refine wBlock ?_
          refine wSeq ?_
          refine rg (cp (oMv tm) (s1 rfl) <| cp (oAs tm) (s1 rfl) <| .nil) (by kernel_rfl) ?_
          refine pSeq ?_
          refine wSeq ?_
          obtain ⟨y27, hy27, h⟩ := bd h
          obtain ⟨y28, hy28, h⟩ := bd h
          refine rgD hm (cp (oFld (fs := f_api_State) (k := 3) rfl o33_3 tm) (s1 rfl) <| cp (oLd t31 tm) (s1 rfl) <| cp (oMv tm) (s1 rfl) <| cp (oIdx u31 z101 hy27 tm tm) (s2 rfl rfl) <| cp (oLd t101 tm) (s1 rfl) <| cp (oFld (fs := f_api_State) (k := 3) rfl o33_3 tm) (s1 rfl) <| cp (oLd t31 tm) (s1 rfl) <| cp (oMv tm) (s1 rfl) <| cp (oIdx u31 z101 hy28 tm tm) (s2 rfl rfl) <| cp (oLd t101 tm) (s1 rfl) <| cp (oRNe eqk101 rfl eg101 rfl tm tm) (s2 rfl rfl) <| .nil) (by kernel_rfl) (by kernel_rfl) ?_
          refine pSeq ?_
          rcases ic h with ⟨hp29, h⟩ | ⟨hp29, h⟩
          · refine wNT hp29 tm (s1 rfl) ?_
            refine wSkip ?_
            refine pBlkN ?_
            refine pSeq ?_
            refine rg (cp (oAdd tm (cI (by decide))) (s1 rfl) <| cp (oMv tm) (s1 rfl) <| .nil) (by kernel_rfl) ?_
            exact pLoop (lW (ih _ h) ⟨rfl, rfl, rfl, rfl, trivial⟩ rfl)
          · refine wNF hp29 tm (s1 rfl) ?_
            refine wSeq ?_
            refine rg (cp (oAs cB) trivial <| .nil) (by kernel_rfl) ?_
            refine pSeq ?_
            refine wRet ?_
            refine pBlkR ?_
            refine pThenR ?_
            refine pThenR ?_
            refine pBlkR ?_
            refine pThenR ?_
            obtain rfl := so h
            replace h := hk1
            refine pThenR ?_
            obtain rfl := so h
            exact pR1 (.inl rfl) rfl (.tmp rfl <| .nil)
        · refine wCF hp26 tm (s1 rfl) ?_
          refine wExit ?_
          refine pThenX ?_
          refine pThenX ?_
          refine pBlkX ?_
          exact pJ0 (so h) trivial rfl
      · rintro rfl
        replace h := hk1
        refine pSeq ?_
        refine wSeq ?_
        refine rg (cp (oAs cB) trivial <| .nil) (by kernel_rfl) ?_
        refine pSeq ?_
        refine wRet ?_
        obtain rfl := so h
        exact pR1 (.inl rfl) rfl (.tmp rfl <| .nil)
theorem reticentlaw09_StateReads.ok {a0 : api_Lattice} {a1 : Str} {r : Bool} (h : reticentlaw09_StateReads.f a0 a1 = some r) : FnA Tryz.prog 3 [(kR f_api_Lattice).sig a0, kS.sig a1] (kB.sig r) := by
  refine fnIntro Tryz.func3 rfl (by kernel_rfl) fun H0 w0 => ?_
  unfold reticentlaw09_StateReads.f at h
  refine wSeq ?_
  refine rg (cw (oBoxS (id := 2) (fs := f_api_Lattice) tm) (s1 rfl) <| cp (oAs cB) trivial <| .nil) (by kernel_rfl) ?_
  refine pSeq ?_
  refine wSeq ?_
  obtain ⟨y1, hy1, h⟩ := bd h
  obtain ⟨hc2, h⟩ := ib h
  refine rgD hm (cr (oLdA (n := 0) (fs := f_api_Lattice) (u := ⟨a0.Names, a0.Up⟩) rfl ⟨rfl, rfl, trivial⟩ t25 tm) (s1 rfl) <| cp (oCall rfl (reticentlaw09_few.ok hy1) b11 (opds_cons tm opds_nil)) (s1 rfl) <| cp (oMv tm) (s1 rfl) <| cp (oMv tm) (s1 rfl) <| cp (oLenS u9 tm) (s1 rfl) <| cp (oMin tm (cI (by decide))) (s1 rfl) <| cp (oCutSH u9 hc2.1 hc2.2 tm tm) (s2 rfl rfl) <| cwn (oStA (n := 0) (fs := f_api_Lattice) rfl rfl z25 tm tm) (s2 rfl rfl) <| cp (oAs tm) (s1 rfl) <| .nil) (by kernel_rfl) (by kernel_rfl) ?_
  refine pSeq ?_
  refine wSeq ?_
  obtain ⟨y3, hy3, h⟩ := bd h
  refine rg (cr (oLdA (n := 0) (fs := f_api_Lattice) (u := ⟨y1.Names, y1.Up⟩) rfl ⟨rfl, rfl, trivial⟩ t25 tm) (s1 rfl) <| cp (oMv tm) (s1 rfl) <| cp (oCall rfl (state_Parse.ok hy3) b12 (opds_cons tm (opds_cons tm opds_nil))) (s2 rfl rfl) <| cp (oMv tm) (s1 rfl) <| cp (oExt (k := 0) rfl tm) (s1 rfl) <| cp (oExt (k := 1) rfl tm) (s1 rfl) <| cp (oExt (k := 2) rfl tm) (s1 rfl) <| cw (oAlloc (id := 5) (ls := [.d (kI .i64) 0, .d (kI .i64) 0, .d (kL (kR f_api_Instr)) [], .d (kL (kR f_api_Atom)) [], .d (kL (kR f_api_Slot)) [], .d (kL (kR f_api_Atom)) []]) ze33 (fun g => ⟨[(.int .i64 0)], _, rfl, zI_i64 g.H, ⟨[(.int .i64 0)], _, rfl, zI_i64 g.H, ⟨[(.slice none 0 0)], _, rfl, zL g.H, ⟨[(.slice none 0 0)], _, rfl, zL g.H, ⟨[(.slice none 0 0)], _, rfl, zL g.H, ⟨[(.slice none 0 0)], _, rfl, zL g.H, rfl⟩⟩⟩⟩⟩⟩)) trivial <| cwn (oStP (n := 0) (k := 0) (m := 6) (d := (kR f_api_State)) (u := y3.1) (lfS (lfC (lfS (lfC lf1 (lfC lf1 lfN))) (lfC lf1 (lfC lf1 (lfC lf1 (lfC lf1 lfN)))))) rfl rfl rfl z33 tm tm) (s2 rfl rfl) <| cp (oAs tm) (s1 rfl) <| cp (oAs tm) (s1 rfl) <| .nil) (by kernel_rfl) ?_
  refine pSeq ?_
  refine wSeq ?_
  obtain ⟨y4, hy4, h⟩ := bd h
  refine rg (cr (oLdA (n := 1) (fs := f_api_Lattice) (u := ⟨y1.Names, y1.Up⟩) rfl ⟨rfl, rfl, trivial⟩ t25 tm) (s1 rfl) <| cp (oMv tm) (s1 rfl) <| cp (oCall rfl (reticentref09_Parse.ok hy4) b13 (opds_cons tm (opds_cons tm opds_nil))) (s2 rfl rfl) <| cw (oAlloc (id := 8) (ls := [.d (kI .i64) 0, .d (kI .i64) 0, .d (kL (kR f_api_Instr)) [], .d (kL (kR f_api_Atom)) [], .d (kL (kR f_api_Slot)) [], .d (kL (kR f_api_Atom)) [], .d (kI .i64) 0, .d (kI .i64) 0]) ze38 (fun g => ⟨[(.int .i64 0)], _, rfl, zI_i64 g.H, ⟨[(.int .i64 0)], _, rfl, zI_i64 g.H, ⟨[(.slice none 0 0)], _, rfl, zL g.H, ⟨[(.slice none 0 0)], _, rfl, zL g.H, ⟨[(.slice none 0 0)], _, rfl, zL g.H, ⟨[(.slice none 0 0)], _, rfl, zL g.H, ⟨[(.int .i64 0)], _, rfl, zI_i64 g.H, ⟨[(.int .i64 0)], _, rfl, zI_i64 g.H, rfl⟩⟩⟩⟩⟩⟩⟩⟩)) trivial <| cwn (oStP (n := 0) (k := 0) (m := 8) (d := (kR f_reticentref09_R)) (u := y4) (lfS (lfC (lfS (lfC (lfS (lfC lf1 (lfC lf1 lfN))) (lfC lf1 (lfC lf1 (lfC lf1 (lfC lf1 lfN)))))) (lfC lf1 (lfC lf1 lfN)))) rfl rfl rfl z38 tm tm) (s2 rfl rfl) <| .nil) (by kernel_rfl) ?_
  refine pSeq ?_
  obtain ⟨o1, h, hk1⟩ := bd h
  refine wJ1 (fun x10 => x10 = o1) (fun x10 => [(4, .d (kB.sig x10))]) (fun x10 => [.box 8 38 [.d (kI .i64) y4.S.Pc.V, .d (kI .i64) y4.S.Pc.L, .d (kL (kR f_api_Instr)) y4.S.Code, .d (kL (kR f_api_Atom)) y4.S.Mem, .d (kL (kR f_api_Slot)) y4.S.Stack, .d (kL (kR f_api_Atom)) y4.S.Out, .d (kI .i64) y4.I, .d (kI .i64) y4.E], .box 5 33 [.d (kI .i64) y3.1.Pc.V, .d (kI .i64) y3.1.Pc.L, .d (kL (kR f_api_Instr)) y3.1.Code, .d (kL (kR f_api_Atom)) y3.1.Mem, .d (kL (kR f_api_Slot)) y3.1.Stack, .d (kL (kR f_api_Atom)) y3.1.Out], .box 2 25 [.d (kL kS) y1.Names, .d (kL (kI .u32)) y1.Up]]) ?_ ?_
  · obtain ⟨y11, hy11, h⟩ := bd h
    rcases ic h with ⟨hp12, h⟩ | ⟨hp12, h⟩
    · rcases ic h with ⟨hp13, h⟩ | ⟨hp13, h⟩
      · rcases ic h with ⟨hp14, h⟩ | ⟨hp14, h⟩
        · obtain ⟨y15, hy15, h⟩ := bd h
          refine rg (cp (oCall rfl (reticentlaw09_alive.ok hy11) b14 opds_nil) trivial <| cp (oMv tm) (s1 rfl) <| cgB hp12 rfl rfl (oMv tm) (s1 rfl) <| cgB hp12 rfl rfl (oFldP o38_2 tm) (s1 rfl) <| crgB hp12 rfl rfl (oLdB (n := 0) (k := 7) rfl rfl rfl t34 tm) (s1 rfl) <| cgB hp12 rfl rfl (oEq rfl tm tm) (s2 rfl rfl) <| cp (oPkT hp12 tm tm) (s2 rfl rfl) <| cp (oMv tm) (s1 rfl) <| cgB (decide_eq_true hp13) rfl rfl (oMv tm) (s1 rfl) <| cgB (decide_eq_true hp13) rfl rfl (oFldP o38_1 tm) (s1 rfl) <| crgB (decide_eq_true hp13) rfl rfl (oLdB (n := 0) (k := 6) rfl rfl rfl t3 tm) (s1 rfl) <| cgB (decide_eq_true hp13) rfl rfl (oEq rfl tm tm) (s2 rfl rfl) <| cp (oPkT (decide_eq_true hp13) tm tm) (s2 rfl rfl) <| cp (oMv tm) (s1 rfl) <| crgB (decide_eq_true hp14) rfl rfl (oLdP (n := 1) (k := 0) (m := 6) (d := (kR f_api_State)) (u := y3.1) (lfS (lfC (lfS (lfC lf1 (lfC lf1 lfN))) (lfC lf1 (lfC lf1 (lfC lf1 (lfC lf1 lfN)))))) rfl rfl rfl t33 tm) (s1 rfl) <| cgB (decide_eq_true hp14) rfl rfl (oFldP o38_0 tm) (s1 rfl) <| crgB (decide_eq_true hp14) rfl rfl (oLdP (n := 0) (k := 0) (m := 6) (d := (kR f_api_State)) (u := y4.S) (lfS (lfC (lfS (lfC lf1 (lfC lf1 lfN))) (lfC lf1 (lfC lf1 (lfC lf1 (lfC lf1 lfN)))))) rfl rfl rfl t33 tm) (s1 rfl) <| cgB (decide_eq_true hp14) rfl rfl (oCall rfl (reticentref09_Same.ok hy15) b15 (opds_cons tm (opds_cons tm opds_nil))) (s2 rfl rfl) <| cp (oPkT (decide_eq_true hp14) tm tm) (s2 rfl rfl) <| cp (oAs tm) (s1 rfl) <| .nil) (by kernel_rfl) ?_
          exact pJ1 _ (so h) ⟨rfl, trivial⟩ rfl
        · refine rg (cp (oCall rfl (reticentlaw09_alive.ok hy11) b14 opds_nil) trivial <| cp (oMv tm) (s1 rfl) <| cgB hp12 rfl rfl (oMv tm) (s1 rfl) <| cgB hp12 rfl rfl (oFldP o38_2 tm) (s1 rfl) <| crgB hp12 rfl rfl (oLdB (n := 0) (k := 7) rfl rfl rfl t34 tm) (s1 rfl) <| cgB hp12 rfl rfl (oEq rfl tm tm) (s2 rfl rfl) <| cp (oPkT hp12 tm tm) (s2 rfl rfl) <| cp (oMv tm) (s1 rfl) <| cgB (decide_eq_true hp13) rfl rfl (oMv tm) (s1 rfl) <| cgB (decide_eq_true hp13) rfl rfl (oFldP o38_1 tm) (s1 rfl) <| crgB (decide_eq_true hp13) rfl rfl (oLdB (n := 0) (k := 6) rfl rfl rfl t3 tm) (s1 rfl) <| cgB (decide_eq_true hp13) rfl rfl (oEq rfl tm tm) (s2 rfl rfl) <| cp (oPkT (decide_eq_true hp13) tm tm) (s2 rfl rfl) <| cp (oMv tm) (s1 rfl) <| csB (decide_eq_false hp14) rfl rfl <| csB (decide_eq_false hp14) rfl rfl <| csB (decide_eq_false hp14) rfl rfl <| csB (decide_eq_false hp14) rfl rfl <| cp (oPkF (decide_eq_false hp14) tm cB) (s1 rfl) <| cp (oAs tm) (s1 rfl) <| .nil) (by kernel_rfl) ?_
          exact pJ1 _ (so h) ⟨rfl, trivial⟩ rfl
      · refine rg (cp (oCall rfl (reticentlaw09_alive.ok hy11) b14 opds_nil) trivial <| cp (oMv tm) (s1 rfl) <| cgB hp12 rfl rfl (oMv tm) (s1 rfl) <| cgB hp12 rfl rfl (oFldP o38_2 tm) (s1 rfl) <| crgB hp12 rfl rfl (oLdB (n := 0) (k := 7) rfl rfl rfl t34 tm) (s1 rfl) <| cgB hp12 rfl rfl (oEq rfl tm tm) (s2 rfl rfl) <| cp (oPkT hp12 tm tm) (s2 rfl rfl) <| cp (oMv tm) (s1 rfl) <| csB (decide_eq_false hp13) rfl rfl <| csB (decide_eq_false hp13) rfl rfl <| csB (decide_eq_false hp13) rfl rfl <| csB (decide_eq_false hp13) rfl rfl <| cp (oPkF (decide_eq_false hp13) tm cB) (s1 rfl) <| cp (oMv tm) (s1 rfl) <| csB rfl rfl rfl <| csB rfl rfl rfl <| csB rfl rfl rfl <| csB rfl rfl rfl <| cp (oPkF rfl tm cB) (s1 rfl) <| cp (oAs tm) (s1 rfl) <| .nil) (by kernel_rfl) ?_
        exact pJ1 _ (so h) ⟨rfl, trivial⟩ rfl
    · refine rg (cp (oCall rfl (reticentlaw09_alive.ok hy11) b14 opds_nil) trivial <| cp (oMv tm) (s1 rfl) <| csB (nb hp12) rfl rfl <| csB (nb hp12) rfl rfl <| csB (nb hp12) rfl rfl <| csB (nb hp12) rfl rfl <| cp (oPkF (nb hp12) tm cB) (s1 rfl) <| cp (oMv tm) (s1 rfl) <| csB rfl rfl rfl <| csB rfl rfl rfl <| csB rfl rfl rfl <| csB rfl rfl rfl <| cp (oPkF rfl tm cB) (s1 rfl) <| cp (oMv tm) (s1 rfl) <| csB rfl rfl rfl <| csB rfl rfl rfl <| csB rfl rfl rfl <| csB rfl rfl rfl <| cp (oPkF rfl tm cB) (s1 rfl) <| cp (oAs tm) (s1 rfl) <| .nil) (by kernel_rfl) ?_
      exact pJ1 _ (so h) ⟨rfl, trivial⟩ rfl
  · rintro x10 rfl
    replace h := hk1
    refine wRet ?_
    obtain rfl := so h
    exact pR1 (.inl rfl) rfl (.tmp rfl <| .nil)
end Go.Proofs.YtkmobcaobmchpaaGreatDoor.SR
