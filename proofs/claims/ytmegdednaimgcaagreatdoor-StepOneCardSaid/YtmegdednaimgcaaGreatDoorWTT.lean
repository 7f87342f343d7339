import Derived.Test.YtmegdednaimgcaaGreatDoorCln
import Derived.Test.YtmegdednaimgcaaGreatDoorWTTp2
import Derived.Test.YtmegdednaimgcaaGreatDoorProg
set_option linter.unusedVariables false
set_option maxRecDepth 10000
set_option maxHeartbeats 2000000
set_option synthInstance.maxHeartbeats 200000
set_option synthInstance.maxSize 2000
namespace Go.Proofs.YtmegdednaimgcaaGreatDoor.TT
open Go Go.Proofs.YtmegdednaimgcaaGreatDoor.Ab

theorem reticentref09_Same.ok {a0 : api_State} {a1 : api_State} {r : Bool} (h : reticentref09_Same.f a0 a1 = some r) : FnA PP 11 [(kR f_api_State).sig a0, (kR f_api_State).sig a1] (kB.sig r) := by
 refine fnIntro Tryz.func11 u (by kernel_rfl) fun H0 w0 => ?_
 unfold reticentref09_Same.f at h
 refine wSeq <| rx (c3 <| .nil) <| pSeq <| wSeq ?_
 obtain ⟨o1, h, hk1⟩ := bd h
 refine wJ1 (fun x8 => x8 = o1) (fun x8 => [(2, .d (sP (kR f_api_State) a0)), (3, .d (sP (kR f_api_State) a1)), (43, .d (kB.sig x8))]) (fun x8 => []) ?_ ?_
 ·obtain ⟨hp9, h⟩ | ⟨hp9, h⟩ := ik h
  ·obtain ⟨y10, hy10, h⟩ := bd h
   obtain ⟨hp11, h⟩ | ⟨hp11, h⟩ := ik h
   ·exact rx (c4 <| cp (oRNe eqk30 u eg30 u tm tm) (s2 u u) <| c4 <| c1 <| cgB (nf hp9.1) u u (oCall u (reticentref08_Same.ok hy10) b30 (oc tm (oc tm o0))) (s2 u u) <| c12 <| c12 <| c3 <| .nil) <| pJ1 _ (so h) ⟨u, u, u, tv⟩ u
   ·obtain ⟨y12, hy12, h⟩ := bd h
    obtain ⟨hp13, h⟩ | ⟨hp13, h⟩ := ik h
    ·exact rx (c4 <| cp (oRNe eqk30 u eg30 u tm tm) (s2 u u) <| c4 <| c1 <| cgB (nf hp9.1) u u (oCall u (reticentref08_Same.ok hy10) b30 (oc tm (oc tm o0))) (s2 u u) <| c6 <| c1 <| cgB (nb hp11.1) u u (oCall u (reticentref09_AtomsSame.ok hy12) b31 (oc tm (oc tm o0))) (s2 u u) <| c12 <| c6 <| c1 <| .nil) <| pJ1 _ (so h) ⟨u, u, u, tv⟩ u
    ·obtain ⟨y14, hy14, h⟩ := bd h
     obtain ⟨hp15, h⟩ | ⟨hp15, h⟩ := ik h
     ·exact rx (c4 <| cp (oRNe eqk30 u eg30 u tm tm) (s2 u u) <| c4 <| c1 <| cgB (nf hp9.1) u u (oCall u (reticentref08_Same.ok hy10) b30 (oc tm (oc tm o0))) (s2 u u) <| c6 <| c1 <| cgB (nb hp11.1) u u (oCall u (reticentref09_AtomsSame.ok hy12) b31 (oc tm (oc tm o0))) (s2 u u) <| c6 <| c1 <| cgB (nb hp13.1) u u (oCall u (reticentref09_AtomsSame.ok hy14) b31 (oc tm (oc tm o0))) (s2 u u) <| c8 <| c3 <| .nil) <| pJ1 _ (so h) ⟨u, u, u, tv⟩ u
     ·exact rx (c4 <| cp (oRNe eqk30 u eg30 u tm tm) (s2 u u) <| c4 <| c1 <| cgB (nf hp9.1) u u (oCall u (reticentref08_Same.ok hy10) b30 (oc tm (oc tm o0))) (s2 u u) <| c6 <| c1 <| cgB (nb hp11.1) u u (oCall u (reticentref09_AtomsSame.ok hy12) b31 (oc tm (oc tm o0))) (s2 u u) <| c6 <| c1 <| cgB (nb hp13.1) u u (oCall u (reticentref09_AtomsSame.ok hy14) b31 (oc tm (oc tm o0))) (s2 u u) <| c8 <| c3 <| .nil) <| pJ1 _ (so h) ⟨u, u, u, tv⟩ u
  ·exact rx (c4 <| cp (oRNe eqk30 u eg30 u tm tm) (s2 u u) <| c12 <| c12 <| c8 <| c1 <| .nil) <| pJ1 _ (so h) ⟨u, u, u, tv⟩ u
 ·rintro x8 rfl
  replace h := hk1
  obtain ⟨hp16, h⟩ | ⟨hp16, h⟩ := ik h
  ·refine wBT hp16.1 tm (s1 u) <| wSeq <| rx (c1 <| .nil) <| pSeq <| wRet <| pThenR ?_
   obtain rfl := so h
   exact pR1 (.inl u) u (.tmp u <| .nil)
  ·refine wBF hp16.1 tm (s1 u) <| wSkip <| pSeq <| wSeq <| wSeq <| rx (c4 <| .nil) <| pSeq ?_
   obtain ⟨o1, h, hk1⟩ := bd h
   refine wK0 (.inr () = o1) ([]) ([]) ?_ ?_
   ·refine wBlock (wLoop ?_)
    refine lW (pc1 o1 (fun v25 => [(2, .d (sP (kR f_api_State) a0)), (3, .d (sP (kR f_api_State) a1)), (46, .d (ki.sig (a0.Stack.length : Int))), (47, .d (ki.sig v25))]) (fun v25 => []) (reticentref09_Same.l0.partial_correctness a0 a1) ?_ _ h) ⟨u, u, u, u, tv⟩ u
    clear h
    intro f' ih v25 h
    refine wSeq <| rx (c1 <| .nil) <| pSeq <| wSeq ?_
    obtain ⟨hp26, h⟩ | ⟨hp26, h⟩ := ik h
    ·refine wCT hp26.1 tm (s1 u) <| wSkip <| pSeq <| wSeq <| wBlock <| wSeq <| rx (c2 <| .nil) <| pSeq <| wSeq ?_
     obtain ⟨y27, hy27, h⟩ := bd h
     obtain ⟨y28, hy28, h⟩ := bd h
     refine rgD hm (c3 <| cp (oIdx u33 z76 hy27 tm tm) (s2 u u) <| c4 <| cp (oIdx u33 z76 hy28 tm tm) (s2 u u) <| c1 <| cp (oRNe eqk76 u eg76 u tm tm) (s2 u u) <| .nil) (by kernel_rfl) (by kernel_rfl) <| pSeq ?_
     obtain ⟨hp29, h⟩ | ⟨hp29, h⟩ := ik h
     ·exact wNT hp29.1 tm (s1 u) <| wSkip <| pBlkN <| pSeq <| rx (c2 <| .nil) <| pLoop (lW (ih _ h) ⟨u, u, u, u, tv⟩ u)
     ·refine wNF hp29.1 tm (s1 u) <| wSeq <| rx (c1 <| .nil) <| pSeq <| wRet <| pBlkR <| pThenR <| pThenR <| pBlkR <| pThenR ?_
      obtain rfl := so h
      replace h := hk1
      refine pThenR ?_
      obtain rfl := so h
      exact pR1 (.inl u) u (.tmp u <| .nil)
    ·exact wCF hp26.1 tm (s1 u) <| wExit <| pThenX <| pThenX <| pBlkX <| pJ0 (so h) tv u
   ·rintro rfl
    replace h := hk1
    refine pSeq <| wSeq <| rx (c1 <| .nil) <| pSeq <| wRet ?_
    obtain rfl := so h
    exact pR1 (.inl u) u (.tmp u <| .nil)
theorem reticentref01_Bottom.ok {a0 : api_Lattice} {r : Int} (h : reticentref01_Bottom.f a0 = some r) : FnA PP 70 [(kR f_api_Lattice).sig a0] (ki.sig r) := by
 refine fnIntro Tryz.func70 u (by kernel_rfl) fun H0 w0 => ?_
 unfold reticentref01_Bottom.f at h
 refine wSeq <| rx (c2 <| .nil) <| pSeq <| wSeq <| rx (c1 <| .nil) <| pSeq <| wSeq <| wSeq <| rx (c4 <| .nil) <| pSeq ?_
 obtain ⟨o1, h, hk1⟩ := bd h
 refine wK1 (fun x7 => x7 = o1) (fun x7 => [(3, .d (ki.sig x7))]) (fun x7 => []) ?_ ?_
 ·refine wBlock (wLoop ?_)
  refine lW (pc2 o1 (fun v5 v6 => [(1, .d (sP (kR f_api_Lattice) a0)), (3, .d (ki.sig v5)), (7, .d (ki.sig (a0.Up.length : Int))), (8, .d (ki.sig v6))]) (fun v5 v6 => []) (reticentref01_Bottom.l0.partial_correctness a0) ?_ _ _ h) ⟨u, u, u, u, tv⟩ u
  clear h
  intro f' ih v5 v6 h
  refine wSeq <| rx (c1 <| .nil) <| pSeq <| wSeq ?_
  obtain ⟨hp8, h⟩ | ⟨hp8, h⟩ := ik h
  ·refine wCT hp8.1 tm (s1 u) <| wSkip <| pSeq <| wSeq <| wBlock <| wSeq <| rx (c2 <| .nil) <| pSeq ?_
   obtain ⟨y9, hy9, h⟩ := bd h
   exact rx (c3 <| cC (reticentref01_Meet.ok hy9) b64 <| c1 <| .nil) <| pBlkN <| pSeq <| rx (c2 <| .nil) <| pLoop (lW (ih _ _ h) ⟨u, u, u, u, tv⟩ u)
  ·exact wCF hp8.1 tm (s1 u) <| wExit <| pThenX <| pThenX <| pBlkX <| pJ1 _ (so h) ⟨u, tv⟩ u
 ·rintro x7 rfl
  replace h := hk1
  refine pSeq <| wSeq <| rx (c2 <| .nil) <| pSeq <| wRet ?_
  obtain rfl := so h
  exact pR1 (.inl u) u (.tmp u <| .nil)
theorem reticentref10_takes.ok {a0 : api_Instr} {r : Int} (h : reticentref10_takes.f a0 = some r) : FnA PP 71 [(kR f_api_Instr).sig a0] (ki.sig r) := by
 refine fnIntro Tryz.func71 u (by kernel_rfl) fun H0 w0 => ?_
 unfold reticentref10_takes.f at h
 refine wSeq <| rx (c2 <| .nil) <| pSeq <| wSeq <| wSeq <| rx (c3 <| .nil) <| pSeq ?_
 obtain ⟨hp1, h⟩ | ⟨hp1, h⟩ := ik h
 ·refine wCT hp1.1 tm (s1 u) <| wSeq <| rx (c3 <| .nil) <| pSeq <| wRet <| pThenR ?_
  obtain rfl := so h
  exact pR1 (.inl u) u (.tmp u <| .nil)
 ·refine wCF hp1.1 tm (s1 u) <| wSkip <| pSeq <| wSeq ?_
  obtain ⟨y2, hy2, h⟩ := bd h
  refine rx (cp (oLit (d := ki) el59 (by decide) u u u (e1 (cI (by decide)) (e1 (cI (by decide)) (e1 (cI (by decide)) (e1 (cI (by decide)) (e1 (cI (by decide)) (e1 (cI (by decide)) (e1 (cI (by decide)) (e1 (cI (by decide)) (e1 (cI (by decide)) (e1 (cI (by decide)) (e1 (cI (by decide)) (e1 (cI (by decide)) (e1 (cI (by decide)) e0)))))))))))))) tv <| c2 <| cp (oIdx u59 z3 hy2 tm tm) (s2 u u) <| c2 <| .nil) <| pSeq <| wRet ?_
  obtain rfl := so h
  exact pR1 (.inl u) u (.tmp u <| .nil)
theorem reticentref10_atom.ok {a0 : api_State} {a1 : Int} {r : Bool} (h : reticentref10_atom.f a0 a1 = some r) : FnA PP 72 [(kR f_api_State).sig a0, ki.sig a1] (kB.sig r) := by
 refine fnIntro Tryz.func72 u (by kernel_rfl) fun H0 w0 => ?_
 unfold reticentref10_atom.f at h
 refine wSeq <| rx (c2 <| .nil) <| pSeq <| wSeq <| rx (c6 <| c1 <| .nil) <| pSeq ?_
 obtain ⟨o1, h, hk1⟩ := bd h
 refine wJ1 (fun x3 => x3 = o1) (fun x3 => [(4, .d (kB.sig x3))]) (fun x3 => []) ?_ ?_
 ·obtain ⟨hp4, h⟩ | ⟨hp4, h⟩ := ik h
  ·obtain ⟨y5, hy5, h⟩ := bd h
   exact rx (c6 <| cgB (dT hp4.1) u u (oIdx u33 z76 hy5 tm tm) (s2 u u) <| c4 <| c1 <| .nil) <| pJ1 _ (so h) ⟨u, tv⟩ u
  ·exact rx (c12 <| .nil) <| pJ1 _ (so h) ⟨u, tv⟩ u
 ·rintro x3 rfl
  replace h := hk1
  refine wRet ?_
  obtain rfl := so h
  exact pR1 (.inl u) u (.tmp u <| .nil)
theorem reticentref10_frame.ok {a0 : api_State} {a1 : Int} {r : Int} (h : reticentref10_frame.f a0 a1 = some r) : FnA PP 73 [(kR f_api_State).sig a0, ki.sig a1] (ki.sig r) := by
 refine fnIntro Tryz.func73 u (by kernel_rfl) fun H0 w0 => ?_
 unfold reticentref10_frame.f at h
 refine wSeq <| rx (c2 <| .nil) <| pSeq <| wSeq <| wSeq <| rx (c3 <| .nil) <| pSeq ?_
 obtain ⟨o1, h, hk1⟩ := bd h
 refine wK0 (.inr () = o1) ([]) ([]) ?_ ?_
 ·refine wBlock (wLoop ?_)
  refine lW (pc1 o1 (fun v7 => [(2, .d (sP (kR f_api_State) a0)), (5, .d (ki.sig v7))]) (fun v7 => []) (reticentref10_frame.l0.partial_correctness a0) ?_ _ h) ⟨u, u, tv⟩ u
  clear h
  intro f' ih v7 h
  refine wSeq <| wSeq <| rx (c2 <| .nil) <| pSeq ?_
  obtain ⟨hp8, h⟩ | ⟨hp8, h⟩ := ik h
  ·refine wCT hp8.1 tm (s1 u) <| wSkip <| pSeq <| wSeq <| wBlock <| wSeq ?_
   obtain ⟨y9, hy9, h⟩ := bd h
   refine rx (c3 <| cp (oIdx u33 z76 hy9 tm tm) (s2 u u) <| c2 <| .nil) <| pSeq ?_
   obtain ⟨hp10, h⟩ | ⟨hp10, h⟩ := ik h
   ·refine wBT hp10.1 tm (s1 u) <| wSeq <| rx (c2 <| .nil) <| pSeq <| wRet <| pBlkR <| pThenR <| pThenR <| pBlkR <| pThenR ?_
    obtain rfl := so h
    replace h := hk1
    refine pThenR ?_
    obtain rfl := so h
    exact pR1 (.inl u) u (.tmp u <| .nil)
   ·exact wBF hp10.1 tm (s1 u) <| wSkip <| pBlkN <| pSeq <| rx (c3 <| .nil) <| pLoop (lW (ih _ h) ⟨u, u, tv⟩ u)
  ·exact wCF hp8.1 tm (s1 u) <| wExit <| pThenX <| pThenX <| pBlkX <| pJ0 (so h) tv u
 ·rintro rfl
  replace h := hk1
  refine pSeq <| wSeq <| rx (c1 <| .nil) <| pSeq <| wRet ?_
  obtain rfl := so h
  exact pR1 (.inl u) u (.tmp u <| .nil)
theorem reticentref10_Needs.ok {a0 : api_Lattice} {a1 : api_State} {r : reticentref10_N} (h : reticentref10_Needs.f a0 a1 = some r) : FnA PP 32 [(kR f_api_Lattice).sig a0, (kR f_api_State).sig a1] ((kR f_reticentref10_N).sig r) := by
 refine fnIntro Tryz.func32 u (by kernel_rfl) fun H0 w0 => ?_
 unfold reticentref10_Needs.f at h
 refine wSeq <| rx (c2 <| cw (oAlloc (id := 4) (ls := Z80) ze80 zl80) tv <| .nil) <| pSeq <| wSeq ?_
 obtain ⟨y1, hy1, h⟩ := bd h
 refine rx (c4 <| c1 <| cp (oIdx u31 z74 hy1 tm tm) (s2 u u) <| c1 <| cw (oAlloc (id := 5) (ls := Z74) ze74 zl74) tv <| cwn (oStA (n := 0) (fs := f_api_Instr) u u z74 tm tm) (s2 u u) <| .nil) <| pSeq <| wSeq ?_
 obtain ⟨y2, hy2, h⟩ := bd h
 refine rx (c1 <| cC (reticentref01_Bottom.ok hy2) b70 <| c1 <| .nil) <| pSeq <| wSeq ?_
 obtain ⟨y3, hy3, h⟩ := bd h
 refine rgL hm (c6 <| cl [] u (oLdA (n := 0) (fs := f_api_Instr) (u := ⟨y1.Op, y1.N, y1.L⟩) u ⟨u, u, u, tv⟩ t74 tm) (s1 u) <| cC (reticentref10_takes.ok hy3) b71 <| c1 <| cp (oBuild (fs := f_reticentref10_N) (u := ⟨false, (⟨false, 0, 0⟩ : api_Slot), (⟨false, 0, 0⟩ : api_Slot), (⟨false, 0, 0⟩ : api_Slot), y2, y2, y2, IntKind.i64.wrap ((a1.Stack.length : Int) - y3)⟩) u ze80 pl80 po80 (.ze (zc := [(.bool false)]) zB (.ze (zc := [(.bool false), (.int .i64 0), (.int .i64 0)]) zR_api_Slot (.ze (zc := [(.bool false), (.int .i64 0), (.int .i64 0)]) zR_api_Slot (.ze (zc := [(.bool false), (.int .i64 0), (.int .i64 0)]) zR_api_Slot (.op (zc := [(.int .i64 0)]) tm u (.op (zc := [(.int .i64 0)]) tm u (.op (zc := [(.int .i64 0)]) tm u (.op (zc := [(.int .i64 0)]) tm u .nil))))))))) ⟨u, u, u, u, tv⟩ <| cn (oAlloc (id := 7) (ls := Z80) ze80 zl80) tv <| cwn (oStP (n := 0) (k := 0) (m := 14) (d := (kR f_reticentref10_N)) (u := (⟨false, (⟨false, 0, 0⟩ : api_Slot), (⟨false, 0, 0⟩ : api_Slot), (⟨false, 0, 0⟩ : api_Slot), y2, y2, y2, IntKind.i64.wrap ((a1.Stack.length : Int) - y3)⟩ : reticentref10_N)) pt80 u u u z80 tm tm) (s2 u u) <| .nil) (by kernel_rfl) (by kernel_rfl) (by kernel_rfl) <| pSeq <| wSeq <| wSeq <| rx (c1 <| .nil) <| pSeq ?_
 obtain ⟨o1, h, hk1⟩ := bd h
 refine wK0 (.inr () = o1) ([(3, .d (sP (kR f_api_State) a1)), (4, .p 4 0), (5, .p 5 0), (7, .p 7 0)]) ([.box 7 80 [.d kB false, .d kB false, .d ki 0, .d ki 0, .d kB false, .d ki 0, .d ki 0, .d kB false, .d ki 0, .d ki 0, .d ki y2, .d ki y2, .d ki y2, .d ki (IntKind.i64.wrap ((a1.Stack.length : Int) - y3))], .box 5 74 (L74 y1), .box 4 80 [.d kB false, .d kB false, .d ki 0, .d ki 0, .d kB false, .d ki 0, .d ki 0, .d kB false, .d ki 0, .d ki 0, .d ki 0, .d ki 0, .d ki 0, .d ki 0]]) ?_ ?_
 ·refine wBlock (wLoop ?_)
  refine lW (pc1 o1 (fun v12 => [(3, .d (sP (kR f_api_State) a1)), (4, .p 4 0), (5, .p 5 0), (7, .p 7 0), (8, .d (ki.sig v12))]) (fun v12 => [.box 7 80 [.d kB false, .d kB false, .d ki 0, .d ki 0, .d kB false, .d ki 0, .d ki 0, .d kB false, .d ki 0, .d ki 0, .d ki y2, .d ki y2, .d ki y2, .d ki (IntKind.i64.wrap ((a1.Stack.length : Int) - y3))], .box 5 74 (L74 y1), .box 4 80 [.d kB false, .d kB false, .d ki 0, .d ki 0, .d kB false, .d ki 0, .d ki 0, .d kB false, .d ki 0, .d ki 0, .d ki 0, .d ki 0, .d ki 0, .d ki 0]]) (reticentref10_Needs.l0.partial_correctness a1 y1) ?_ _ h) ⟨u, u, u, u, u, tv⟩ u
  clear h
  intro f' ih v12 h
  refine wSeq <| wSeq ?_
  obtain ⟨y13, hy13, h⟩ := bd h
  refine rx (c1 <| cr (oLdA (n := 1) (fs := f_api_Instr) (u := ⟨y1.Op, y1.N, y1.L⟩) u ⟨u, u, u, tv⟩ t74 tm) (s1 u) <| cC (reticentref10_takes.ok hy13) b71 <| c1 <| .nil) <| pSeq ?_
  obtain ⟨hp14, h⟩ | ⟨hp14, h⟩ := ik h
  ·refine wCT hp14.1 tm (s1 u) <| wSkip <| pSeq <| wSeq <| wBlock <| wSeq ?_
   obtain ⟨y15, hy15, h⟩ := bd h
   refine rx (c2 <| cC (reticentref10_atom.ok hy15) b72 <| c1 <| .nil) <| pSeq ?_
   obtain ⟨hp16, h⟩ | ⟨hp16, h⟩ := ik h
   ·refine wBT hp16.1 tm (s1 u) <| wSeq <| rx (cp (oBuild (fs := f_reticentref10_N) (u := ⟨false, (⟨false, 0, 0⟩ : api_Slot), (⟨false, 0, 0⟩ : api_Slot), (⟨false, 0, 0⟩ : api_Slot), 0, 0, 0, 0⟩) u ze80 pl80 po80 (.ze (zc := [(.bool false)]) zB (.ze (zc := [(.bool false), (.int .i64 0), (.int .i64 0)]) zR_api_Slot (.ze (zc := [(.bool false), (.int .i64 0), (.int .i64 0)]) zR_api_Slot (.ze (zc := [(.bool false), (.int .i64 0), (.int .i64 0)]) zR_api_Slot (.ze (zc := [(.int .i64 0)]) zI_i64 (.ze (zc := [(.int .i64 0)]) zI_i64 (.ze (zc := [(.int .i64 0)]) zI_i64 (.ze (zc := [(.int .i64 0)]) zI_i64 .nil))))))))) tv <| cwn (oStP (n := 2) (k := 0) (m := 14) (d := (kR f_reticentref10_N)) (u := (⟨false, (⟨false, 0, 0⟩ : api_Slot), (⟨false, 0, 0⟩ : api_Slot), (⟨false, 0, 0⟩ : api_Slot), 0, 0, 0, 0⟩ : reticentref10_N)) pt80 u u u z80 tm tm) (s2 u u) <| .nil) <| pSeq <| wRet <| pBlkR <| pThenR <| pThenR <| pBlkR <| pThenR ?_
    obtain rfl := so h
    replace h := hk1
    refine pThenR ?_
    obtain rfl := so h
    exact pR1 (.inl u) u (.boxP (n := 2) (d := (kR f_reticentref10_N)) (u := (⟨false, ⟨false, 0, 0⟩, ⟨false, 0, 0⟩, ⟨false, 0, 0⟩, 0, 0, 0, 0⟩ : reticentref10_N)) u u pt80 u t80 <| .nil)
   ·exact wBF hp16.1 tm (s1 u) <| wSkip <| pBlkN <| pSeq <| rx (c3 <| .nil) <| pLoop (lW (ih _ h) ⟨u, u, u, u, u, tv⟩ u)
  ·exact wCF hp14.1 tm (s1 u) <| wExit <| pThenX <| pThenX <| pBlkX <| pJ0 (so h) ⟨u, u, u, u, tv⟩ u
 ·rintro rfl
  replace h := hk1
  refine pSeq ?_
  obtain ⟨o1, h, hk1⟩ := bd h
  refine wJ1 (fun x20 => x20 = o1) (fun x20 => [(3, .d (sP (kR f_api_State) a1)), (4, .p 4 0), (5, .p 5 0), (7, .p 7 0)]) (fun x20 => [.box 7 80 (L80 x20), .box 5 74 (L74 y1), .box 4 80 [.d kB false, .d kB false, .d ki 0, .d ki 0, .d kB false, .d ki 0, .d ki 0, .d kB false, .d ki 0, .d ki 0, .d ki 0, .d ki 0, .d ki 0, .d ki 0]]) ?_ ?_
  ·refine wSeq ?_
   obtain ⟨y21, hy21, h⟩ := bd h
   refine rx (cr (oLdA (n := 1) (fs := f_api_Instr) (u := ⟨y1.Op, y1.N, y1.L⟩) u ⟨u, u, u, tv⟩ t74 tm) (s1 u) <| cC (reticentref10_takes.ok hy21) b71 <| c1 <| .nil) <| pSeq ?_
   obtain ⟨hp22, h⟩ | ⟨hp22, h⟩ := ik h
   ·refine wCT hp22.1 tm (s1 u) <| wSeq ?_
    obtain ⟨y23, hy23, h⟩ := bd h
    exact rx (c6 <| cp (oIdx u33 z76 hy23 tm tm) (s2 u u) <| c2 <| cwn (oStP (n := 0) (k := 1) (m := 3) (d := (kR f_api_Slot)) (u := y23) pt76 u u u z76 tm tm) (s2 u u) <| .nil) <| pSeq <| rx (c2 <| cr (oLdB (n := 0) (k := 3) u u u t3 tm) (s1 u) <| c1 <| cwn (oSt (n := 0) (k := 10) u u u u z3 tm tm) (s2 u u) <| .nil) <| pJ1 _ (so h) ⟨u, u, u, u, tv⟩ u
   ·exact wCF hp22.1 tm (s1 u) <| wSkip <| pJ1 _ (so h) ⟨u, u, u, u, tv⟩ u
  ·rintro x20 rfl
   replace h := hk1
   obtain ⟨o1, h, hk1⟩ := bd h
   refine wJ1 (fun x27 => x27 = o1) (fun x27 => [(3, .d (sP (kR f_api_State) a1)), (4, .p 4 0), (5, .p 5 0), (7, .p 7 0)]) (fun x27 => [.box 7 80 (L80 x27), .box 5 74 (L74 y1), .box 4 80 [.d kB false, .d kB false, .d ki 0, .d ki 0, .d kB false, .d ki 0, .d ki 0, .d kB false, .d ki 0, .d ki 0, .d ki 0, .d ki 0, .d ki 0, .d ki 0]]) ?_ ?_
   ·refine wSeq ?_
    obtain ⟨y28, hy28, h⟩ := bd h
    refine rx (cr (oLdA (n := 1) (fs := f_api_Instr) (u := ⟨y1.Op, y1.N, y1.L⟩) u ⟨u, u, u, tv⟩ t74 tm) (s1 u) <| cC (reticentref10_takes.ok hy28) b71 <| c1 <| .nil) <| pSeq ?_
    obtain ⟨hp29, h⟩ | ⟨hp29, h⟩ := ik h
    ·refine wCT hp29.1 tm (s1 u) <| wSeq ?_
     obtain ⟨y30, hy30, h⟩ := bd h
     exact rx (c6 <| cp (oIdx u33 z76 hy30 tm tm) (s2 u u) <| c2 <| cwn (oStP (n := 0) (k := 4) (m := 3) (d := (kR f_api_Slot)) (u := y30) pt76 u u u z76 tm tm) (s2 u u) <| .nil) <| pSeq <| rx (c2 <| cr (oLdB (n := 0) (k := 6) u u u t3 tm) (s1 u) <| c1 <| cwn (oSt (n := 0) (k := 11) u u u u z3 tm tm) (s2 u u) <| .nil) <| pJ1 _ (so h) ⟨u, u, u, u, tv⟩ u
    ·exact wCF hp29.1 tm (s1 u) <| wSkip <| pJ1 _ (so h) ⟨u, u, u, u, tv⟩ u
   ·rintro x27 rfl
    replace h := hk1
    refine wSeq <| rx (c1 <| cwn (oSt (n := 0) (k := 0) u u u u z4 tm cB) (s1 u) <| .nil) <| pSeq ?_
    obtain ⟨o1, h, hk1⟩ := bd h
    refine wJ1 (fun x100 => .inr x100 = o1) (fun x100 => [(4, .p 4 0), (7, .p 7 0)]) (fun x100 => [.box 7 80 (L80 x100), .box 5 74 (L74 y1), .box 4 80 [.d kB false, .d kB false, .d ki 0, .d ki 0, .d kB false, .d ki 0, .d ki 0, .d kB false, .d ki 0, .d ki 0, .d ki 0, .d ki 0, .d ki 0, .d ki 0]]) ?_ ?_
    ·refine wSeq <| rx (c1 <| cr (oLdB (n := 1) (k := 0) u u u t3 tm) (s1 u) <| .nil) <| pSeq ?_
     obtain ⟨o2, h, hk2⟩ := bd h
     refine wK1 (fun x135 => .inr x135 = o2) (fun x135 => [(4, .p 4 0), (7, .p 7 0)]) (fun x135 => [.box 7 80 (L80 x135), .box 5 74 (L74 y1), .box 4 80 [.d kB false, .d kB false, .d ki 0, .d ki 0, .d kB false, .d ki 0, .d ki 0, .d kB false, .d ki 0, .d ki 0, .d ki 0, .d ki 0, .d ki 0, .d ki 0]]) ?_ ?_
     ·refine wBlock <| wSeq <| rx (c2 <| .nil) <| pSeq ?_
      obtain ⟨hp136, h⟩ | ⟨hp136, h⟩ := ik h
      ·exact wCT hp136.1 tm (s1 u) <| rx (c1 <| cr (oLdB (n := 1) (k := 2) u u u t3 tm) (s1 u) <| c1 <| cwn (oSt (n := 0) (k := 10) u u u u z3 tm tm) (s2 u u) <| .nil) <| pBlkN <| pJ1 _ (so h) ⟨u, u, tv⟩ u
      ·refine wCF hp136.1 tm (s1 u) ?_
       obtain ⟨o3, h, hk3⟩ := bd h
       refine wJ1 (fun x138 => x138 = o3) (fun x138 => [(3, .d (sP (kR f_api_State) a1)), (4, .p 4 0), (5, .p 5 0), (7, .p 7 0), (75, .d (ki.sig y1.Op)), (81, .d (kB.sig x138))]) (fun x138 => [.box 7 80 [.d kB true, .d kB x27.A.Ret, .d ki x27.A.V, .d ki x27.A.L, .d kB x27.B.Ret, .d ki x27.B.V, .d ki x27.B.L, .d kB x27.R.Ret, .d ki x27.R.V, .d ki x27.R.L, .d ki x27.One, .d ki x27.Two, .d ki x27.Three, .d ki x27.Below], .box 5 74 (L74 y1), .box 4 80 [.d kB false, .d kB false, .d ki 0, .d ki 0, .d kB false, .d ki 0, .d ki 0, .d kB false, .d ki 0, .d ki 0, .d ki 0, .d ki 0, .d ki 0, .d ki 0]]) ?_ ?_
       ·refine wSeq <| rx (c2 <| .nil) <| pSeq ?_
        obtain ⟨hp139, h⟩ | ⟨hp139, h⟩ := ik h
        ·exact wCT hp139.1 tm (s1 u) <| wSkip <| pJ1 _ (so h) ⟨u, u, u, u, u, u, tv⟩ u
        ·exact wCF hp139.1 tm (s1 u) <| rx (c2 <| .nil) <| pJ1 _ (so h) ⟨u, u, u, u, u, u, tv⟩ u
       ·rintro x138 rfl
        replace h := hk3
        obtain ⟨hp140, h⟩ | ⟨hp140, h⟩ := ik h
        ·refine wBT hp140.1 tm (s1 u) <| wSeq ?_
         obtain ⟨o3, h, hk3⟩ := bd h
         refine wJ1 (fun x142 => x142 = o3) (fun x142 => [(3, .d (sP (kR f_api_State) a1)), (4, .p 4 0), (5, .p 5 0), (7, .p 7 0), (96, .d (kB.sig x142))]) (fun x142 => [.box 7 80 [.d kB true, .d kB x27.A.Ret, .d ki x27.A.V, .d ki x27.A.L, .d kB x27.B.Ret, .d ki x27.B.V, .d ki x27.B.L, .d kB x27.R.Ret, .d ki x27.R.V, .d ki x27.R.L, .d ki x27.One, .d ki x27.Two, .d ki x27.Three, .d ki x27.Below], .box 5 74 (L74 y1), .box 4 80 [.d kB false, .d kB false, .d ki 0, .d ki 0, .d kB false, .d ki 0, .d ki 0, .d kB false, .d ki 0, .d ki 0, .d ki 0, .d ki 0, .d ki 0, .d ki 0]]) ?_ ?_
         ·obtain ⟨hp143, h⟩ | ⟨hp143, h⟩ := ik h
          ·exact rx (c2 <| cr (oLdB (n := 0) (k := 2) u u u t3 tm) (s1 u) <| c8 <| c2 <| .nil) <| pJ1 _ (so h) ⟨u, u, u, u, u, tv⟩ u
          ·exact rx (c2 <| cr (oLdB (n := 0) (k := 2) u u u t3 tm) (s1 u) <| c4 <| crgB (dF hp143.1) u u (oLdB (n := 0) (k := 2) u u u t3 tm) (s1 u) <| c4 <| c1 <| .nil) <| pJ1 _ (so h) ⟨u, u, u, u, u, tv⟩ u
         ·rintro x142 rfl
          replace h := hk3
          obtain ⟨hp144, h⟩ | ⟨hp144, h⟩ := ik h
          ·refine wBT hp144.1 tm (s1 u) <| wSeq <| rx (cp (oBuild (fs := f_reticentref10_N) (u := ⟨false, (⟨false, 0, 0⟩ : api_Slot), (⟨false, 0, 0⟩ : api_Slot), (⟨false, 0, 0⟩ : api_Slot), 0, 0, 0, 0⟩) u ze80 pl80 po80 (.ze (zc := [(.bool false)]) zB (.ze (zc := [(.bool false), (.int .i64 0), (.int .i64 0)]) zR_api_Slot (.ze (zc := [(.bool false), (.int .i64 0), (.int .i64 0)]) zR_api_Slot (.ze (zc := [(.bool false), (.int .i64 0), (.int .i64 0)]) zR_api_Slot (.ze (zc := [(.int .i64 0)]) zI_i64 (.ze (zc := [(.int .i64 0)]) zI_i64 (.ze (zc := [(.int .i64 0)]) zI_i64 (.ze (zc := [(.int .i64 0)]) zI_i64 .nil))))))))) tv <| cwn (oStP (n := 2) (k := 0) (m := 14) (d := (kR f_reticentref10_N)) (u := (⟨false, (⟨false, 0, 0⟩ : api_Slot), (⟨false, 0, 0⟩ : api_Slot), (⟨false, 0, 0⟩ : api_Slot), 0, 0, 0, 0⟩ : reticentref10_N)) pt80 u u u z80 tm tm) (s2 u u) <| .nil) <| pSeq <| wRet <| pThenR <| pBlkR <| pThenR ?_
           obtain rfl := so h
           replace h := hk2
           refine pThenR ?_
           obtain rfl := so h
           replace h := hk1
           obtain rfl := so h
           exact pR1 (.inl u) u (.boxP (n := 2) (d := (kR f_reticentref10_N)) (u := (⟨false, ⟨false, 0, 0⟩, ⟨false, 0, 0⟩, ⟨false, 0, 0⟩, 0, 0, 0, 0⟩ : reticentref10_N)) u u pt80 u t80 <| .nil)
          ·refine wBF hp144.1 tm (s1 u) <| wSkip <| pSeq <| wSeq <| rx (c1 <| cr (oLdB (n := 1) (k := 0) u u u t3 tm) (s1 u) <| c1 <| .nil) <| pSeq ?_
           obtain ⟨hp145, h⟩ | ⟨hp145, h⟩ := ik h
           ·refine wCT hp145.1 tm (s1 u) ?_
            obtain ⟨y146, hy146, h⟩ := bd h
            exact rx (c4 <| cr (oLdB (n := 0) (k := 2) u u u t3 tm) (s1 u) <| cp (oIdx u32 z30 hy146 tm tm) (s2 u u) <| c3 <| cwn (oSt (n := 0) (k := 11) u u u u z3 tm tm) (s2 u u) <| .nil) <| pBlkN <| pJ1 _ (so h) ⟨u, u, tv⟩ u
           ·refine wCF hp145.1 tm (s1 u) ?_
            obtain ⟨y147, hy147, h⟩ := bd h
            exact rx (c4 <| cr (oLdB (n := 0) (k := 2) u u u t3 tm) (s1 u) <| cp (oIdx u32 z30 hy147 tm tm) (s2 u u) <| c3 <| cwn (oSt (n := 0) (k := 12) u u u u z3 tm tm) (s2 u u) <| .nil) <| pBlkN <| pJ1 _ (so h) ⟨u, u, tv⟩ u
        ·refine wBF hp140.1 tm (s1 u) ?_
         obtain ⟨o3, h, hk3⟩ := bd h
         refine wJ1 (fun x149 => x149 = o3) (fun x149 => [(3, .d (sP (kR f_api_State) a1)), (4, .p 4 0), (5, .p 5 0), (7, .p 7 0), (75, .d (ki.sig y1.Op)), (119, .d (kB.sig x149))]) (fun x149 => [.box 7 80 [.d kB true, .d kB x27.A.Ret, .d ki x27.A.V, .d ki x27.A.L, .d kB x27.B.Ret, .d ki x27.B.V, .d ki x27.B.L, .d kB x27.R.Ret, .d ki x27.R.V, .d ki x27.R.L, .d ki x27.One, .d ki x27.Two, .d ki x27.Three, .d ki x27.Below], .box 5 74 (L74 y1), .box 4 80 [.d kB false, .d kB false, .d ki 0, .d ki 0, .d kB false, .d ki 0, .d ki 0, .d kB false, .d ki 0, .d ki 0, .d ki 0, .d ki 0, .d ki 0, .d ki 0]]) ?_ ?_
         ·refine wSeq <| rx (c2 <| .nil) <| pSeq ?_
          obtain ⟨hp150, h⟩ | ⟨hp150, h⟩ := ik h
          ·exact wCT hp150.1 tm (s1 u) <| wSkip <| pJ1 _ (so h) ⟨u, u, u, u, u, u, tv⟩ u
          ·exact wCF hp150.1 tm (s1 u) <| rx (c2 <| .nil) <| pJ1 _ (so h) ⟨u, u, u, u, u, u, tv⟩ u
         ·rintro x149 rfl
          replace h := hk3
          obtain ⟨hp151, h⟩ | ⟨hp151, h⟩ := ik h
          ·refine wBT hp151.1 tm (s1 u) <| wSeq ?_
           obtain ⟨o3, h, hk3⟩ := bd h
           refine wJ1 (fun x153 => x153 = o3) (fun x153 => [(3, .d (sP (kR f_api_State) a1)), (4, .p 4 0), (5, .p 5 0), (7, .p 7 0), (131, .d (kB.sig x153))]) (fun x153 => [.box 7 80 [.d kB true, .d kB x27.A.Ret, .d ki x27.A.V, .d ki x27.A.L, .d kB x27.B.Ret, .d ki x27.B.V, .d ki x27.B.L, .d kB x27.R.Ret, .d ki x27.R.V, .d ki x27.R.L, .d ki x27.One, .d ki x27.Two, .d ki x27.Three, .d ki x27.Below], .box 5 74 (L74 y1), .box 4 80 [.d kB false, .d kB false, .d ki 0, .d ki 0, .d kB false, .d ki 0, .d ki 0, .d kB false, .d ki 0, .d ki 0, .d ki 0, .d ki 0, .d ki 0, .d ki 0]]) ?_ ?_
           ·obtain ⟨hp154, h⟩ | ⟨hp154, h⟩ := ik h
            ·exact rx (c2 <| cr (oLdB (n := 0) (k := 2) u u u t3 tm) (s1 u) <| c6 <| c1 <| .nil) <| pJ1 _ (so h) ⟨u, u, u, u, u, tv⟩ u
            ·exact rx (c2 <| cr (oLdB (n := 0) (k := 2) u u u t3 tm) (s1 u) <| c4 <| crgB (dF hp154.1) u u (oLdB (n := 0) (k := 2) u u u t3 tm) (s1 u) <| c2 <| .nil) <| pJ1 _ (so h) ⟨u, u, u, u, u, tv⟩ u
           ·rintro x153 rfl
            replace h := hk3
            obtain ⟨hp155, h⟩ | ⟨hp155, h⟩ := ik h
            ·refine wBT hp155.1 tm (s1 u) <| wSeq <| rx (cp (oBuild (fs := f_reticentref10_N) (u := ⟨false, (⟨false, 0, 0⟩ : api_Slot), (⟨false, 0, 0⟩ : api_Slot), (⟨false, 0, 0⟩ : api_Slot), 0, 0, 0, 0⟩) u ze80 pl80 po80 (.ze (zc := [(.bool false)]) zB (.ze (zc := [(.bool false), (.int .i64 0), (.int .i64 0)]) zR_api_Slot (.ze (zc := [(.bool false), (.int .i64 0), (.int .i64 0)]) zR_api_Slot (.ze (zc := [(.bool false), (.int .i64 0), (.int .i64 0)]) zR_api_Slot (.ze (zc := [(.int .i64 0)]) zI_i64 (.ze (zc := [(.int .i64 0)]) zI_i64 (.ze (zc := [(.int .i64 0)]) zI_i64 (.ze (zc := [(.int .i64 0)]) zI_i64 .nil))))))))) tv <| cwn (oStP (n := 2) (k := 0) (m := 14) (d := (kR f_reticentref10_N)) (u := (⟨false, (⟨false, 0, 0⟩ : api_Slot), (⟨false, 0, 0⟩ : api_Slot), (⟨false, 0, 0⟩ : api_Slot), 0, 0, 0, 0⟩ : reticentref10_N)) pt80 u u u z80 tm tm) (s2 u u) <| .nil) <| pSeq <| wRet <| pThenR <| pBlkR <| pThenR ?_
             obtain rfl := so h
             replace h := hk2
             refine pThenR ?_
             obtain rfl := so h
             replace h := hk1
             obtain rfl := so h
             exact pR1 (.inl u) u (.boxP (n := 2) (d := (kR f_reticentref10_N)) (u := (⟨false, ⟨false, 0, 0⟩, ⟨false, 0, 0⟩, ⟨false, 0, 0⟩, 0, 0, 0, 0⟩ : reticentref10_N)) u u pt80 u t80 <| .nil)
            ·refine wBF hp155.1 tm (s1 u) <| wSkip <| pSeq <| wSeq <| rx (c1 <| .nil) <| pSeq ?_
             obtain ⟨o3, h, hk3⟩ := bd h
             refine wK0 (.inr () = o3) ([(4, .p 4 0), (7, .p 7 0)]) ([.box 7 80 [.d kB true, .d kB x27.A.Ret, .d ki x27.A.V, .d ki x27.A.L, .d kB x27.B.Ret, .d ki x27.B.V, .d ki x27.B.L, .d kB x27.R.Ret, .d ki x27.R.V, .d ki x27.R.L, .d ki x27.One, .d ki x27.Two, .d ki x27.Three, .d ki x27.Below], .box 5 74 (L74 y1), .box 4 80 [.d kB false, .d kB false, .d ki 0, .d ki 0, .d kB false, .d ki 0, .d ki 0, .d kB false, .d ki 0, .d ki 0, .d ki 0, .d ki 0, .d ki 0, .d ki 0]]) ?_ ?_
             ·refine wBlock (wLoop ?_)
              refine lW (pc1 o3 (fun v162 => [(3, .d (sP (kR f_api_State) a1)), (4, .p 4 0), (5, .p 5 0), (7, .p 7 0), (9, .d (ki.sig v162))]) (fun v162 => [.box 7 80 [.d kB true, .d kB x27.A.Ret, .d ki x27.A.V, .d ki x27.A.L, .d kB x27.B.Ret, .d ki x27.B.V, .d ki x27.B.L, .d kB x27.R.Ret, .d ki x27.R.V, .d ki x27.R.L, .d ki x27.One, .d ki x27.Two, .d ki x27.Three, .d ki x27.Below], .box 5 74 (L74 y1), .box 4 80 [.d kB false, .d kB false, .d ki 0, .d ki 0, .d kB false, .d ki 0, .d ki 0, .d kB false, .d ki 0, .d ki 0, .d ki 0, .d ki 0, .d ki 0, .d ki 0]]) (reticentref10_Needs.l4.partial_correctness a1 y1) ?_ _ h) ⟨u, u, u, u, u, tv⟩ u
              clear h
              intro f' ih v162 h
              refine wSeq <| wSeq <| rx (c2 <| cr (oLdB (n := 1) (k := 1) u u u t3 tm) (s1 u) <| c1 <| .nil) <| pSeq ?_
              obtain ⟨hp163, h⟩ | ⟨hp163, h⟩ := ik h
              ·refine wCT hp163.1 tm (s1 u) <| wSkip <| pSeq <| wSeq <| wBlock <| wSeq ?_
               obtain ⟨y164, hy164, h⟩ := bd h
               refine rx (c3 <| cC (reticentref10_atom.ok hy164) b72 <| c1 <| .nil) <| pSeq ?_
               obtain ⟨hp165, h⟩ | ⟨hp165, h⟩ := ik h
               ·refine wBT hp165.1 tm (s1 u) <| wSeq <| rx (cp (oBuild (fs := f_reticentref10_N) (u := ⟨false, (⟨false, 0, 0⟩ : api_Slot), (⟨false, 0, 0⟩ : api_Slot), (⟨false, 0, 0⟩ : api_Slot), 0, 0, 0, 0⟩) u ze80 pl80 po80 (.ze (zc := [(.bool false)]) zB (.ze (zc := [(.bool false), (.int .i64 0), (.int .i64 0)]) zR_api_Slot (.ze (zc := [(.bool false), (.int .i64 0), (.int .i64 0)]) zR_api_Slot (.ze (zc := [(.bool false), (.int .i64 0), (.int .i64 0)]) zR_api_Slot (.ze (zc := [(.int .i64 0)]) zI_i64 (.ze (zc := [(.int .i64 0)]) zI_i64 (.ze (zc := [(.int .i64 0)]) zI_i64 (.ze (zc := [(.int .i64 0)]) zI_i64 .nil))))))))) tv <| cwn (oStP (n := 2) (k := 0) (m := 14) (d := (kR f_reticentref10_N)) (u := (⟨false, (⟨false, 0, 0⟩ : api_Slot), (⟨false, 0, 0⟩ : api_Slot), (⟨false, 0, 0⟩ : api_Slot), 0, 0, 0, 0⟩ : reticentref10_N)) pt80 u u u z80 tm tm) (s2 u u) <| .nil) <| pSeq <| wRet <| pBlkR <| pThenR <| pThenR <| pBlkR <| pThenR ?_
                obtain rfl := so h
                replace h := hk3
                refine pBlkR <| pThenR ?_
                obtain rfl := so h
                replace h := hk2
                refine pThenR ?_
                obtain rfl := so h
                replace h := hk1
                obtain rfl := so h
                exact pR1 (.inl u) u (.boxP (n := 2) (d := (kR f_reticentref10_N)) (u := (⟨false, ⟨false, 0, 0⟩, ⟨false, 0, 0⟩, ⟨false, 0, 0⟩, 0, 0, 0, 0⟩ : reticentref10_N)) u u pt80 u t80 <| .nil)
               ·exact wBF hp165.1 tm (s1 u) <| wSkip <| pBlkN <| pSeq <| rx (c3 <| .nil) <| pLoop (lW (ih _ h) ⟨u, u, u, u, u, tv⟩ u)
              ·exact wCF hp163.1 tm (s1 u) <| wExit <| pThenX <| pThenX <| pBlkX <| pJ0 (so h) ⟨u, u, tv⟩ u
             ·rintro rfl
              replace h := hk3
              exact pBlkN <| pJ1 _ (so h) ⟨u, u, tv⟩ u
          ·refine wBF hp151.1 tm (s1 u) <| wSeq <| rx (c2 <| .nil) <| pSeq ?_
           obtain ⟨hp166, h⟩ | ⟨hp166, h⟩ := ik h
           ·refine wCT hp166.1 tm (s1 u) <| wSeq ?_
            obtain ⟨y167, hy167, h⟩ := bd h
            refine rx (c2 <| cr (oLdB (n := 0) (k := 13) u u u t3 tm) (s1 u) <| cC (reticentref10_frame.ok hy167) b73 <| c1 <| .nil) <| pSeq <| wSeq <| wSeq <| rx (c2 <| .nil) <| pSeq ?_
            obtain ⟨hp168, h⟩ | ⟨hp168, h⟩ := ik h
            ·refine wCT hp168.1 tm (s1 u) <| wSeq <| rx (cp (oBuild (fs := f_reticentref10_N) (u := ⟨false, (⟨false, 0, 0⟩ : api_Slot), (⟨false, 0, 0⟩ : api_Slot), (⟨false, 0, 0⟩ : api_Slot), 0, 0, 0, 0⟩) u ze80 pl80 po80 (.ze (zc := [(.bool false)]) zB (.ze (zc := [(.bool false), (.int .i64 0), (.int .i64 0)]) zR_api_Slot (.ze (zc := [(.bool false), (.int .i64 0), (.int .i64 0)]) zR_api_Slot (.ze (zc := [(.bool false), (.int .i64 0), (.int .i64 0)]) zR_api_Slot (.ze (zc := [(.int .i64 0)]) zI_i64 (.ze (zc := [(.int .i64 0)]) zI_i64 (.ze (zc := [(.int .i64 0)]) zI_i64 (.ze (zc := [(.int .i64 0)]) zI_i64 .nil))))))))) tv <| cwn (oStP (n := 2) (k := 0) (m := 14) (d := (kR f_reticentref10_N)) (u := (⟨false, (⟨false, 0, 0⟩ : api_Slot), (⟨false, 0, 0⟩ : api_Slot), (⟨false, 0, 0⟩ : api_Slot), 0, 0, 0, 0⟩ : reticentref10_N)) pt80 u u u z80 tm tm) (s2 u u) <| .nil) <| pSeq <| wRet <| pThenR <| pBlkR <| pThenR ?_
             obtain rfl := so h
             replace h := hk2
             refine pThenR ?_
             obtain rfl := so h
             replace h := hk1
             obtain rfl := so h
             exact pR1 (.inl u) u (.boxP (n := 2) (d := (kR f_reticentref10_N)) (u := (⟨false, ⟨false, 0, 0⟩, ⟨false, 0, 0⟩, ⟨false, 0, 0⟩, 0, 0, 0, 0⟩ : reticentref10_N)) u u pt80 u t80 <| .nil)
            ·refine wCF hp168.1 tm (s1 u) <| wSkip <| pSeq <| wSeq ?_
             obtain ⟨y169, hy169, h⟩ := bd h
             exact rx (c3 <| cp (oIdx u33 z76 hy169 tm tm) (s2 u u) <| c2 <| cwn (oStP (n := 0) (k := 7) (m := 3) (d := (kR f_api_Slot)) (u := y169) pt76 u u u z76 tm tm) (s2 u u) <| .nil) <| pSeq <| wSeq <| rx (c2 <| cr (oLdB (n := 0) (k := 9) u u u t3 tm) (s1 u) <| c1 <| cwn (oSt (n := 0) (k := 11) u u u u z3 tm tm) (s2 u u) <| .nil) <| pSeq <| rx (c2 <| cwn (oSt (n := 0) (k := 13) u u u u z3 tm tm) (s2 u u) <| .nil) <| pBlkN <| pJ1 _ (so h) ⟨u, u, tv⟩ u
           ·exact wCF hp166.1 tm (s1 u) <| wSkip <| pBlkN <| pJ1 _ (so h) ⟨u, u, tv⟩ u
     ·rintro x135 rfl
      replace h := hk2
      exact pJ1 _ (so h) ⟨u, u, tv⟩ u
    ·rintro x100 rfl
     replace h := hk1
     refine wSeq <| rx (cr (oLdP (n := 0) (k := 0) (m := 14) (d := (kR f_reticentref10_N)) (u := x100) pt80 u u u t80 tm) (s1 u) <| cwn (oStP (n := 2) (k := 0) (m := 14) (d := (kR f_reticentref10_N)) (u := x100) pt80 u u u z80 tm tm) (s2 u u) <| .nil) <| pSeq <| wRet ?_
     obtain rfl := so h
     exact pR1 (.inl u) u (.boxP (n := 2) (d := (kR f_reticentref10_N)) (u := x100) u u pt80 u t80 <| .nil)
theorem reticentref01_Top.ok {a0 : api_Lattice} {r : Int} (h : reticentref01_Top.f a0 = some r) : FnA PP 114 [(kR f_api_Lattice).sig a0] (ki.sig r) := by
 refine fnIntro Tryz.func114 u (by kernel_rfl) fun H0 w0 => ?_
 unfold reticentref01_Top.f at h
 refine wSeq <| rx (c2 <| .nil) <| pSeq <| wSeq <| rx (c1 <| .nil) <| pSeq <| wSeq <| wSeq <| rx (c4 <| .nil) <| pSeq ?_
 obtain ⟨o1, h, hk1⟩ := bd h
 refine wK1 (fun x7 => x7 = o1) (fun x7 => [(3, .d (ki.sig x7))]) (fun x7 => []) ?_ ?_
 ·refine wBlock (wLoop ?_)
  refine lW (pc2 o1 (fun v5 v6 => [(1, .d (sP (kR f_api_Lattice) a0)), (3, .d (ki.sig v5)), (7, .d (ki.sig (a0.Up.length : Int))), (8, .d (ki.sig v6))]) (fun v5 v6 => []) (reticentref01_Top.l0.partial_correctness a0) ?_ _ _ h) ⟨u, u, u, u, tv⟩ u
  clear h
  intro f' ih v5 v6 h
  refine wSeq <| rx (c1 <| .nil) <| pSeq <| wSeq ?_
  obtain ⟨hp8, h⟩ | ⟨hp8, h⟩ := ik h
  ·refine wCT hp8.1 tm (s1 u) <| wSkip <| pSeq <| wSeq <| wBlock <| wSeq <| rx (c2 <| .nil) <| pSeq ?_
   obtain ⟨y9, hy9, h⟩ := bd h
   exact rx (c3 <| cC (reticentref01_Join.ok hy9) b63 <| c1 <| .nil) <| pBlkN <| pSeq <| rx (c2 <| .nil) <| pLoop (lW (ih _ _ h) ⟨u, u, u, u, tv⟩ u)
  ·exact wCF hp8.1 tm (s1 u) <| wExit <| pThenX <| pThenX <| pBlkX <| pJ1 _ (so h) ⟨u, tv⟩ u
 ·rintro x7 rfl
  replace h := hk1
  refine pSeq <| wSeq <| rx (c2 <| .nil) <| pSeq <| wRet ?_
  obtain rfl := so h
  exact pR1 (.inl u) u (.tmp u <| .nil)
theorem reticentref07_Thing.okB {rc : api_Lattice → (List Int) → (List Int) → Int → Option reticentref07_V} (hrc : ∀ {a0 : api_Lattice} {a1 : List Int} {a2 : List Int} {a3 : Int} {r : reticentref07_V}, rc a0 a1 a2 a3 = some r → FnA PP 74 [(kR f_api_Lattice).sig a0, (kL ki).sig a1, (kL ki).sig a2, ki.sig a3] ((kR f_reticentref07_V).sig r)) {a0 : api_Lattice} {a1 : List Int} {a2 : List Int} {a3 : Int} {r : reticentref07_V} (h : reticentref07_Thing.B rc a0 a1 a2 a3 = some r) : FnA PP 74 [(kR f_api_Lattice).sig a0, (kL ki).sig a1, (kL ki).sig a2, ki.sig a3] ((kR f_reticentref07_V).sig r) := by
 refine fnIntro Tryz.func74 u (by kernel_rfl) fun H0 w0 => ?_
 unfold reticentref07_Thing.B at h
 refine wSeq <| rx (c1 <| cw (oAlloc (id := 8) (ls := Z83) ze83 zl83) tv <| .nil) <| pSeq <| wSeq ?_
 obtain ⟨y1, hy1, h⟩ := bd h
 refine rx (c2 <| cp (oIdx u59 z3 hy1 tm tm) (s2 u u) <| c2 <| .nil) <| pSeq <| wSeq <| wSeq <| rx (c2 <| .nil) <| pSeq ?_
 obtain ⟨hp2, h⟩ | ⟨hp2, h⟩ := ik h
 ·refine wCT hp2.1 tm (s1 u) <| wSeq <| rx (c3 <| cp (oBuild (fs := f_reticentref07_V) (u := ⟨decide (y1 = 1), 0, a3⟩) u ze83 pl83 po83 (.op (zc := [(.bool false)]) tm u (.ze (zc := [(.int .i64 0)]) zI_i64 (.op (zc := [(.int .i64 0)]) tm u .nil)))) (s2 u u) <| cwn (oStA (n := 0) (fs := f_reticentref07_V) u u z83 tm tm) (s2 u u) <| .nil) <| pSeq <| wRet <| pThenR ?_
  obtain rfl := so h
  exact pR1 (.inl u) u (.box (n := 0) (fs := f_reticentref07_V) (u := ⟨decide (y1 = 1), 0, a3⟩) u u ⟨u, u, u, tv⟩ t83 <| .nil)
 ·refine wCF hp2.1 tm (s1 u) <| wSkip <| pSeq <| wSeq <| wSeq <| rx (c2 <| .nil) <| pSeq ?_
  obtain ⟨hp3, h⟩ | ⟨hp3, h⟩ := ik h
  ·refine wCT hp3.1 tm (s1 u) <| wSeq ?_
   obtain ⟨y4, hy4, h⟩ := bd h
   refine rx (c1 <| cC (reticentref01_Bottom.ok hy4) b70 <| c1 <| cp (oBuild (fs := f_reticentref07_V) (u := ⟨false, y4, a3⟩) u ze83 pl83 po83 (.ze (zc := [(.bool false)]) zB (.op (zc := [(.int .i64 0)]) tm u (.op (zc := [(.int .i64 0)]) tm u .nil)))) (s2 u u) <| cwn (oStA (n := 0) (fs := f_reticentref07_V) u u z83 tm tm) (s2 u u) <| .nil) <| pSeq <| wRet <| pThenR ?_
   obtain rfl := so h
   exact pR1 (.inl u) u (.box (n := 0) (fs := f_reticentref07_V) (u := ⟨false, y4, a3⟩) u u ⟨u, u, u, tv⟩ t83 <| .nil)
  ·refine wCF hp3.1 tm (s1 u) <| wSkip <| pSeq <| wSeq <| wSeq <| rx (c2 <| .nil) <| pSeq ?_
   obtain ⟨hp5, h⟩ | ⟨hp5, h⟩ := ik h
   ·refine wCT hp5.1 tm (s1 u) <| wSeq ?_
    obtain ⟨y6, hy6, h⟩ := bd h
    refine rx (c1 <| cC (reticentref01_Top.ok hy6) b114 <| c1 <| cp (oBuild (fs := f_reticentref07_V) (u := ⟨false, y6, a3⟩) u ze83 pl83 po83 (.ze (zc := [(.bool false)]) zB (.op (zc := [(.int .i64 0)]) tm u (.op (zc := [(.int .i64 0)]) tm u .nil)))) (s2 u u) <| cwn (oStA (n := 0) (fs := f_reticentref07_V) u u z83 tm tm) (s2 u u) <| .nil) <| pSeq <| wRet <| pThenR ?_
    obtain rfl := so h
    exact pR1 (.inl u) u (.box (n := 0) (fs := f_reticentref07_V) (u := ⟨false, y6, a3⟩) u u ⟨u, u, u, tv⟩ t83 <| .nil)
   ·refine wCF hp5.1 tm (s1 u) <| wSkip <| pSeq <| wSeq ?_
    obtain ⟨o1, h, hk1⟩ := bd h
    refine wJ1 (fun x8 => x8 = o1) (fun x8 => [(1, .d ((kL ki).sig a1)), (2, .d ((kL ki).sig a2)), (3, .d (ki.sig a3)), (4, .d (sP (kR f_api_Lattice) a0)), (8, .p 8 0), (9, .d (ki.sig y1)), (40, .d (kB.sig x8))]) (fun x8 => [.box 8 83 [.d kB false, .d ki 0, .d ki 0]]) ?_ ?_
    ·obtain ⟨hp9, h⟩ | ⟨hp9, h⟩ := ik h
     ·exact rx (c6 <| .nil) <| pJ1 _ (so h) ⟨u, u, u, u, u, u, u, tv⟩ u
     ·exact rx (c6 <| .nil) <| pJ1 _ (so h) ⟨u, u, u, u, u, u, u, tv⟩ u
    ·rintro x8 rfl
     replace h := hk1
     obtain ⟨hp10, h⟩ | ⟨hp10, h⟩ := ik h
     ·refine wBT hp10.1 tm (s1 u) <| wSeq ?_
      obtain ⟨y11, hy11, h⟩ := bd h
      refine rx (c3 <| cp (oIdx u59 z3 hy11 tm tm) (s2 u u) <| c2 <| cp (oBuild (fs := f_reticentref07_V) (u := ⟨false, y11, a3⟩) u ze83 pl83 po83 (.ze (zc := [(.bool false)]) zB (.op (zc := [(.int .i64 0)]) tm u (.op (zc := [(.int .i64 0)]) tm u .nil)))) (s2 u u) <| cwn (oStA (n := 0) (fs := f_reticentref07_V) u u z83 tm tm) (s2 u u) <| .nil) <| pSeq <| wRet <| pThenR ?_
      obtain rfl := so h
      exact pR1 (.inl u) u (.box (n := 0) (fs := f_reticentref07_V) (u := ⟨false, y11, a3⟩) u u ⟨u, u, u, tv⟩ t83 <| .nil)
     ·refine wBF hp10.1 tm (s1 u) <| wSkip <| pSeq <| wSeq ?_
      obtain ⟨y12, hy12, h⟩ := bd h
      refine rx (c4 <| c1 <| cC (hrc hy12) b74 <| cw (oAlloc (id := 10) (ls := Z83) ze83 zl83) tv <| cwn (oStA (n := 0) (fs := f_reticentref07_V) u u z83 tm tm) (s2 u u) <| .nil) <| pSeq <| wSeq ?_
      obtain ⟨y13, hy13, h⟩ := bd h
      refine rx (c4 <| cr (oLdB (n := 0) (k := 2) u u u t3 tm) (s1 u) <| c1 <| cC (hrc hy13) b74 <| cw (oAlloc (id := 11) (ls := Z83) ze83 zl83) tv <| cwn (oStA (n := 0) (fs := f_reticentref07_V) u u z83 tm tm) (s2 u u) <| .nil) <| pSeq <| wSeq <| rx (c1 <| cr (oLdB (n := 0) (k := 2) u u u t3 tm) (s1 u) <| cp (oBuild (fs := f_reticentref07_V) (u := ⟨false, 0, y13.From⟩) u ze83 pl83 po83 (.ze (zc := [(.bool false)]) zB (.ze (zc := [(.int .i64 0)]) zI_i64 (.op (zc := [(.int .i64 0)]) tm u .nil)))) (s1 u) <| cw (oAlloc (id := 12) (ls := Z83) ze83 zl83) tv <| cwn (oStA (n := 0) (fs := f_reticentref07_V) u u z83 tm tm) (s2 u u) <| .nil) <| pSeq <| wSeq <| wSeq <| rx (c1 <| .nil) <| pSeq ?_
      obtain ⟨o1, h, hk1⟩ := bd h
      refine wK2 (fun x28 x29 => (x28, x29) = o1) (fun x28 x29 => [(8, .p 8 0), (12, .p 12 0)]) (fun x28 x29 => [.box 12 83 [.d kB x28, .d ki x29, .d ki y13.From], .box 11 83 (L83 y13), .box 10 83 (L83 y12), .box 8 83 [.d kB false, .d ki 0, .d ki 0]]) ?_ ?_
      ·refine wBlock <| wSeq <| rx (c2 <| .nil) <| pSeq ?_
       obtain ⟨hp30, h⟩ | ⟨hp30, h⟩ := ik h
       ·refine wCT hp30.1 tm (s1 u) ?_
        obtain ⟨o2, h, hk2⟩ := bd h
        refine wK1 (fun x32 => x32 = o2) (fun x32 => [(8, .p 8 0), (12, .p 12 0)]) (fun x32 => [.box 12 83 [.d kB x32, .d ki 0, .d ki y13.From], .box 11 83 (L83 y13), .box 10 83 (L83 y12), .box 8 83 [.d kB false, .d ki 0, .d ki 0]]) ?_ ?_
        ·obtain ⟨hp33, h⟩ | ⟨hp33, h⟩ := ik h
         ·exact rx (c1 <| cr (oLdB (n := 1) (k := 0) u u u t4 tm) (s1 u) <| c2 <| crgB hp33.1 u u (oLdB (n := 2) (k := 0) u u u t4 tm) (s1 u) <| c2 <| cwn (oSt (n := 0) (k := 0) u u u u z4 tm tm) (s2 u u) <| .nil) <| pJ1 _ (so h) ⟨u, u, tv⟩ u
         ·exact rx (c1 <| cr (oLdB (n := 1) (k := 0) u u u t4 tm) (s1 u) <| c4 <| c1 <| cwn (oSt (n := 0) (k := 0) u u u u z4 tm tm) (s2 u u) <| .nil) <| pJ1 _ (so h) ⟨u, u, tv⟩ u
        ·rintro x32 rfl
         replace h := hk2
         exact pBlkN <| pJ2 _ _ (so h) ⟨u, u, tv⟩ u
       ·refine wCF hp30.1 tm (s1 u) <| wSeq <| rx (c2 <| .nil) <| pSeq ?_
        obtain ⟨hp34, h⟩ | ⟨hp34, h⟩ := ik h
        ·refine wCT hp34.1 tm (s1 u) ?_
         obtain ⟨o2, h, hk2⟩ := bd h
         refine wK1 (fun x36 => x36 = o2) (fun x36 => [(8, .p 8 0), (12, .p 12 0)]) (fun x36 => [.box 12 83 [.d kB x36, .d ki 0, .d ki y13.From], .box 11 83 (L83 y13), .box 10 83 (L83 y12), .box 8 83 [.d kB false, .d ki 0, .d ki 0]]) ?_ ?_
         ·obtain ⟨hp37, h⟩ | ⟨hp37, h⟩ := ik h
          ·exact rx (c1 <| cr (oLdB (n := 1) (k := 0) u u u t4 tm) (s1 u) <| c4 <| c1 <| cwn (oSt (n := 0) (k := 0) u u u u z4 tm tm) (s2 u u) <| .nil) <| pJ1 _ (so h) ⟨u, u, tv⟩ u
          ·exact rx (c1 <| cr (oLdB (n := 1) (k := 0) u u u t4 tm) (s1 u) <| c2 <| crgB (nb hp37.1) u u (oLdB (n := 2) (k := 0) u u u t4 tm) (s1 u) <| c2 <| cwn (oSt (n := 0) (k := 0) u u u u z4 tm tm) (s2 u u) <| .nil) <| pJ1 _ (so h) ⟨u, u, tv⟩ u
         ·rintro x36 rfl
          replace h := hk2
          exact pBlkN <| pJ2 _ _ (so h) ⟨u, u, tv⟩ u
        ·refine wCF hp34.1 tm (s1 u) <| wSeq <| rx (c2 <| .nil) <| pSeq ?_
         obtain ⟨hp38, h⟩ | ⟨hp38, h⟩ := ik h
         ·refine wCT hp38.1 tm (s1 u) ?_
          obtain ⟨y39, hy39, h⟩ := bd h
          exact rx (c2 <| cr (oLdB (n := 1) (k := 1) u u u t3 tm) (s1 u) <| c1 <| cr (oLdB (n := 2) (k := 1) u u u t3 tm) (s1 u) <| cC (reticentref01_Flows.ok hy39) b110 <| c1 <| cwn (oSt (n := 0) (k := 0) u u u u z4 tm tm) (s2 u u) <| .nil) <| pBlkN <| pJ2 _ _ (so h) ⟨u, u, tv⟩ u
         ·refine wCF hp38.1 tm (s1 u) <| wSeq <| rx (c2 <| .nil) <| pSeq ?_
          obtain ⟨hp40, h⟩ | ⟨hp40, h⟩ := ik h
          ·refine wCT hp40.1 tm (s1 u) ?_
           obtain ⟨y41, hy41, h⟩ := bd h
           exact rx (c2 <| cr (oLdB (n := 1) (k := 1) u u u t3 tm) (s1 u) <| c1 <| cr (oLdB (n := 2) (k := 1) u u u t3 tm) (s1 u) <| cC (reticentref01_Join.ok hy41) b63 <| c1 <| cwn (oSt (n := 0) (k := 1) u u u u z3 tm tm) (s2 u u) <| .nil) <| pBlkN <| pJ2 _ _ (so h) ⟨u, u, tv⟩ u
          ·refine wCF hp40.1 tm (s1 u) <| wSeq <| rx (c2 <| .nil) <| pSeq ?_
           obtain ⟨hp42, h⟩ | ⟨hp42, h⟩ := ik h
           ·refine wCT hp42.1 tm (s1 u) ?_
            obtain ⟨y43, hy43, h⟩ := bd h
            exact rx (c2 <| cr (oLdB (n := 1) (k := 1) u u u t3 tm) (s1 u) <| c1 <| cr (oLdB (n := 2) (k := 1) u u u t3 tm) (s1 u) <| cC (reticentref01_Meet.ok hy43) b64 <| c1 <| cwn (oSt (n := 0) (k := 1) u u u u z3 tm tm) (s2 u u) <| .nil) <| pBlkN <| pJ2 _ _ (so h) ⟨u, u, tv⟩ u
           ·exact wCF hp42.1 tm (s1 u) <| wSkip <| pBlkN <| pJ2 _ _ (so h) ⟨u, u, tv⟩ u
      ·rintro x28 x29 rfl
       replace h := hk1
       refine pSeq <| wSeq <| rx (cr (oLdA (n := 0) (fs := f_reticentref07_V) (u := ⟨x28, x29, y13.From⟩) u ⟨u, u, u, tv⟩ t83 tm) (s1 u) <| cwn (oStA (n := 3) (fs := f_reticentref07_V) u u z83 tm tm) (s2 u u) <| .nil) <| pSeq <| wRet ?_
       obtain rfl := so h
       exact pR1 (.inl u) u (.box (n := 3) (fs := f_reticentref07_V) (u := ⟨x28, x29, y13.From⟩) u u ⟨u, u, u, tv⟩ t83 <| .nil)
theorem reticentref07_Thing.okF : ∀ (k : Nat) {a0 : api_Lattice} {a1 : List Int} {a2 : List Int} {a3 : Int} {r : reticentref07_V}, reticentref07_Thing.F k a0 a1 a2 a3 = some r → FnA PP 74 [(kR f_api_Lattice).sig a0, (kL ki).sig a1, (kL ki).sig a2, ki.sig a3] ((kR f_reticentref07_V).sig r)
 | 0, _, _, _, _, _, h => by cases h
 | k + 1, _, _, _, _, _, h => reticentref07_Thing.okB (fun h => reticentref07_Thing.okF k h) h
theorem reticentref07_Thing.ok {a0 : api_Lattice} {a1 : List Int} {a2 : List Int} {a3 : Int} {r : reticentref07_V} (h : reticentref07_Thing.f a0 a1 a2 a3 = some r) : FnA PP 74 [(kR f_api_Lattice).sig a0, (kL ki).sig a1, (kL ki).sig a2, ki.sig a3] ((kR f_reticentref07_V).sig r) := reticentref07_Thing.okF 1000 h
theorem reticentref07_Judge.ok {a0 : api_Lattice} {a1 : List Int} {a2 : List Int} {r : reticentref07_V} (h : reticentref07_Judge.f a0 a1 a2 = some r) : FnA PP 33 [(kR f_api_Lattice).sig a0, (kL ki).sig a1, (kL ki).sig a2] ((kR f_reticentref07_V).sig r) := by
 refine fnIntro Tryz.func33 u (by kernel_rfl) fun H0 w0 => ?_
 unfold reticentref07_Judge.f at h
 refine wSeq <| rx (c1 <| cw (oAlloc (id := 6) (ls := Z83) ze83 zl83) tv <| .nil) <| pSeq <| wSeq ?_
 obtain ⟨y1, hy1, h⟩ := bd h
 refine rx (c6 <| cC (reticentref07_Thing.ok hy1) b74 <| cwn (oStA (n := 0) (fs := f_reticentref07_V) u u z83 tm tm) (s2 u u) <| .nil) <| pSeq <| wRet ?_
 obtain rfl := so h
 exact pR1 (.inl u) u (.box (n := 0) (fs := f_reticentref07_V) (u := ⟨y1.Is, y1.A, y1.From⟩) u u ⟨u, u, u, tv⟩ t83 <| .nil)
theorem reticentref10_mem.ok {a0 : api_State} {a1 : reticentref10_N} {a2 : Int} {r : List api_Atom} (h : reticentref10_mem.f a0 a1 a2 = some r) : FnA PP 34 [(kR f_api_State).sig a0, (kR f_reticentref10_N).sig a1, ki.sig a2] ((kL (kR f_api_Atom)).sig r) := by
 refine fnIntro Tryz.func34 u (by kernel_rfl) fun H0 w0 => ?_
 unfold reticentref10_mem.f at h
 refine wSeq <| rx (c2 <| cp (oAs cV) tv <| .nil) <| pSeq <| wSeq <| rx (cw (oLitR (id := 10) (d := (kR f_api_Atom)) el32 (by decide) u u u e0) tv <| c1 <| .nil) <| pSeq <| wSeq <| wSeq <| rx (c4 <| .nil) <| pSeq <| wWeak (Γ' := [(2, .d (ki.sig a2)), (3, .d (sP (kR f_api_State) a0)), (4, .d (sP (kR f_reticentref10_N) a1)), (7, .v 10), (12, .d ((kL (kR f_api_Atom)).sig a0.Mem)), (13, .d (ki.sig (a0.Mem.length : Int))), (14, .d (ki.sig 0))]) ⟨u, u, u, u, u, u, u, tv⟩ <| wRen 10 1007 u ?_
 obtain ⟨o1, h, hk1⟩ := bd h
 refine wK1 (fun x43 => x43 = o1) (fun x43 => [(7, .v 1007)]) (fun x43 => [.row 1007 30 (kR f_api_Atom) x43]) ?_ ?_
 ·refine wBlock (wLoop ?_)
  refine lW (pc2 o1 (fun v41 v42 => [(2, .d (ki.sig a2)), (3, .d (sP (kR f_api_State) a0)), (4, .d (sP (kR f_reticentref10_N) a1)), (7, .v 1007), (12, .d ((kL (kR f_api_Atom)).sig a0.Mem)), (13, .d (ki.sig (a0.Mem.length : Int))), (14, .d (ki.sig v42))]) (fun v41 v42 => [.row 1007 30 (kR f_api_Atom) v41]) (reticentref10_mem.l0.partial_correctness a0 a1 a2) ?_ _ _ h) ⟨u, u, u, u, u, u, u, tv⟩ u
  clear h
  intro f' ih v41 v42 h
  refine wSeq <| rx (c1 <| .nil) <| pSeq <| wSeq ?_
  obtain ⟨hp44, h⟩ | ⟨hp44, h⟩ := ik h
  ·refine wCT hp44.1 tm (s1 u) <| wSkip <| pSeq ?_
   obtain ⟨o2, h, hk2⟩ := bd h
   refine wJ1 (fun x54 => x54 = o2) (fun x54 => [(2, .d (ki.sig a2)), (3, .d (sP (kR f_api_State) a0)), (4, .d (sP (kR f_reticentref10_N) a1)), (7, .v 1007), (12, .d ((kL (kR f_api_Atom)).sig a0.Mem)), (13, .d (ki.sig (a0.Mem.length : Int))), (14, .d (ki.sig v42))]) (fun x54 => [.row 1007 30 (kR f_api_Atom) x54]) ?_ ?_
   ·refine wBlock <| wSeq ?_
    obtain ⟨y55, hy55, h⟩ := bd h
    refine rx (c1 <| cp (oIdx u32 z30 hy55 tm tm) (s2 u u) <| c1 <| cw (oAlloc (id := 9) (ls := Z30) ze30 zl30) tv <| c1 <| cwn (oStA (n := 0) (fs := f_api_Atom) u u z30 tm tm) (s2 u u) <| .nil) <| pSeq <| wSeq ?_
    obtain ⟨o3, h, hk3⟩ := bd h
    refine wJ1 (fun x58 => x58 = o3) (fun x58 => [(2, .d (ki.sig a2)), (3, .d (sP (kR f_api_State) a0)), (4, .d (sP (kR f_reticentref10_N) a1)), (7, .v 1007), (9, .p 9 0), (12, .d ((kL (kR f_api_Atom)).sig a0.Mem)), (13, .d (ki.sig (a0.Mem.length : Int))), (14, .d (ki.sig v42)), (34, .d (kB.sig x58))]) (fun x58 => [.box 9 30 [.d ki y55.V, .d ki y55.L], .row 1007 30 (kR f_api_Atom) v41]) ?_ ?_
    ·obtain ⟨y59, hy59, h⟩ := bd h
     obtain ⟨hp60, h⟩ | ⟨hp60, h⟩ := ik h
     ·exact rx (c4 <| c1 <| cp (oIdx u31 z74 hy59 tm tm) (s2 u u) <| c8 <| c2 <| .nil) <| pJ1 _ (so h) ⟨u, u, u, u, u, u, u, u, u, tv⟩ u
     ·exact rx (c4 <| c1 <| cp (oIdx u31 z74 hy59 tm tm) (s2 u u) <| c8 <| c2 <| .nil) <| pJ1 _ (so h) ⟨u, u, u, u, u, u, u, u, u, tv⟩ u
    ·rintro x58 rfl
     replace h := hk3
     obtain ⟨hp61, h⟩ | ⟨hp61, h⟩ := ik h
     ·refine wBT hp61.1 tm (s1 u) <| rx (c4 <| cp (oBuild (fs := f_api_Atom) (u := ⟨a1.B.V, a2⟩) u ze30 pl30 po30 (.op (zc := [(.int .i64 0)]) tm u (.op (zc := [(.int .i64 0)]) tm u .nil))) (s2 u u) <| cwn (oStA (n := 0) (fs := f_api_Atom) u u z30 tm tm) (s2 u u) <| .nil) <| pSeq ?_
      obtain ⟨hc62, h⟩ := ib h
      exact rx (c1 <| cr (oLdA (n := 0) (fs := f_api_Atom) (u := ⟨a1.B.V, a2⟩) u ⟨u, u, tv⟩ t30 tm) (s1 u) <| cp (oLit (d := (kR f_api_Atom)) el32 (by decide) u u u (e1 tm e0)) (s1 u) <| cw (oApp (n := 1) (id' := 43) el32 (by decide) u (by decide) hc62 tm tm) (s2 u u) <| c1 <| .nil) <| pBlkN <| pDrop (.cons _ (.cons_cons _ .slnil)) <| pSub (Γ' := [(2, .d (ki.sig a2)), (3, .d (sP (kR f_api_State) a0)), (4, .d (sP (kR f_reticentref10_N) a1)), (7, .v 43), (12, .d ((kL (kR f_api_Atom)).sig a0.Mem)), (13, .d (ki.sig (a0.Mem.length : Int))), (14, .d (ki.sig v42))]) ⟨u, u, u, u, u, u, u, tv⟩ <| pRen 43 1007 u <| pJ1 _ (so h) ⟨u, u, u, u, u, u, u, tv⟩ u
     ·refine wBF hp61.1 tm (s1 u) <| wSkip <| pSeq ?_
      obtain ⟨hc63, h⟩ := ib h
      exact rx (c1 <| cr (oLdA (n := 0) (fs := f_api_Atom) (u := ⟨y55.V, y55.L⟩) u ⟨u, u, tv⟩ t30 tm) (s1 u) <| cp (oLit (d := (kR f_api_Atom)) el32 (by decide) u u u (e1 tm e0)) (s1 u) <| cw (oApp (n := 1) (id' := 43) el32 (by decide) u (by decide) hc63 tm tm) (s2 u u) <| c1 <| .nil) <| pBlkN <| pDrop (.cons _ (.cons_cons _ .slnil)) <| pSub (Γ' := [(2, .d (ki.sig a2)), (3, .d (sP (kR f_api_State) a0)), (4, .d (sP (kR f_reticentref10_N) a1)), (7, .v 43), (12, .d ((kL (kR f_api_Atom)).sig a0.Mem)), (13, .d (ki.sig (a0.Mem.length : Int))), (14, .d (ki.sig v42))]) ⟨u, u, u, u, u, u, u, tv⟩ <| pRen 43 1007 u <| pJ1 _ (so h) ⟨u, u, u, u, u, u, u, tv⟩ u
   ·rintro x54 rfl
    replace h := hk2
    exact rx (c2 <| .nil) <| pLoop (lW (ih _ _ h) ⟨u, u, u, u, u, u, u, tv⟩ u)
  ·exact wCF hp44.1 tm (s1 u) <| wExit <| pThenX <| pThenX <| pBlkX <| pJ1 _ (so h) ⟨u, tv⟩ u
 ·rintro x43 rfl
  replace h := hk1
  refine pSeq <| wSeq <| rx (c2 <| .nil) <| pSeq <| wFrzR (n := 0) (id := 1007) [6] u u ⟨u, tv⟩ <| wRet ?_
  obtain rfl := so h
  exact pR1 (.inl u) u (.tmp u <| .nil)
theorem reticentref10_with.ok {a0 : List api_Slot} {a1 : api_Slot} {r : List api_Slot} (h : reticentref10_with.f a0 a1 = some r) : FnA PP 75 [(kL (kR f_api_Slot)).sig a0, (kR f_api_Slot).sig a1] ((kL (kR f_api_Slot)).sig r) := by
 refine fnIntro Tryz.func75 u (by kernel_rfl) fun H0 w0 => ?_
 unfold reticentref10_with.f at h
 refine wSeq <| rx (c1 <| cp (oAs cV) tv <| .nil) <| pSeq <| wSeq <| rx (cw (oLitR (id := 6) (d := (kR f_api_Slot)) el33 (by decide) u u u e0) tv <| c1 <| .nil) <| pSeq <| wSeq ?_
 obtain ⟨hc1, h⟩ := ib h
 refine rx (c2 <| cw (oApp (n := 0) (id' := 9) el33 (by decide) u (by decide) hc1 tm tm) (s2 u u) <| c1 <| .nil) <| pSeq <| wSeq ?_
 obtain ⟨hc2, h⟩ := ib h
 refine rx (c2 <| cp (oLit (d := (kR f_api_Slot)) el33 (by decide) u u u (e1 tm e0)) (s1 u) <| cw (oApp (n := 0) (id' := 13) el33 (by decide) u (by decide) hc2 tm tm) (s2 u u) <| c1 <| .nil) <| pSeq <| wSeq <| rx (c2 <| .nil) <| pSeq <| wFrzR (n := 0) (id := 13) [4] u u ⟨u, tv⟩ <| wRet ?_
 obtain rfl := so h
 exact pR1 (.inl u) u (.tmp u <| .nil)
theorem reticentref10_with_row.ok {a0 : List api_Slot} {a1 : api_Slot} {r : (List api_Slot)} (h : reticentref10_with_row.f a0 a1 = some r) : FnS PP 75 [.d ((kL (kR f_api_Slot)).sig a0), .d ((kR f_api_Slot).sig a1)] [] [] (.v 80000) [.row 80000 76 (kR f_api_Slot) r] := by
 refine fnIntroS Tryz.func75 u (by kernel_rfl) fun X H0 w0 pv => ?_
 unfold reticentref10_with_row.f at h
 refine wSeq <| rx (c1 <| cp (oAs cV) tv <| .nil) <| pSeq <| wSeq <| rx (cw (oLitR (id := 6) (d := (kR f_api_Slot)) el33 (by decide) u u u e0) tv <| c1 <| .nil) <| pSeq <| wSeq ?_
 obtain ⟨hc1, h⟩ := ib h
 refine rx (c2 <| cw (oApp (n := 0) (id' := 9) el33 (by decide) u (by decide) hc1 tm tm) (s2 u u) <| c1 <| .nil) <| pSeq <| wSeq ?_
 obtain ⟨hc2, h⟩ := ib h
 refine rx (c2 <| cp (oLit (d := (kR f_api_Slot)) el33 (by decide) u u u (e1 tm e0)) (s1 u) <| cw (oApp (n := 0) (id' := 13) el33 (by decide) u (by decide) hc2 tm tm) (s2 u u) <| c1 <| .nil) <| pSeq <| wSeq <| rx (c2 <| .nil) <| pSeq <| wRet ?_
 obtain rfl := so h
 exact pSub (Γ' := [(4, .v 13)]) ⟨u, tv⟩ <| pRen 13 80000 u <| pSv [0] u u (.inl u) u u
theorem reticentref10_stack.ok {a0 : api_State} {a1 : reticentref10_N} {a2 : Int} {r : List api_Slot} (h : reticentref10_stack.f a0 a1 a2 = some r) : FnA PP 35 [(kR f_api_State).sig a0, (kR f_reticentref10_N).sig a1, ki.sig a2] ((kL (kR f_api_Slot)).sig r) := by
 refine fnIntro Tryz.func35 u (by kernel_rfl) fun H0 w0 => ?_
 unfold reticentref10_stack.f at h
 refine wSeq <| rx (c2 <| cp (oAs cV) tv <| .nil) <| pSeq <| wSeq ?_
 obtain ⟨y1, hy1, h⟩ := bd h
 refine rx (c4 <| c1 <| cp (oIdx u31 z74 hy1 tm tm) (s2 u u) <| c1 <| cw (oAlloc (id := 7) (ls := Z74) ze74 zl74) tv <| cwn (oStA (n := 0) (fs := f_api_Instr) u u z74 tm tm) (s2 u u) <| .nil) <| pSeq <| wSeq ?_
 obtain ⟨hc2, h⟩ := ib h
 refine rx (c4 <| cp (oCutHi u33 z76 hc2.1 hc2.2 tm tm) (s2 u u) <| c1 <| .nil) <| pSeq <| wSeq <| wSeq <| rx (c1 <| cr (oLdB (n := 0) (k := 0) u u u t3 tm) (s1 u) <| .nil) <| pSeq ?_
 obtain ⟨o1, h, hk1⟩ := bd h
 refine wK0 (.inr () = o1) ([(8, .d ((kL (kR f_api_Slot)).sig (lCut a0.Stack 0 a1.Below)))]) ([.box 7 74 (L74 y1)]) ?_ ?_
 ·refine wBlock <| wSeq <| rx (c2 <| .nil) <| pSeq ?_
  obtain ⟨hp20, h⟩ | ⟨hp20, h⟩ := ik h
  ·refine wCT hp20.1 tm (s1 u) <| wSeq ?_
   obtain ⟨y21, hy21, h⟩ := bd h
   refine rx (c2 <| cr (oLdB (n := 0) (k := 1) u u u t3 tm) (s1 u) <| c1 <| cp (oBuild (fs := f_api_Slot) (u := ⟨false, y1.N, a2⟩) u ze76 pl76 po76 (.ze (zc := [(.bool false)]) zB (.op (zc := [(.int .i64 0)]) tm u (.op (zc := [(.int .i64 0)]) tm u .nil)))) (s2 u u) <| cC (reticentref10_with.ok hy21) b75 <| c1 <| .nil) <| pSeq <| wRet <| pBlkR <| pThenR ?_
   obtain rfl := so h
   replace h := hk1
   refine pThenR ?_
   obtain rfl := so h
   exact pR1 (.inl u) u (.tmp u <| .nil)
  ·refine wCF hp20.1 tm (s1 u) <| wSeq <| rx (c2 <| .nil) <| pSeq ?_
   obtain ⟨hp22, h⟩ | ⟨hp22, h⟩ := ik h
   ·refine wCT hp22.1 tm (s1 u) <| wSeq ?_
    obtain ⟨y23, hy23, h⟩ := bd h
    refine rx (c8 <| c1 <| cp (oBuild (fs := f_api_Slot) (u := ⟨false, IntKind.i64.wrap (a1.B.V + a1.A.V), a2⟩) u ze76 pl76 po76 (.ze (zc := [(.bool false)]) zB (.op (zc := [(.int .i64 0)]) tm u (.op (zc := [(.int .i64 0)]) tm u .nil)))) (s2 u u) <| cC (reticentref10_with.ok hy23) b75 <| c1 <| .nil) <| pSeq <| wRet <| pBlkR <| pThenR ?_
    obtain rfl := so h
    replace h := hk1
    refine pThenR ?_
    obtain rfl := so h
    exact pR1 (.inl u) u (.tmp u <| .nil)
   ·refine wCF hp22.1 tm (s1 u) <| wSeq <| rx (c2 <| .nil) <| pSeq ?_
    obtain ⟨hp24, h⟩ | ⟨hp24, h⟩ := ik h
    ·refine wCT hp24.1 tm (s1 u) <| wSeq ?_
     obtain ⟨y25, hy25, h⟩ := bd h
     refine rx (c8 <| c1 <| cp (oBuild (fs := f_api_Slot) (u := ⟨false, IntKind.i64.wrap (a1.B.V - a1.A.V), a2⟩) u ze76 pl76 po76 (.ze (zc := [(.bool false)]) zB (.op (zc := [(.int .i64 0)]) tm u (.op (zc := [(.int .i64 0)]) tm u .nil)))) (s2 u u) <| cC (reticentref10_with.ok hy25) b75 <| c1 <| .nil) <| pSeq <| wRet <| pBlkR <| pThenR ?_
     obtain rfl := so h
     replace h := hk1
     refine pThenR ?_
     obtain rfl := so h
     exact pR1 (.inl u) u (.tmp u <| .nil)
    ·refine wCF hp24.1 tm (s1 u) <| wSeq <| rx (c2 <| .nil) <| pSeq ?_
     obtain ⟨hp26, h⟩ | ⟨hp26, h⟩ := ik h
     ·refine wCT hp26.1 tm (s1 u) <| wSeq ?_
      obtain ⟨y27, hy27, h⟩ := bd h
      obtain ⟨y28, hy28, h⟩ := bd h
      refine rx (c6 <| cp (oIdx u32 z30 hy27 tm tm) (s2 u u) <| c3 <| cp (oBuild (fs := f_api_Slot) (u := ⟨false, y27.V, a2⟩) u ze76 pl76 po76 (.ze (zc := [(.bool false)]) zB (.op (zc := [(.int .i64 0)]) tm u (.op (zc := [(.int .i64 0)]) tm u .nil)))) (s2 u u) <| cC (reticentref10_with.ok hy28) b75 <| c1 <| .nil) <| pSeq <| wRet <| pBlkR <| pThenR ?_
      obtain rfl := so h
      replace h := hk1
      refine pThenR ?_
      obtain rfl := so h
      exact pR1 (.inl u) u (.tmp u <| .nil)
     ·refine wCF hp26.1 tm (s1 u) <| wSeq <| rx (c2 <| .nil) <| pSeq ?_
      obtain ⟨hp29, h⟩ | ⟨hp29, h⟩ := ik h
      ·refine wCT hp29.1 tm (s1 u) <| wSeq ?_
       obtain ⟨hc30, h⟩ := ib h
       obtain ⟨y31, hy31, h⟩ := bd h
       refine rgD hm (c4 <| cr (oLdB (n := 0) (k := 1) u u u t3 tm) (s1 u) <| c1 <| cp (oCutHi u33 z76 hc30.1 hc30.2 tm tm) (s2 u u) <| c6 <| c1 <| cp (oBuild (fs := f_api_Slot) (u := ⟨true, IntKind.i64.wrap (a0.Pc.V + 1), a0.Pc.L⟩) u ze76 pl76 po76 (.op (zc := [(.bool false)]) cB u (.op (zc := [(.int .i64 0)]) tm u (.op (zc := [(.int .i64 0)]) tm u .nil)))) (s2 u u) <| cm (oCallS (rest := [.box 7 74 (L74 y1)]) (R' := [.row 430600 76 (kR f_api_Slot) y31, .box 7 74 (L74 y1)]) (out' := .v 430600) [] [(80000, 430600)] [] [0] [0, 1] u (reticentref10_with_row.ok hy31) b75 (oE1 tm (oE1 tm oE0)) u u u u u u u u) (s2 u u) <| c1 <| .nil) (by kernel_rfl) (by kernel_rfl) <| pSeq <| wSeq ?_
       obtain ⟨hc32, h⟩ := ib h
       obtain ⟨hc33, h⟩ := ib h
       refine rx (c4 <| c1 <| cr (oLdB (n := 1) (k := 1) u u u t3 tm) (s1 u) <| c1 <| cp (oCutLo u33 z76 hc32.1 hc32.2 tm tm) (s2 u u) <| cw (oApp (n := 0) (id' := 98) el33 (by decide) u (by decide) hc33 tm tm) (s2 u u) <| c1 <| .nil) <| pSeq <| wSeq <| rx (c2 <| .nil) <| pSeq <| wFrzR (n := 0) (id := 98) [6] u u ⟨u, tv⟩ <| wRet <| pBlkR <| pThenR ?_
       obtain rfl := so h
       replace h := hk1
       refine pThenR ?_
       obtain rfl := so h
       exact pR1 (.inl u) u (.tmp u <| .nil)
      ·refine wCF hp29.1 tm (s1 u) <| wSeq <| rx (c2 <| .nil) <| pSeq ?_
       obtain ⟨hp34, h⟩ | ⟨hp34, h⟩ := ik h
       ·refine wCT hp34.1 tm (s1 u) <| wSeq <| rx (c1 <| cr (oLdB (n := 0) (k := 1) u u u t3 tm) (s1 u) <| c1 <| .nil) <| pSeq ?_
        obtain ⟨hp35, h⟩ | ⟨hp35, h⟩ := ik h
        ·refine wCT hp35.1 tm (s1 u) <| wSeq ?_
         obtain ⟨y36, hy36, h⟩ := bd h
         refine rx (c4 <| c1 <| cp (oBuild (fs := f_api_Slot) (u := ⟨false, a1.A.V, a2⟩) u ze76 pl76 po76 (.ze (zc := [(.bool false)]) zB (.op (zc := [(.int .i64 0)]) tm u (.op (zc := [(.int .i64 0)]) tm u .nil)))) (s2 u u) <| cC (reticentref10_with.ok hy36) b75 <| c1 <| .nil) <| pSeq <| wRet <| pBlkR <| pThenR ?_
         obtain rfl := so h
         replace h := hk1
         refine pThenR ?_
         obtain rfl := so h
         exact pR1 (.inl u) u (.tmp u <| .nil)
        ·exact wCF hp35.1 tm (s1 u) <| wSkip <| pBlkN <| pJ0 (so h) ⟨u, tv⟩ u
       ·exact wCF hp34.1 tm (s1 u) <| wSkip <| pBlkN <| pJ0 (so h) ⟨u, tv⟩ u
 ·rintro rfl
  replace h := hk1
  refine pSeq <| wSeq <| rx (c2 <| .nil) <| pSeq <| wRet ?_
  obtain rfl := so h
  exact pR1 (.inl u) u (.tmp u <| .nil)
theorem reticentref10_next.ok {a0 : api_State} {a1 : reticentref10_N} {r : Int} (h : reticentref10_next.f a0 a1 = some r) : FnA PP 36 [(kR f_api_State).sig a0, (kR f_reticentref10_N).sig a1] (ki.sig r) := by
 refine fnIntro Tryz.func36 u (by kernel_rfl) fun H0 w0 => ?_
 unfold reticentref10_next.f at h
 refine wSeq <| rx (c3 <| .nil) <| pSeq <| wSeq ?_
 obtain ⟨y1, hy1, h⟩ := bd h
 refine rx (c4 <| c1 <| cp (oIdx u31 z74 hy1 tm tm) (s2 u u) <| c1 <| cw (oAlloc (id := 5) (ls := Z74) ze74 zl74) tv <| cwn (oStA (n := 0) (fs := f_api_Instr) u u z74 tm tm) (s2 u u) <| .nil) <| pSeq <| wSeq ?_
 obtain ⟨o1, h, hk1⟩ := bd h
 refine wJ1 (fun x3 => x3 = o1) (fun x3 => [(2, .d (sP (kR f_api_State) a0)), (3, .d (sP (kR f_reticentref10_N) a1)), (5, .p 5 0), (20, .d (kB.sig x3))]) (fun x3 => [.box 5 74 (L74 y1)]) ?_ ?_
 ·obtain ⟨hp4, h⟩ | ⟨hp4, h⟩ := ik h
  ·exact rx (c1 <| cr (oLdB (n := 0) (k := 0) u u u t3 tm) (s1 u) <| c6 <| .nil) <| pJ1 _ (so h) ⟨u, u, u, u, tv⟩ u
  ·exact rx (c1 <| cr (oLdB (n := 0) (k := 0) u u u t3 tm) (s1 u) <| c3 <| crgB (dF hp4.1) u u (oLdB (n := 0) (k := 0) u u u t3 tm) (s1 u) <| c2 <| .nil) <| pJ1 _ (so h) ⟨u, u, u, u, tv⟩ u
 ·rintro x3 rfl
  replace h := hk1
  obtain ⟨hp5, h⟩ | ⟨hp5, h⟩ := ik h
  ·refine wBT hp5.1 tm (s1 u) <| wSeq <| rx (c4 <| .nil) <| pSeq <| wRet <| pThenR ?_
   obtain rfl := so h
   exact pR1 (.inl u) u (.tmp u <| .nil)
  ·refine wBF hp5.1 tm (s1 u) <| wSkip <| pSeq <| wSeq <| wSeq <| rx (c1 <| cr (oLdB (n := 0) (k := 0) u u u t3 tm) (s1 u) <| c1 <| .nil) <| pSeq ?_
   obtain ⟨hp6, h⟩ | ⟨hp6, h⟩ := ik h
   ·refine wCT hp6.1 tm (s1 u) <| wSeq <| rx (c4 <| .nil) <| pSeq <| wRet <| pThenR ?_
    obtain rfl := so h
    exact pR1 (.inl u) u (.tmp u <| .nil)
   ·refine wCF hp6.1 tm (s1 u) <| wSkip <| pSeq <| wSeq ?_
    obtain ⟨o1, h, hk1⟩ := bd h
    refine wJ1 (fun x8 => x8 = o1) (fun x8 => [(2, .d (sP (kR f_api_State) a0)), (5, .p 5 0), (38, .d (kB.sig x8))]) (fun x8 => [.box 5 74 (L74 y1)]) ?_ ?_
    ·obtain ⟨hp9, h⟩ | ⟨hp9, h⟩ := ik h
     ·exact rx (c1 <| cr (oLdB (n := 0) (k := 0) u u u t3 tm) (s1 u) <| c6 <| c1 <| .nil) <| pJ1 _ (so h) ⟨u, u, u, tv⟩ u
     ·exact rx (c1 <| cr (oLdB (n := 0) (k := 0) u u u t3 tm) (s1 u) <| c6 <| c1 <| .nil) <| pJ1 _ (so h) ⟨u, u, u, tv⟩ u
    ·rintro x8 rfl
     replace h := hk1
     obtain ⟨hp10, h⟩ | ⟨hp10, h⟩ := ik h
     ·refine wBT hp10.1 tm (s1 u) <| wSeq <| rx (c1 <| cr (oLdB (n := 0) (k := 1) u u u t3 tm) (s1 u) <| c1 <| .nil) <| pSeq <| wRet <| pThenR ?_
      obtain rfl := so h
      exact pR1 (.inl u) u (.tmp u <| .nil)
     ·refine wBF hp10.1 tm (s1 u) <| wSkip <| pSeq <| wSeq <| rx (c4 <| c1 <| .nil) <| pSeq <| wRet ?_
      obtain rfl := so h
      exact pR1 (.inl u) u (.tmp u <| .nil)
theorem reticentref10_Step.ok {a0 : api_Lattice} {a1 : api_Table} {a2 : api_State} {r : reticentref10_O} (h : reticentref10_Step.f a0 a1 a2 = some r) : FnA PP 12 [(kR f_api_Lattice).sig a0, (kR f_api_Table).sig a1, (kR f_api_State).sig a2] ((kR f_reticentref10_O).sig r) := by
 refine fnIntro Tryz.func12 u (by kernel_rfl) fun H0 w0 => ?_
 unfold reticentref10_Step.f at h
 refine wSeq <| rx (c3 <| cw (oAlloc (id := 6) (ls := Z46) ze46 zl46) tv <| .nil) <| pSeq <| wSeq <| wSeq <| rx (c6 <| c1 <| .nil) <| pSeq ?_
 obtain ⟨hp1, h⟩ | ⟨hp1, h⟩ := ik h
 ·refine wCT hp1.1 tm (s1 u) <| wSeq <| rx (c1 <| cp (oBuild (fs := f_reticentref10_O) (u := ⟨a2, 3⟩) u ze46 pl46 po46 (.op (zc := [(.int .i64 0), (.int .i64 0), (.slice none 0 0), (.slice none 0 0), (.slice none 0 0), (.slice none 0 0)]) tm u (.op (zc := [(.int .i64 0)]) (cI (by decide)) u .nil))) (s1 u) <| cwn (oStP (n := 0) (k := 0) (m := 7) (d := (kR f_reticentref10_O)) (u := (⟨a2, 3⟩ : reticentref10_O)) pt46 u u u z46 tm tm) (s2 u u) <| .nil) <| pSeq <| wRet <| pThenR ?_
  obtain rfl := so h
  exact pR1 (.inl u) u (.boxP (n := 0) (d := (kR f_reticentref10_O)) (u := (⟨a2, 3⟩ : reticentref10_O)) u u pt46 u t46 <| .nil)
 ·refine wCF hp1.1 tm (s1 u) <| wSkip <| pSeq <| wSeq ?_
  obtain ⟨y2, hy2, h⟩ := bd h
  refine rx (c2 <| cC (reticentref10_Needs.ok hy2) b32 <| cw (oAlloc (id := 7) (ls := Z80) ze80 zl80) tv <| cwn (oStP (n := 0) (k := 0) (m := 14) (d := (kR f_reticentref10_N)) (u := y2) pt80 u u u z80 tm tm) (s2 u u) <| .nil) <| pSeq <| wSeq ?_
  obtain ⟨y3, hy3, h⟩ := bd h
  refine rx (c4 <| c1 <| cp (oIdx u31 z74 hy3 tm tm) (s2 u u) <| c1 <| cw (oAlloc (id := 8) (ls := Z74) ze74 zl74) tv <| cwn (oStA (n := 0) (fs := f_api_Instr) u u z74 tm tm) (s2 u u) <| .nil) <| pSeq <| wSeq <| wSeq <| rx (c1 <| cr (oLdB (n := 1) (k := 0) u u u t4 tm) (s1 u) <| c1 <| .nil) <| pSeq ?_
  obtain ⟨hp4, h⟩ | ⟨hp4, h⟩ := ik h
  ·refine wBT hp4.1 tm (s1 u) <| wSeq <| rx (c1 <| cp (oBuild (fs := f_reticentref10_O) (u := ⟨a2, 3⟩) u ze46 pl46 po46 (.op (zc := [(.int .i64 0), (.int .i64 0), (.slice none 0 0), (.slice none 0 0), (.slice none 0 0), (.slice none 0 0)]) tm u (.op (zc := [(.int .i64 0)]) (cI (by decide)) u .nil))) (s1 u) <| cwn (oStP (n := 2) (k := 0) (m := 7) (d := (kR f_reticentref10_O)) (u := (⟨a2, 3⟩ : reticentref10_O)) pt46 u u u z46 tm tm) (s2 u u) <| .nil) <| pSeq <| wRet <| pThenR ?_
   obtain rfl := so h
   exact pR1 (.inl u) u (.boxP (n := 2) (d := (kR f_reticentref10_O)) (u := (⟨a2, 3⟩ : reticentref10_O)) u u pt46 u t46 <| .nil)
  ·refine wBF hp4.1 tm (s1 u) <| wSkip <| pSeq <| wSeq <| wSeq <| rx (c1 <| cr (oLdB (n := 0) (k := 0) u u u t3 tm) (s1 u) <| c1 <| .nil) <| pSeq ?_
   obtain ⟨hp5, h⟩ | ⟨hp5, h⟩ := ik h
   ·refine wCT hp5.1 tm (s1 u) <| wSeq <| rx (c1 <| cp (oBuild (fs := f_reticentref10_O) (u := ⟨a2, 1⟩) u ze46 pl46 po46 (.op (zc := [(.int .i64 0), (.int .i64 0), (.slice none 0 0), (.slice none 0 0), (.slice none 0 0), (.slice none 0 0)]) tm u (.op (zc := [(.int .i64 0)]) (cI (by decide)) u .nil))) (s1 u) <| cwn (oStP (n := 2) (k := 0) (m := 7) (d := (kR f_reticentref10_O)) (u := (⟨a2, 1⟩ : reticentref10_O)) pt46 u u u z46 tm tm) (s2 u u) <| .nil) <| pSeq <| wRet <| pThenR ?_
    obtain rfl := so h
    exact pR1 (.inl u) u (.boxP (n := 2) (d := (kR f_reticentref10_O)) (u := (⟨a2, 1⟩ : reticentref10_O)) u u pt46 u t46 <| .nil)
   ·refine wCF hp5.1 tm (s1 u) <| wSkip <| pSeq <| wSeq <| rx (c4 <| cr (oLdB (n := 1) (k := 10) u u u t3 tm) (s1 u) <| c1 <| cr (oLdB (n := 1) (k := 11) u u u t3 tm) (s1 u) <| c1 <| cr (oLdB (n := 1) (k := 12) u u u t3 tm) (s1 u) <| cp (oLit (d := ki) el59 (by decide) u u u (e1 tm (e1 tm (e1 tm (e1 tm e0))))) ⟨u, u, u, u, tv⟩ <| c1 <| .nil) <| pSeq <| wSeq ?_
    obtain ⟨y6, hy6, h⟩ := bd h
    refine rx (c3 <| cr (oLdB (n := 0) (k := 0) u u u t3 tm) (s1 u) <| cp (oIdx u26 z61 hy6 tm tm) (s2 u u) <| c1 <| cw (oAlloc (id := 10) (ls := Z61) ze61 zl61) tv <| cwn (oStA (n := 0) (fs := f_api_Row) u u z61 tm tm) (s2 u u) <| .nil) <| pSeq <| wSeq <| wSeq ?_
    obtain ⟨y7, hy7, h⟩ := bd h
    refine rx (c2 <| cr (oLdB (n := 0) (k := 0) u u u t59 tm) (s1 u) <| c1 <| cC (reticentref07_Judge.ok hy7) b33 <| cp (oField (fs := f_reticentref07_V) (k := 0) u ff83_0 t4 tm) (s1 u) <| c1 <| .nil) <| pSeq ?_
    obtain ⟨hp8, h⟩ | ⟨hp8, h⟩ := ik h
    ·refine wBT hp8.1 tm (s1 u) <| wSeq <| rx (c1 <| cp (oBuild (fs := f_reticentref10_O) (u := ⟨a2, 2⟩) u ze46 pl46 po46 (.op (zc := [(.int .i64 0), (.int .i64 0), (.slice none 0 0), (.slice none 0 0), (.slice none 0 0), (.slice none 0 0)]) tm u (.op (zc := [(.int .i64 0)]) (cI (by decide)) u .nil))) (s1 u) <| cwn (oStP (n := 3) (k := 0) (m := 7) (d := (kR f_reticentref10_O)) (u := (⟨a2, 2⟩ : reticentref10_O)) pt46 u u u z46 tm tm) (s2 u u) <| .nil) <| pSeq <| wRet <| pThenR ?_
     obtain rfl := so h
     exact pR1 (.inl u) u (.boxP (n := 3) (d := (kR f_reticentref10_O)) (u := (⟨a2, 2⟩ : reticentref10_O)) u u pt46 u t46 <| .nil)
    ·refine wBF hp8.1 tm (s1 u) <| wSkip <| pSeq <| wSeq ?_
     obtain ⟨y9, hy9, h⟩ := bd h
     refine rx (c2 <| cr (oLdB (n := 0) (k := 1) u u u t59 tm) (s1 u) <| c1 <| cC (reticentref07_Judge.ok hy9) b33 <| cp (oField (fs := f_reticentref07_V) (k := 1) u ff83_1 t3 tm) (s1 u) <| c1 <| .nil) <| pSeq <| wSeq ?_
     obtain ⟨y10, hy10, h⟩ := bd h
     obtain ⟨y11, hy11, h⟩ := bd h
     refine rgL hm (c3 <| cl [] u (oLdP (n := 2) (k := 0) (m := 14) (d := (kR f_reticentref10_N)) (u := y2) pt80 u u u t80 tm) (s1 u) <| c1 <| cC (reticentref10_mem.ok hy10) b34 <| c1 <| cl [] u (oLdP (n := 2) (k := 0) (m := 14) (d := (kR f_reticentref10_N)) (u := y2) pt80 u u u t80 tm) (s1 u) <| c1 <| cC (reticentref10_stack.ok hy11) b35 <| c2 <| cp (oBuild (fs := f_api_State) (u := ⟨(⟨0, 0⟩ : api_Atom), a2.Code, y10, y11, a2.Out⟩) u ze35 pl35 po35 (.ze (zc := [(.int .i64 0), (.int .i64 0)]) zR_api_Atom (.op (zc := [(.slice none 0 0)]) tm u (.op (zc := [(.slice none 0 0)]) tm u (.op (zc := [(.slice none 0 0)]) tm u (.op (zc := [(.slice none 0 0)]) tm u .nil)))))) ⟨u, u, u, u, tv⟩ <| cn (oAlloc (id := 12) (ls := Z35) ze35 zl35) tv <| cwn (oStP (n := 0) (k := 0) (m := 6) (d := (kR f_api_State)) (u := (⟨(⟨0, 0⟩ : api_Atom), a2.Code, y10, y11, a2.Out⟩ : api_State)) pt35 u u u z35 tm tm) (s2 u u) <| .nil) (by kernel_rfl) (by kernel_rfl) (by kernel_rfl) <| pSeq <| wSeq ?_
     obtain ⟨y12, hy12, h⟩ := bd h
     obtain ⟨y13, hy13, h⟩ := bd h
     refine rgD hm (c1 <| cr (oLdP (n := 3) (k := 0) (m := 14) (d := (kR f_reticentref10_N)) (u := y2) pt80 u u u t80 tm) (s1 u) <| cC (reticentref10_next.ok hy12) b36 <| c2 <| cr (oLdB (n := 1) (k := 2) u u u t59 tm) (s1 u) <| c1 <| cC (reticentref07_Judge.ok hy13) b33 <| cp (oField (fs := f_reticentref07_V) (k := 1) u ff83_1 t3 tm) (s1 u) <| cp (oBuild (fs := f_api_Atom) (u := ⟨y12, y13.A⟩) u ze30 pl30 po30 (.op (zc := [(.int .i64 0)]) tm u (.op (zc := [(.int .i64 0)]) tm u .nil))) (s2 u u) <| c1 <| cwn (oStP (n := 0) (k := 0) (m := 2) (d := (kR f_api_Atom)) (u := (⟨y12, y13.A⟩ : api_Atom)) pt30 u u u z30 tm tm) (s2 u u) <| .nil) (by kernel_rfl) (by kernel_rfl) <| pSeq <| wSeq <| wSeq <| rx (c1 <| cr (oLdB (n := 2) (k := 0) u u u t3 tm) (s1 u) <| c1 <| .nil) <| pSeq ?_
     obtain ⟨hp14, h⟩ | ⟨hp14, h⟩ := ik h
     ·refine wCT hp14.1 tm (s1 u) <| wSeq <| rx (cw (oLitR (id := 101) (d := (kR f_api_Atom)) el32 (by decide) u u u e0) tv <| c1 <| .nil) <| pSeq <| wSeq ?_
      obtain ⟨hc15, h⟩ := ib h
      refine rx (c3 <| cw (oApp (n := 0) (id' := 105) el32 (by decide) u (by decide) hc15 tm tm) (s2 u u) <| c1 <| .nil) <| pSeq <| wSeq ?_
      obtain ⟨hc16, h⟩ := ib h
      refine rx (c3 <| cr (oLdB (n := 4) (k := 2) u u u t3 tm) (s1 u) <| c1 <| cp (oBuild (fs := f_api_Atom) (u := ⟨y2.A.V, y9.A⟩) u ze30 pl30 po30 (.op (zc := [(.int .i64 0)]) tm u (.op (zc := [(.int .i64 0)]) tm u .nil))) (s2 u u) <| cp (oLit (d := (kR f_api_Atom)) el32 (by decide) u u u (e1 tm e0)) (s1 u) <| cw (oApp (n := 0) (id' := 113) el32 (by decide) u (by decide) hc16 tm tm) (s2 u u) <| c1 <| .nil) <| pSeq <| rx (c2 <| cwn (oStN (n := 1) (m := 0) (k := 5) u u u u z32 u tm tm) (s2 u u) <| .nil) <| pSeq <| wSeq <| wSeq <| wFrzR (n := 0) (id := 113) [13, 113, 114] u u ⟨u, u, u, tv⟩ ?_
      obtain ⟨y17, hy17, h⟩ := bd h
      refine rx (c1 <| cr (oLdP (n := 0) (k := 0) (m := 6) (d := (kR f_api_State)) (u := (⟨⟨y12, y13.A⟩, a2.Code, y10, y11, (([] : List api_Atom) ++ a2.Out) ++ ([(⟨y2.A.V, y9.A⟩ : api_Atom)] : List api_Atom)⟩ : api_State)) pt35 u u u t35 tm) (s1 u) <| cC (reticentref09_Right.ok hy17) b28 <| c1 <| .nil) <| pSeq ?_
      obtain ⟨hp18, h⟩ | ⟨hp18, h⟩ := ik h
      ·refine wBT hp18.1 tm (s1 u) <| wSeq <| rx (c1 <| cp (oBuild (fs := f_reticentref10_O) (u := ⟨a2, 3⟩) u ze46 pl46 po46 (.op (zc := [(.int .i64 0), (.int .i64 0), (.slice none 0 0), (.slice none 0 0), (.slice none 0 0), (.slice none 0 0)]) tm u (.op (zc := [(.int .i64 0)]) (cI (by decide)) u .nil))) (s1 u) <| cwn (oStP (n := 4) (k := 0) (m := 7) (d := (kR f_reticentref10_O)) (u := (⟨a2, 3⟩ : reticentref10_O)) pt46 u u u z46 tm tm) (s2 u u) <| .nil) <| pSeq <| wRet <| pThenR ?_
       obtain rfl := so h
       exact pR1 (.inl u) u (.boxP (n := 4) (d := (kR f_reticentref10_O)) (u := (⟨a2, 3⟩ : reticentref10_O)) u u pt46 u t46 <| .nil)
      ·refine wBF hp18.1 tm (s1 u) <| wSkip <| pSeq <| wSeq <| rx (cr (oLdP (n := 0) (k := 0) (m := 6) (d := (kR f_api_State)) (u := (⟨⟨y12, y13.A⟩, a2.Code, y10, y11, (([] : List api_Atom) ++ a2.Out) ++ ([(⟨y2.A.V, y9.A⟩ : api_Atom)] : List api_Atom)⟩ : api_State)) pt35 u u u t35 tm) (s1 u) <| cp (oBuild (fs := f_reticentref10_O) (u := ⟨(⟨⟨y12, y13.A⟩, a2.Code, y10, y11, (([] : List api_Atom) ++ a2.Out) ++ ([(⟨y2.A.V, y9.A⟩ : api_Atom)] : List api_Atom)⟩ : api_State), 0⟩) u ze46 pl46 po46 (.op (zc := [(.int .i64 0), (.int .i64 0), (.slice none 0 0), (.slice none 0 0), (.slice none 0 0), (.slice none 0 0)]) tm u (.ze (zc := [(.int .i64 0)]) zI_i64 .nil))) (s1 u) <| cwn (oStP (n := 4) (k := 0) (m := 7) (d := (kR f_reticentref10_O)) (u := (⟨(⟨⟨y12, y13.A⟩, a2.Code, y10, y11, (([] : List api_Atom) ++ a2.Out) ++ ([(⟨y2.A.V, y9.A⟩ : api_Atom)] : List api_Atom)⟩ : api_State), 0⟩ : reticentref10_O)) pt46 u u u z46 tm tm) (s2 u u) <| .nil) <| pSeq <| wRet ?_
       obtain rfl := so h
       exact pR1 (.inl u) u (.boxP (n := 4) (d := (kR f_reticentref10_O)) (u := (⟨⟨⟨y12, y13.A⟩, a2.Code, y10, y11, (([] : List api_Atom) ++ a2.Out) ++ ([(⟨y2.A.V, y9.A⟩ : api_Atom)] : List api_Atom)⟩, 0⟩ : reticentref10_O)) u u pt46 u t46 <| .nil)
     ·refine wCF hp14.1 tm (s1 u) <| wSkip <| pSeq <| wSeq <| wSeq ?_
      obtain ⟨y19, hy19, h⟩ := bd h
      refine rx (c1 <| cr (oLdP (n := 0) (k := 0) (m := 6) (d := (kR f_api_State)) (u := (⟨⟨y12, y13.A⟩, a2.Code, y10, y11, a2.Out⟩ : api_State)) pt35 u u u t35 tm) (s1 u) <| cC (reticentref09_Right.ok hy19) b28 <| c1 <| .nil) <| pSeq ?_
      obtain ⟨hp20, h⟩ | ⟨hp20, h⟩ := ik h
      ·refine wBT hp20.1 tm (s1 u) <| wSeq <| rx (c1 <| cp (oBuild (fs := f_reticentref10_O) (u := ⟨a2, 3⟩) u ze46 pl46 po46 (.op (zc := [(.int .i64 0), (.int .i64 0), (.slice none 0 0), (.slice none 0 0), (.slice none 0 0), (.slice none 0 0)]) tm u (.op (zc := [(.int .i64 0)]) (cI (by decide)) u .nil))) (s1 u) <| cwn (oStP (n := 4) (k := 0) (m := 7) (d := (kR f_reticentref10_O)) (u := (⟨a2, 3⟩ : reticentref10_O)) pt46 u u u z46 tm tm) (s2 u u) <| .nil) <| pSeq <| wRet <| pThenR ?_
       obtain rfl := so h
       exact pR1 (.inl u) u (.boxP (n := 4) (d := (kR f_reticentref10_O)) (u := (⟨a2, 3⟩ : reticentref10_O)) u u pt46 u t46 <| .nil)
      ·refine wBF hp20.1 tm (s1 u) <| wSkip <| pSeq <| wSeq <| rx (cr (oLdP (n := 0) (k := 0) (m := 6) (d := (kR f_api_State)) (u := (⟨⟨y12, y13.A⟩, a2.Code, y10, y11, a2.Out⟩ : api_State)) pt35 u u u t35 tm) (s1 u) <| cp (oBuild (fs := f_reticentref10_O) (u := ⟨(⟨⟨y12, y13.A⟩, a2.Code, y10, y11, a2.Out⟩ : api_State), 0⟩) u ze46 pl46 po46 (.op (zc := [(.int .i64 0), (.int .i64 0), (.slice none 0 0), (.slice none 0 0), (.slice none 0 0), (.slice none 0 0)]) tm u (.ze (zc := [(.int .i64 0)]) zI_i64 .nil))) (s1 u) <| cwn (oStP (n := 4) (k := 0) (m := 7) (d := (kR f_reticentref10_O)) (u := (⟨(⟨⟨y12, y13.A⟩, a2.Code, y10, y11, a2.Out⟩ : api_State), 0⟩ : reticentref10_O)) pt46 u u u z46 tm tm) (s2 u u) <| .nil) <| pSeq <| wRet ?_
       obtain rfl := so h
       exact pR1 (.inl u) u (.boxP (n := 4) (d := (kR f_reticentref10_O)) (u := (⟨⟨⟨y12, y13.A⟩, a2.Code, y10, y11, a2.Out⟩, 0⟩ : reticentref10_O)) u u pt46 u t46 <| .nil)
theorem reticentlaw10_StepOne.ok {a0 : api_Lattice} {a1 : api_Table} {a2 : api_State} {r : Bool} (h : reticentlaw10_StepOne.f a0 a1 a2 = some r) : FnA PP 3 [(kR f_api_Lattice).sig a0, (kR f_api_Table).sig a1, (kR f_api_State).sig a2] (kB.sig r) := by
 refine fnIntro Tryz.func3 u (by kernel_rfl) fun H0 w0 => ?_
 unfold reticentlaw10_StepOne.f at h
 refine wSeq <| rx (cw (oBoxS (id := 3) (fs := f_api_Lattice) tm) (s1 u) <| cw (oBoxS (id := 4) (fs := f_api_Table) tm) (s1 u) <| cw (oBoxP (id := 5) (d := (kR f_api_State)) (ls := [.d ki a2.Pc.V, .d ki a2.Pc.L, .d (kL (kR f_api_Instr)) a2.Code, .d (kL (kR f_api_Atom)) a2.Mem, .d (kL (kR f_api_Slot)) a2.Stack, .d (kL (kR f_api_Atom)) a2.Out]) pt35 u tm) (s1 u) <| c1 <| .nil) <| pSeq <| wSeq ?_
 obtain ⟨y1, hy1, h⟩ := bd h
 obtain ⟨y2, hy2, h⟩ := bd h
 obtain ⟨y3, hy3, h⟩ := bd h
 refine rgD hm (cr (oLdA (n := 2) (fs := f_api_Lattice) (u := ⟨a0.Names, a0.Up⟩) u ⟨u, u, tv⟩ t25 tm) (s1 u) <| cC (reticentlaw10_few.ok hy1) b5 <| cr (oLdA (n := 1) (fs := f_api_Table) (u := ⟨a1.Rows⟩) u ⟨u, tv⟩ t28 tm) (s1 u) <| cC (reticentlaw10_rows.ok hy2) b6 <| cr (oLdP (n := 0) (k := 0) (m := 6) (d := (kR f_api_State)) (u := a2) pt35 u u u t35 tm) (s1 u) <| cC (reticentlaw10_cut.ok hy3) b7 <| cwn (oStA (n := 2) (fs := f_api_Lattice) u u z25 tm tm) (s2 u u) <| cwn (oStA (n := 1) (fs := f_api_Table) u u z28 tm tm) (s2 u u) <| cwn (oStP (n := 0) (k := 0) (m := 6) (d := (kR f_api_State)) (u := y3) pt35 u u u z35 tm tm) (s2 u u) <| .nil) (by kernel_rfl) (by kernel_rfl) <| pSeq <| wSeq ?_
 obtain ⟨y4, hy4, h⟩ := bd h
 refine rx (cr (oLdA (n := 2) (fs := f_api_Lattice) (u := ⟨y1.Names, y1.Up⟩) u ⟨u, u, tv⟩ t25 tm) (s1 u) <| cr (oLdA (n := 1) (fs := f_api_Table) (u := ⟨y2.Rows⟩) u ⟨u, tv⟩ t28 tm) (s1 u) <| cr (oLdP (n := 0) (k := 0) (m := 6) (d := (kR f_api_State)) (u := y3) pt35 u u u t35 tm) (s1 u) <| cC (step_One.ok hy4) b8 <| c4 <| cw (oAlloc (id := 7) (ls := Z35) ze35 zl35) tv <| cwn (oStP (n := 0) (k := 0) (m := 6) (d := (kR f_api_State)) (u := y4.1) pt35 u u u z35 tm tm) (s2 u u) <| c2 <| .nil) <| pSeq <| wSeq <| wSeq ?_
 obtain ⟨y5, hy5, h⟩ := bd h
 refine rx (cr (oLdA (n := 3) (fs := f_api_Lattice) (u := ⟨y1.Names, y1.Up⟩) u ⟨u, u, tv⟩ t25 tm) (s1 u) <| cr (oLdA (n := 2) (fs := f_api_Table) (u := ⟨y2.Rows⟩) u ⟨u, tv⟩ t28 tm) (s1 u) <| cr (oLdP (n := 1) (k := 0) (m := 6) (d := (kR f_api_State)) (u := y3) pt35 u u u t35 tm) (s1 u) <| cC (reticentref10_May.ok hy5) b9 <| c1 <| .nil) <| pSeq <| wSeq <| rx (c2 <| .nil) <| pSeq ?_
 obtain ⟨hp6, h⟩ | ⟨hp6, h⟩ := ik h
 ·refine wNT hp6.1 tm (s1 u) <| wSkip <| pSeq <| wSeq ?_
  obtain ⟨y7, hy7, h⟩ := bd h
  refine rx (cr (oLdA (n := 3) (fs := f_api_Lattice) (u := ⟨y1.Names, y1.Up⟩) u ⟨u, u, tv⟩ t25 tm) (s1 u) <| cr (oLdA (n := 2) (fs := f_api_Table) (u := ⟨y2.Rows⟩) u ⟨u, tv⟩ t28 tm) (s1 u) <| cr (oLdP (n := 1) (k := 0) (m := 6) (d := (kR f_api_State)) (u := y3) pt35 u u u t35 tm) (s1 u) <| cC (reticentref10_Step.ok hy7) b12 <| cw (oAlloc (id := 11) (ls := Z46) ze46 zl46) tv <| cwn (oStP (n := 0) (k := 0) (m := 7) (d := (kR f_reticentref10_O)) (u := y7) pt46 u u u z46 tm tm) (s2 u u) <| .nil) <| pSeq ?_
  obtain ⟨o1, h, hk1⟩ := bd h
  refine wJ1 (fun x13 => x13 = o1) (fun x13 => [(6, .d (kB.sig x13))]) (fun x13 => [.box 11 46 (L46 y7), .box 7 35 (L35 y4.1), .box 5 35 (L35 y3), .box 4 28 [.d (kL (kR f_api_Row)) y2.Rows], .box 3 25 [.d (kL kS) y1.Names, .d (kL (kI .u32)) y1.Up]]) ?_ ?_
  ·obtain ⟨y14, hy14, h⟩ := bd h
   obtain ⟨hp15, h⟩ | ⟨hp15, h⟩ := ik h
   ·obtain ⟨hp16, h⟩ | ⟨hp16, h⟩ := ik h
    ·obtain ⟨hp17, h⟩ | ⟨hp17, h⟩ := ik h
     ·obtain ⟨y18, hy18, h⟩ := bd h
      exact rx (cC (reticentlaw10_alive.ok hy14) b10 <| c6 <| c1 <| crgB (dT hp16.1) u u (oLdB (n := 0) (k := 6) u u u t3 tm) (s1 u) <| c3 <| crgB (dT hp17.1) u u (oLdP (n := 1) (k := 0) (m := 6) (d := (kR f_api_State)) (u := y4.1) pt35 u u u t35 tm) (s1 u) <| c1 <| crgB (dT hp17.1) u u (oLdP (n := 0) (k := 0) (m := 6) (d := (kR f_api_State)) (u := y7.S) pt35 u u u t35 tm) (s1 u) <| cgB (dT hp17.1) u u (oCall u (reticentref09_Same.ok hy18) b11 (oc tm (oc tm o0))) (s2 u u) <| c2 <| .nil) <| pJ1 _ (so h) ⟨u, tv⟩ u
     ·exact rx (cC (reticentlaw10_alive.ok hy14) b10 <| c6 <| c1 <| crgB (dT hp16.1) u u (oLdB (n := 0) (k := 6) u u u t3 tm) (s1 u) <| c8 <| c1 <| .nil) <| pJ1 _ (so h) ⟨u, tv⟩ u
    ·exact rx (cC (reticentlaw10_alive.ok hy14) b10 <| c12 <| c4 <| c1 <| .nil) <| pJ1 _ (so h) ⟨u, tv⟩ u
   ·exact rx (cC (reticentlaw10_alive.ok hy14) b10 <| c12 <| c4 <| c1 <| .nil) <| pJ1 _ (so h) ⟨u, tv⟩ u
  ·rintro x13 rfl
   replace h := hk1
   refine wRet ?_
   obtain rfl := so h
   exact pR1 (.inl u) u (.tmp u <| .nil)
 ·refine wNF hp6.1 tm (s1 u) ?_
  obtain ⟨o1, h, hk1⟩ := bd h
  refine wJ1 (fun x24 => x24 = o1) (fun x24 => [(6, .d (kB.sig x24))]) (fun x24 => [.box 7 35 (L35 y4.1), .box 5 35 (L35 y3), .box 4 28 [.d (kL (kR f_api_Row)) y2.Rows], .box 3 25 [.d (kL kS) y1.Names, .d (kL (kI .u32)) y1.Up]]) ?_ ?_
  ·obtain ⟨y25, hy25, h⟩ := bd h
   obtain ⟨hp26, h⟩ | ⟨hp26, h⟩ := ik h
   ·obtain ⟨hp27, h⟩ | ⟨hp27, h⟩ := ik h
    ·obtain ⟨hp28, h⟩ | ⟨hp28, h⟩ := ik h
     ·obtain ⟨y29, hy29, h⟩ := bd h
      exact rx (cC (reticentlaw10_alive.ok hy25) b10 <| c8 <| c2 <| crgB (dT hp28.1) u u (oLdP (n := 0) (k := 0) (m := 6) (d := (kR f_api_State)) (u := y4.1) pt35 u u u t35 tm) (s1 u) <| cgB (dT hp28.1) u u (oBuild (fs := f_api_State) (u := ⟨(⟨0, 0⟩ : api_Atom), [], [], [], []⟩) u ze35 pl35 po35 (.ze (zc := [(.int .i64 0), (.int .i64 0)]) zR_api_Atom (.ze (zc := [(.slice none 0 0)]) zL (.ze (zc := [(.slice none 0 0)]) zL (.ze (zc := [(.slice none 0 0)]) zL (.ze (zc := [(.slice none 0 0)]) zL .nil)))))) tv <| cgB (dT hp28.1) u u (oCall u (reticentref09_Same.ok hy29) b11 (oc tm (oc tm o0))) (s2 u u) <| c2 <| .nil) <| pJ1 _ (so h) ⟨u, tv⟩ u
     ·exact rx (cC (reticentlaw10_alive.ok hy25) b10 <| c12 <| c3 <| .nil) <| pJ1 _ (so h) ⟨u, tv⟩ u
    ·exact rx (cC (reticentlaw10_alive.ok hy25) b10 <| c12 <| c3 <| .nil) <| pJ1 _ (so h) ⟨u, tv⟩ u
   ·exact rx (cC (reticentlaw10_alive.ok hy25) b10 <| c12 <| c3 <| .nil) <| pJ1 _ (so h) ⟨u, tv⟩ u
  ·rintro x24 rfl
   replace h := hk1
   refine wRet <| pThenR ?_
   obtain rfl := so h
   exact pR1 (.inl u) u (.tmp u <| .nil)

end Go.Proofs.YtmegdednaimgcaaGreatDoor.TT
