import Derived.Test.YtmegdednaimgcaaGreatDoorCln
import Derived.Test.YtmegdednaimgcaaGreatDoorWTTp2
import Derived.Test.YtmegdednaimgcaaGreatDoorProg
set_option linter.unusedVariables false
set_option maxRecDepth 10000
set_option maxHeartbeats 2000000
set_option synthInstance.maxHeartbeats 200000
set_option synthInstance.maxSize 2000
namespace Go.Proofs.YtmegdednaimgcaaGreatDoor.TT
open Go Go.Proofs.YtmegdednaimgcaaGreatDoor.Ab

theorem table_Usual.ok {r : api_Table} (h : table_Usual.f = some r) : FnA PP 29 [] ((kR f_api_Table).sig r) := by
 refine fnIntro Tryz.func29 u (by kernel_rfl) fun H0 w0 => ?_
 unfold table_Usual.f at h
 refine wSeq <| rx (cw (oAlloc (id := 0) (ls := [.d (kL (kR f_api_Row)) []]) ze28 (fun g => ⟨[(.slice none 0 0)], _, u, zL g.H, u⟩)) tv <| .nil) <| pSeq <| wSeq <| rx (cp (oLit (d := ki) el59 (by decide) u u u (e1 (cI (by decide)) e0)) tv <| cp (oLit (d := ki) el59 (by decide) u u u (e1 (cI (by decide)) e0)) tv <| cp (oLit (d := ki) el59 (by decide) u u u (e1 (cI (by decide)) e0)) tv <| c3 <| .nil) <| pSeq <| wSeq <| rx (cp (oLit (d := ki) el59 (by decide) u u u (e1 (cI (by decide)) (e1 (cI (by decide)) (e1 (cI (by decide)) e0)))) tv <| c1 <| .nil) <| pSeq <| wSeq <| rx (cp (oLit (d := ki) el59 (by decide) u u u (e1 (cI (by decide)) (e1 (cI (by decide)) (e1 (cI (by decide)) e0)))) tv <| c1 <| .nil) <| pSeq <| wSeq <| rx (c3 <| cp (oBuild (fs := f_api_Row) (u := ⟨([1] : List Int), ([6] : List Int), ([8] : List Int)⟩) u ze61 pl61 po61 (.op (zc := [(.slice none 0 0)]) tm u (.op (zc := [(.slice none 0 0)]) tm u (.op (zc := [(.slice none 0 0)]) tm u .nil)))) (s3 u u u) <| cw (oAlloc (id := 6) (ls := Z61) ze61 zl61) tv <| cwn (oStA (n := 0) (fs := f_api_Row) u u z61 tm tm) (s2 u u) <| .nil) <| pSeq <| wSeq <| rx (c3 <| cp (oBuild (fs := f_api_Row) (u := ⟨([1] : List Int), ([9, 10, 12] : List Int), ([8] : List Int)⟩) u ze61 pl61 po61 (.op (zc := [(.slice none 0 0)]) tm u (.op (zc := [(.slice none 0 0)]) tm u (.op (zc := [(.slice none 0 0)]) tm u .nil)))) (s3 u u u) <| cw (oAlloc (id := 7) (ls := Z61) ze61 zl61) tv <| cwn (oStA (n := 0) (fs := f_api_Row) u u z61 tm tm) (s2 u u) <| .nil) <| pSeq <| wSeq <| rx (c3 <| cp (oBuild (fs := f_api_Row) (u := ⟨([1] : List Int), ([6] : List Int), ([9, 8, 12] : List Int)⟩) u ze61 pl61 po61 (.op (zc := [(.slice none 0 0)]) tm u (.op (zc := [(.slice none 0 0)]) tm u (.op (zc := [(.slice none 0 0)]) tm u .nil)))) (s3 u u u) <| cw (oAlloc (id := 8) (ls := Z61) ze61 zl61) tv <| cwn (oStA (n := 0) (fs := f_api_Row) u u z61 tm tm) (s2 u u) <| .nil) <| pSeq <| wSeq <| rx (cr (oLdA (n := 2) (fs := f_api_Row) (u := ⟨([1] : List Int), ([6] : List Int), ([8] : List Int)⟩) u ⟨u, u, u, tv⟩ t61 tm) (s1 u) <| c1 <| cp (oLit (d := ki) el59 (by decide) u u u (e1 (cI (by decide)) e0)) tv <| c1 <| cp (oBuild (fs := f_api_Row) (u := ⟨([1] : List Int), ([9] : List Int), ([8] : List Int)⟩) u ze61 pl61 po61 (.op (zc := [(.slice none 0 0)]) tm u (.op (zc := [(.slice none 0 0)]) tm u (.op (zc := [(.slice none 0 0)]) tm u .nil)))) (s3 u u u) <| cr (oLdA (n := 2) (fs := f_api_Row) (u := ⟨([1] : List Int), ([6] : List Int), ([8] : List Int)⟩) u ⟨u, u, u, tv⟩ t61 tm) (s1 u) <| cr (oLdA (n := 1) (fs := f_api_Row) (u := ⟨([1] : List Int), ([9, 10, 12] : List Int), ([8] : List Int)⟩) u ⟨u, u, u, tv⟩ t61 tm) (s1 u) <| cr (oLdA (n := 1) (fs := f_api_Row) (u := ⟨([1] : List Int), ([9, 10, 12] : List Int), ([8] : List Int)⟩) u ⟨u, u, u, tv⟩ t61 tm) (s1 u) <| cr (oLdA (n := 1) (fs := f_api_Row) (u := ⟨([1] : List Int), ([9, 10, 12] : List Int), ([8] : List Int)⟩) u ⟨u, u, u, tv⟩ t61 tm) (s1 u) <| cp (oLit (d := ki) el59 (by decide) u u u (e1 (cI (by decide)) (e1 (cI (by decide)) (e1 (cI (by decide)) (e1 (cI (by decide)) (e1 (cI (by decide)) e0)))))) tv <| cp (oLit (d := ki) el59 (by decide) u u u (e1 (cI (by decide)) (e1 (cI (by decide)) (e1 (cI (by decide)) (e1 (cI (by decide)) (e1 (cI (by decide)) e0)))))) tv <| c1 <| cp (oBuild (fs := f_api_Row) (u := ⟨([9, 8, 12, 11, 5] : List Int), ([9, 10, 12, 8, 12] : List Int), ([8] : List Int)⟩) u ze61 pl61 po61 (.op (zc := [(.slice none 0 0)]) tm u (.op (zc := [(.slice none 0 0)]) tm u (.op (zc := [(.slice none 0 0)]) tm u .nil)))) (s3 u u u) <| cr (oLdA (n := 0) (fs := f_api_Row) (u := ⟨([1] : List Int), ([6] : List Int), ([9, 8, 12] : List Int)⟩) u ⟨u, u, u, tv⟩ t61 tm) (s1 u) <| cr (oLdA (n := 0) (fs := f_api_Row) (u := ⟨([1] : List Int), ([6] : List Int), ([9, 8, 12] : List Int)⟩) u ⟨u, u, u, tv⟩ t61 tm) (s1 u) <| cr (oLdA (n := 0) (fs := f_api_Row) (u := ⟨([1] : List Int), ([6] : List Int), ([9, 8, 12] : List Int)⟩) u ⟨u, u, u, tv⟩ t61 tm) (s1 u) <| c2 <| cp (oLit (d := ki) el59 (by decide) u u u (e1 (cI (by decide)) e0)) tv <| cp (oBuild (fs := f_api_Row) (u := ⟨([1] : List Int), ([9, 8, 12] : List Int), ([10] : List Int)⟩) u ze61 pl61 po61 (.op (zc := [(.slice none 0 0)]) tm u (.op (zc := [(.slice none 0 0)]) tm u (.op (zc := [(.slice none 0 0)]) tm u .nil)))) (s3 u u u) <| c3 <| cp (oBuild (fs := f_api_Row) (u := ⟨([1] : List Int), ([9, 8, 12] : List Int), ([8] : List Int)⟩) u ze61 pl61 po61 (.op (zc := [(.slice none 0 0)]) tm u (.op (zc := [(.slice none 0 0)]) tm u (.op (zc := [(.slice none 0 0)]) tm u .nil)))) (s3 u u u) <| cr (oLdA (n := 2) (fs := f_api_Row) (u := ⟨([1] : List Int), ([6] : List Int), ([8] : List Int)⟩) u ⟨u, u, u, tv⟩ t61 tm) (s1 u) <| cp (oLit (d := (kR f_api_Row)) el26 (by decide) u u u (e1 tm (e1 tm (e1 tm (e1 tm (e1 tm (e1 tm (e1 tm (e1 tm (e1 tm (e1 tm (e1 tm (e1 tm (e1 tm e0)))))))))))))) ⟨u, u, u, u, u, u, u, u, u, u, u, u, u, tv⟩ <| cp (oBuild (fs := f_api_Table) (u := ⟨([(⟨([1] : List Int), ([6] : List Int), ([8] : List Int)⟩ : api_Row), (⟨([1] : List Int), ([9] : List Int), ([8] : List Int)⟩ : api_Row), (⟨([1] : List Int), ([6] : List Int), ([8] : List Int)⟩ : api_Row), (⟨([1] : List Int), ([9, 10, 12] : List Int), ([8] : List Int)⟩ : api_Row), (⟨([1] : List Int), ([9, 10, 12] : List Int), ([8] : List Int)⟩ : api_Row), (⟨([1] : List Int), ([9, 10, 12] : List Int), ([8] : List Int)⟩ : api_Row), (⟨([9, 8, 12, 11, 5] : List Int), ([9, 10, 12, 8, 12] : List Int), ([8] : List Int)⟩ : api_Row), (⟨([1] : List Int), ([6] : List Int), ([9, 8, 12] : List Int)⟩ : api_Row), (⟨([1] : List Int), ([6] : List Int), ([9, 8, 12] : List Int)⟩ : api_Row), (⟨([1] : List Int), ([6] : List Int), ([9, 8, 12] : List Int)⟩ : api_Row), (⟨([1] : List Int), ([9, 8, 12] : List Int), ([10] : List Int)⟩ : api_Row), (⟨([1] : List Int), ([9, 8, 12] : List Int), ([8] : List Int)⟩ : api_Row), (⟨([1] : List Int), ([6] : List Int), ([8] : List Int)⟩ : api_Row)] : List api_Row)⟩) u ze28 pl28 po28 (.op (zc := [(.slice none 0 0)]) tm u .nil)) (s1 u) <| cwn (oStA (n := 3) (fs := f_api_Table) u u z28 tm tm) (s2 u u) <| .nil) <| pSeq <| wRet ?_
 obtain rfl := so h
 exact pR1 (.inl u) u (.box (n := 3) (fs := f_api_Table) (u := ⟨([(⟨([1] : List Int), ([6] : List Int), ([8] : List Int)⟩ : api_Row), (⟨([1] : List Int), ([9] : List Int), ([8] : List Int)⟩ : api_Row), (⟨([1] : List Int), ([6] : List Int), ([8] : List Int)⟩ : api_Row), (⟨([1] : List Int), ([9, 10, 12] : List Int), ([8] : List Int)⟩ : api_Row), (⟨([1] : List Int), ([9, 10, 12] : List Int), ([8] : List Int)⟩ : api_Row), (⟨([1] : List Int), ([9, 10, 12] : List Int), ([8] : List Int)⟩ : api_Row), (⟨([9, 8, 12, 11, 5] : List Int), ([9, 10, 12, 8, 12] : List Int), ([8] : List Int)⟩ : api_Row), (⟨([1] : List Int), ([6] : List Int), ([9, 8, 12] : List Int)⟩ : api_Row), (⟨([1] : List Int), ([6] : List Int), ([9, 8, 12] : List Int)⟩ : api_Row), (⟨([1] : List Int), ([6] : List Int), ([9, 8, 12] : List Int)⟩ : api_Row), (⟨([1] : List Int), ([9, 8, 12] : List Int), ([10] : List Int)⟩ : api_Row), (⟨([1] : List Int), ([9, 8, 12] : List Int), ([8] : List Int)⟩ : api_Row), (⟨([1] : List Int), ([6] : List Int), ([8] : List Int)⟩ : api_Row)] : List api_Row)⟩) u u ⟨u, tv⟩ t28 <| .nil)
theorem reticentlaw11_alive.ok {r : Bool} (h : reticentlaw11_alive.f = some r) : FnA PP 18 [] (kB.sig r) := by
 refine fnIntro Tryz.func18 u (by kernel_rfl) fun H0 w0 => ?_
 unfold reticentlaw11_alive.f at h
 refine wSeq <| rx (c1 <| .nil) <| pSeq <| wSeq <| rx (cp (oLit (d := kS) el22 (by decide) u u u (e1 (cS (by decide)) (e1 (cS (by decide)) e0))) tv <| cp (oLit (d := (kI .u32)) el23 (by decide) u u u (e1 (cI (by decide)) (e1 (cI (by decide)) e0))) tv <| cp (oBuild (fs := f_api_Lattice) (u := ⟨([([97] : Str), ([98] : Str)] : List Str), ([3, 2] : List Int)⟩) u ze25 pl25 po25 (.op (zc := [(.slice none 0 0)]) tm u (.op (zc := [(.slice none 0 0)]) tm u .nil))) (s2 u u) <| cw (oAlloc (id := 1) (ls := Z25) ze25 zl25) tv <| cwn (oStA (n := 0) (fs := f_api_Lattice) u u z25 tm tm) (s2 u u) <| .nil) <| pSeq <| wSeq <| rx (cp (oBuild (fs := f_api_Instr) (u := ⟨1, 1, 0⟩) u ze74 pl74 po74 (.op (zc := [(.int .i64 0)]) (cI (by decide)) u (.op (zc := [(.int .i64 0)]) (cI (by decide)) u (.ze (zc := [(.int .i64 0)]) zI_i64 .nil)))) tv <| cp (oBuild (fs := f_api_Instr) (u := ⟨1, 2, 0⟩) u ze74 pl74 po74 (.op (zc := [(.int .i64 0)]) (cI (by decide)) u (.op (zc := [(.int .i64 0)]) (cI (by decide)) u (.ze (zc := [(.int .i64 0)]) zI_i64 .nil)))) tv <| cp (oBuild (fs := f_api_Instr) (u := ⟨12, 0, 0⟩) u ze74 pl74 po74 (.op (zc := [(.int .i64 0)]) (cI (by decide)) u (.ze (zc := [(.int .i64 0)]) zI_i64 (.ze (zc := [(.int .i64 0)]) zI_i64 .nil)))) tv <| cp (oLit (d := (kR f_api_Instr)) el31 (by decide) u u u (e1 tm (e1 tm (e1 tm e0)))) (s3 u u u) <| cp (oBuild (fs := f_api_State) (u := ⟨(⟨0, 0⟩ : api_Atom), ([(⟨1, 1, 0⟩ : api_Instr), (⟨1, 2, 0⟩ : api_Instr), (⟨12, 0, 0⟩ : api_Instr)] : List api_Instr), [], [], []⟩) u ze35 pl35 po35 (.ze (zc := [(.int .i64 0), (.int .i64 0)]) zR_api_Atom (.op (zc := [(.slice none 0 0)]) tm u (.ze (zc := [(.slice none 0 0)]) zL (.ze (zc := [(.slice none 0 0)]) zL (.ze (zc := [(.slice none 0 0)]) zL .nil)))))) (s1 u) <| cw (oAlloc (id := 2) (ls := Z35) ze35 zl35) tv <| cwn (oStP (n := 0) (k := 0) (m := 6) (d := (kR f_api_State)) (u := (⟨(⟨0, 0⟩ : api_Atom), ([(⟨1, 1, 0⟩ : api_Instr), (⟨1, 2, 0⟩ : api_Instr), (⟨12, 0, 0⟩ : api_Instr)] : List api_Instr), [], [], []⟩ : api_State)) pt35 u u u z35 tm tm) (s2 u u) <| .nil) <| pSeq <| wSeq ?_
 obtain ⟨y1, hy1, h⟩ := bd h
 obtain ⟨y2, hy2, h⟩ := bd h
 refine rdx hm (cr (oLdA (n := 1) (fs := f_api_Lattice) (u := ⟨([([97] : Str), ([98] : Str)] : List Str), ([3, 2] : List Int)⟩) u ⟨u, u, tv⟩ t25 tm) (s1 u) <| cC (table_Usual.ok hy1) <| cr (oLdP (n := 0) (k := 0) (m := 6) (d := (kR f_api_State)) (u := (⟨⟨0, 0⟩, ([(⟨1, 1, 0⟩ : api_Instr), (⟨1, 2, 0⟩ : api_Instr), (⟨12, 0, 0⟩ : api_Instr)] : List api_Instr), [], [], []⟩ : api_State)) pt35 u u u t35 tm) (s1 u) <| cC (run_Run.ok hy2) <| c6 <| c1 <| .nil) <| pSeq ?_
 obtain ⟨o1, h, hk1⟩ := bd h
 refine wJ1 (fun x7 => x7 = o1) (fun x7 => [(0, .d (kB.sig x7))]) (fun x7 => [.box 2 35 [.d ki 0, .d ki 0, .d (kL (kR f_api_Instr)) ([(⟨1, 1, 0⟩ : api_Instr), (⟨1, 2, 0⟩ : api_Instr), (⟨12, 0, 0⟩ : api_Instr)] : List api_Instr), .d (kL (kR f_api_Atom)) [], .d (kL (kR f_api_Slot)) [], .d (kL (kR f_api_Atom)) []], .box 1 25 [.d (kL kS) ([([97] : Str), ([98] : Str)] : List Str), .d (kL (kI .u32)) ([3, 2] : List Int)]]) ?_ ?_
 ·obtain ⟨hp8, h⟩ | ⟨hp8, h⟩ := ik h
  ·obtain ⟨hp9, h⟩ | ⟨hp9, h⟩ := ik h
   ·obtain ⟨hp10, h⟩ | ⟨hp10, h⟩ := ik h
    ·obtain ⟨y11, hy11, h⟩ := bd h
     exact rx (c12 <| c1 <| cgB (dT hp10.1) u u (oIdx u49 z35 hy11 tm (cI (by decide))) (s1 u) <| c6 <| .nil) <| pJ1 _ (so h) (sb u) u
    ·exact rx (c12 <| c8 <| .nil) <| pJ1 _ (so h) (sb u) u
   ·exact rx (c12 <| c8 <| .nil) <| pJ1 _ (so h) (sb u) u
  ·exact rx (c12 <| c8 <| .nil) <| pJ1 _ (so h) (sb u) u
 ·rintro x7 rfl
  replace h := hk1
  refine wRet ?_
  obtain rfl := so h
  exact pR1 (.inl u) u (.tmp u <| .nil)
theorem reticentref08_Same.ok {a0 : List api_Instr} {a1 : List api_Instr} {r : Bool} (h : reticentref08_Same.f a0 a1 = some r) : FnA PP 30 [(kL (kR f_api_Instr)).sig a0, (kL (kR f_api_Instr)).sig a1] (kB.sig r) := by
 refine fnIntro Tryz.func30 u (by kernel_rfl) fun H0 w0 => ?_
 unfold reticentref08_Same.f at h
 refine wSeq <| rx (c1 <| .nil) <| pSeq <| wSeq <| wSeq <| rx (c4 <| c1 <| .nil) <| pSeq ?_
 obtain ⟨hp1, h⟩ | ⟨hp1, h⟩ := ik h
 ·refine wNT hp1.1 tm (s1 u) <| wSkip <| pSeq <| wSeq <| wSeq <| rx (c3 <| .nil) <| pSeq ?_
  obtain ⟨o1, h, hk1⟩ := bd h
  refine wK0 (.inr () = o1) ([]) ([]) ?_ ?_
  ·refine wBlock (wLoop ?_)
   refine lW (pc1 o1 (fun v10 => [(0, .d ((kL (kR f_api_Instr)).sig a0)), (1, .d ((kL (kR f_api_Instr)).sig a1)), (12, .d (ki.sig (a0.length : Int))), (13, .d (ki.sig v10))]) (fun v10 => []) (reticentref08_Same.l0.partial_correctness a0 a1) ?_ _ h) ⟨u, u, u, u, tv⟩ u
   clear h
   intro f' ih v10 h
   refine wSeq <| rx (c1 <| .nil) <| pSeq <| wSeq ?_
   obtain ⟨hp11, h⟩ | ⟨hp11, h⟩ := ik h
   ·refine wCT hp11.1 tm (s1 u) <| wSkip <| pSeq <| wSeq <| wBlock <| wSeq <| rx (c2 <| .nil) <| pSeq <| wSeq ?_
    obtain ⟨y12, hy12, h⟩ := bd h
    obtain ⟨y13, hy13, h⟩ := bd h
    refine rdx hm (c2 <| cp (oIdx u31 z74 hy12 tm tm) (s2 u u) <| c3 <| cp (oIdx u31 z74 hy13 tm tm) (s2 u u) <| c1 <| cp (oRNe eqk74 u eg74 u tm tm) (s2 u u) <| .nil) <| pSeq ?_
    obtain ⟨hp14, h⟩ | ⟨hp14, h⟩ := ik h
    ·exact wNT hp14.1 tm (s1 u) <| wSkip <| pBlkN <| pSeq <| rx (c2 <| .nil) <| pLoop (lW (ih _ h) ⟨u, u, u, u, tv⟩ u)
    ·refine wNF hp14.1 tm (s1 u) <| wSeq <| rx (c1 <| .nil) <| pSeq <| wRet <| pBlkR <| pThenR <| pThenR <| pBlkR <| pThenR ?_
     obtain rfl := so h
     replace h := hk1
     refine pThenR ?_
     obtain rfl := so h
     exact pR1 (.inl u) u (.tmp u <| .nil)
   ·exact wCF hp11.1 tm (s1 u) <| wExit <| pThenX <| pThenX <| pBlkX <| pJ0 (so h) tv u
  ·rintro rfl
   replace h := hk1
   refine pSeq <| wSeq <| rx (c1 <| .nil) <| pSeq <| wRet ?_
   obtain rfl := so h
   exact pR1 (.inl u) u (.tmp u <| .nil)
 ·refine wNF hp1.1 tm (s1 u) <| wSeq <| rx (c1 <| .nil) <| pSeq <| wRet <| pThenR ?_
  obtain rfl := so h
  exact pR1 (.inl u) u (.tmp u <| .nil)
theorem reticentref09_AtomsSame.ok {a0 : List api_Atom} {a1 : List api_Atom} {r : Bool} (h : reticentref09_AtomsSame.f a0 a1 = some r) : FnA PP 31 [(kL (kR f_api_Atom)).sig a0, (kL (kR f_api_Atom)).sig a1] (kB.sig r) := by
 refine fnIntro Tryz.func31 u (by kernel_rfl) fun H0 w0 => ?_
 unfold reticentref09_AtomsSame.f at h
 refine wSeq <| rx (c1 <| .nil) <| pSeq <| wSeq <| wSeq <| rx (c4 <| c1 <| .nil) <| pSeq ?_
 obtain ⟨hp1, h⟩ | ⟨hp1, h⟩ := ik h
 ·refine wNT hp1.1 tm (s1 u) <| wSkip <| pSeq <| wSeq <| wSeq <| rx (c3 <| .nil) <| pSeq ?_
  obtain ⟨o1, h, hk1⟩ := bd h
  refine wK0 (.inr () = o1) ([]) ([]) ?_ ?_
  ·refine wBlock (wLoop ?_)
   refine lW (pc1 o1 (fun v10 => [(0, .d ((kL (kR f_api_Atom)).sig a0)), (1, .d ((kL (kR f_api_Atom)).sig a1)), (12, .d (ki.sig (a0.length : Int))), (13, .d (ki.sig v10))]) (fun v10 => []) (reticentref09_AtomsSame.l0.partial_correctness a0 a1) ?_ _ h) ⟨u, u, u, u, tv⟩ u
   clear h
   intro f' ih v10 h
   refine wSeq <| rx (c1 <| .nil) <| pSeq <| wSeq ?_
   obtain ⟨hp11, h⟩ | ⟨hp11, h⟩ := ik h
   ·refine wCT hp11.1 tm (s1 u) <| wSkip <| pSeq <| wSeq <| wBlock <| wSeq <| rx (c2 <| .nil) <| pSeq <| wSeq ?_
    obtain ⟨y12, hy12, h⟩ := bd h
    obtain ⟨y13, hy13, h⟩ := bd h
    refine rdx hm (c2 <| cp (oIdx u32 z30 hy12 tm tm) (s2 u u) <| c3 <| cp (oIdx u32 z30 hy13 tm tm) (s2 u u) <| c1 <| cp (oRNe eqk30 u eg30 u tm tm) (s2 u u) <| .nil) <| pSeq ?_
    obtain ⟨hp14, h⟩ | ⟨hp14, h⟩ := ik h
    ·exact wNT hp14.1 tm (s1 u) <| wSkip <| pBlkN <| pSeq <| rx (c2 <| .nil) <| pLoop (lW (ih _ h) ⟨u, u, u, u, tv⟩ u)
    ·refine wNF hp14.1 tm (s1 u) <| wSeq <| rx (c1 <| .nil) <| pSeq <| wRet <| pBlkR <| pThenR <| pThenR <| pBlkR <| pThenR ?_
     obtain rfl := so h
     replace h := hk1
     refine pThenR ?_
     obtain rfl := so h
     exact pR1 (.inl u) u (.tmp u <| .nil)
   ·exact wCF hp11.1 tm (s1 u) <| wExit <| pThenX <| pThenX <| pBlkX <| pJ0 (so h) tv u
  ·rintro rfl
   replace h := hk1
   refine pSeq <| wSeq <| rx (c1 <| .nil) <| pSeq <| wRet ?_
   obtain rfl := so h
   exact pR1 (.inl u) u (.tmp u <| .nil)
 ·refine wNF hp1.1 tm (s1 u) <| wSeq <| rx (c1 <| .nil) <| pSeq <| wRet <| pThenR ?_
  obtain rfl := so h
  exact pR1 (.inl u) u (.tmp u <| .nil)
theorem reticentref09_Same.ok {a0 : api_State} {a1 : api_State} {r : Bool} (h : reticentref09_Same.f a0 a1 = some r) : FnA PP 11 [(kR f_api_State).sig a0, (kR f_api_State).sig a1] (kB.sig r) := by
 refine fnIntro Tryz.func11 u (by kernel_rfl) fun H0 w0 => ?_
 unfold reticentref09_Same.f at h
 refine wSeq <| rx (c3 <| .nil) <| pSeq <| wSeq ?_
 obtain ⟨o1, h, hk1⟩ := bd h
 refine wJ1 (fun x8 => x8 = o1) (fun x8 => [(2, .d (sP (kR f_api_State) a0)), (3, .d (sP (kR f_api_State) a1)), (43, .d (kB.sig x8))]) (fun x8 => []) ?_ ?_
 ·obtain ⟨hp9, h⟩ | ⟨hp9, h⟩ := ik h
  ·obtain ⟨y10, hy10, h⟩ := bd h
   obtain ⟨hp11, h⟩ | ⟨hp11, h⟩ := ik h
   ·exact rx (c4 <| cp (oRNe eqk30 u eg30 u tm tm) (s2 u u) <| c4 <| c1 <| cgB (nf hp9.1) u u (oCall u (reticentref08_Same.ok hy10) b30 (oc tm (oc tm o0))) (s2 u u) <| c12 <| c12 <| c3 <| .nil) <| pJ1 _ (so h) (sb u) u
   ·obtain ⟨y12, hy12, h⟩ := bd h
    obtain ⟨hp13, h⟩ | ⟨hp13, h⟩ := ik h
    ·exact rx (c4 <| cp (oRNe eqk30 u eg30 u tm tm) (s2 u u) <| c4 <| c1 <| cgB (nf hp9.1) u u (oCall u (reticentref08_Same.ok hy10) b30 (oc tm (oc tm o0))) (s2 u u) <| c6 <| c1 <| cgB (nb hp11.1) u u (oCall u (reticentref09_AtomsSame.ok hy12) b31 (oc tm (oc tm o0))) (s2 u u) <| c12 <| c6 <| c1 <| .nil) <| pJ1 _ (so h) (sb u) u
    ·obtain ⟨y14, hy14, h⟩ := bd h
     obtain ⟨hp15, h⟩ | ⟨hp15, h⟩ := ik h
     ·exact rx (c4 <| cp (oRNe eqk30 u eg30 u tm tm) (s2 u u) <| c4 <| c1 <| cgB (nf hp9.1) u u (oCall u (reticentref08_Same.ok hy10) b30 (oc tm (oc tm o0))) (s2 u u) <| c6 <| c1 <| cgB (nb hp11.1) u u (oCall u (reticentref09_AtomsSame.ok hy12) b31 (oc tm (oc tm o0))) (s2 u u) <| c6 <| c1 <| cgB (nb hp13.1) u u (oCall u (reticentref09_AtomsSame.ok hy14) b31 (oc tm (oc tm o0))) (s2 u u) <| c8 <| c3 <| .nil) <| pJ1 _ (so h) (sb u) u
     ·exact rx (c4 <| cp (oRNe eqk30 u eg30 u tm tm) (s2 u u) <| c4 <| c1 <| cgB (nf hp9.1) u u (oCall u (reticentref08_Same.ok hy10) b30 (oc tm (oc tm o0))) (s2 u u) <| c6 <| c1 <| cgB (nb hp11.1) u u (oCall u (reticentref09_AtomsSame.ok hy12) b31 (oc tm (oc tm o0))) (s2 u u) <| c6 <| c1 <| cgB (nb hp13.1) u u (oCall u (reticentref09_AtomsSame.ok hy14) b31 (oc tm (oc tm o0))) (s2 u u) <| c8 <| c3 <| .nil) <| pJ1 _ (so h) (sb u) u
  ·exact rx (c4 <| cp (oRNe eqk30 u eg30 u tm tm) (s2 u u) <| c12 <| c12 <| c8 <| c1 <| .nil) <| pJ1 _ (so h) (sb u) u
 ·rintro x8 rfl
  replace h := hk1
  obtain ⟨hp16, h⟩ | ⟨hp16, h⟩ := ik h
  ·refine wBT hp16.1 tm (s1 u) <| wSeq <| rx (c1 <| .nil) <| pSeq <| wRet <| pThenR ?_
   obtain rfl := so h
   exact pR1 (.inl u) u (.tmp u <| .nil)
  ·refine wBF hp16.1 tm (s1 u) <| wSkip <| pSeq <| wSeq <| wSeq <| rx (c4 <| .nil) <| pSeq ?_
   obtain ⟨o1, h, hk1⟩ := bd h
   refine wK0 (.inr () = o1) ([]) ([]) ?_ ?_
   ·refine wBlock (wLoop ?_)
    refine lW (pc1 o1 (fun v25 => [(2, .d (sP (kR f_api_State) a0)), (3, .d (sP (kR f_api_State) a1)), (46, .d (ki.sig (a0.Stack.length : Int))), (47, .d (ki.sig v25))]) (fun v25 => []) (reticentref09_Same.l0.partial_correctness a0 a1) ?_ _ h) ⟨u, u, u, u, tv⟩ u
    clear h
    intro f' ih v25 h
    refine wSeq <| rx (c1 <| .nil) <| pSeq <| wSeq ?_
    obtain ⟨hp26, h⟩ | ⟨hp26, h⟩ := ik h
    ·refine wCT hp26.1 tm (s1 u) <| wSkip <| pSeq <| wSeq <| wBlock <| wSeq <| rx (c2 <| .nil) <| pSeq <| wSeq ?_
     obtain ⟨y27, hy27, h⟩ := bd h
     obtain ⟨y28, hy28, h⟩ := bd h
     refine rdx hm (c3 <| cp (oIdx u33 z76 hy27 tm tm) (s2 u u) <| c4 <| cp (oIdx u33 z76 hy28 tm tm) (s2 u u) <| c1 <| cp (oRNe eqk76 u eg76 u tm tm) (s2 u u) <| .nil) <| pSeq ?_
     obtain ⟨hp29, h⟩ | ⟨hp29, h⟩ := ik h
     ·exact wNT hp29.1 tm (s1 u) <| wSkip <| pBlkN <| pSeq <| rx (c2 <| .nil) <| pLoop (lW (ih _ h) ⟨u, u, u, u, tv⟩ u)
     ·refine wNF hp29.1 tm (s1 u) <| wSeq <| rx (c1 <| .nil) <| pSeq <| wRet <| pBlkR <| pThenR <| pThenR <| pBlkR <| pThenR ?_
      obtain rfl := so h
      replace h := hk1
      refine pThenR ?_
      obtain rfl := so h
      exact pR1 (.inl u) u (.tmp u <| .nil)
    ·exact wCF hp26.1 tm (s1 u) <| wExit <| pThenX <| pThenX <| pBlkX <| pJ0 (so h) tv u
   ·rintro rfl
    replace h := hk1
    refine pSeq <| wSeq <| rx (c1 <| .nil) <| pSeq <| wRet ?_
    obtain rfl := so h
    exact pR1 (.inl u) u (.tmp u <| .nil)
theorem reticentref01_Bottom.ok {a0 : api_Lattice} {r : Int} (h : reticentref01_Bottom.f a0 = some r) : FnA PP 70 [(kR f_api_Lattice).sig a0] (ki.sig r) := by
 refine fnIntro Tryz.func70 u (by kernel_rfl) fun H0 w0 => ?_
 unfold reticentref01_Bottom.f at h
 refine wSeq <| rx (c2 <| .nil) <| pSeq <| wSeq <| rx (c1 <| .nil) <| pSeq <| wSeq <| wSeq <| rx (c4 <| .nil) <| pSeq ?_
 obtain ⟨o1, h, hk1⟩ := bd h
 refine wK1 (fun x7 => x7 = o1) (fun x7 => [(3, .d (ki.sig x7))]) (fun x7 => []) ?_ ?_
 ·refine wBlock (wLoop ?_)
  refine lW (pc2 o1 (fun v5 v6 => [(1, .d (sP (kR f_api_Lattice) a0)), (3, .d (ki.sig v5)), (7, .d (ki.sig (a0.Up.length : Int))), (8, .d (ki.sig v6))]) (fun v5 v6 => []) (reticentref01_Bottom.l0.partial_correctness a0) ?_ _ _ h) ⟨u, u, u, u, tv⟩ u
  clear h
  intro f' ih v5 v6 h
  refine wSeq <| rx (c1 <| .nil) <| pSeq <| wSeq ?_
  obtain ⟨hp8, h⟩ | ⟨hp8, h⟩ := ik h
  ·refine wCT hp8.1 tm (s1 u) <| wSkip <| pSeq <| wSeq <| wBlock <| wSeq <| rx (c2 <| .nil) <| pSeq ?_
   obtain ⟨y9, hy9, h⟩ := bd h
   exact rx (c3 <| cC (reticentref01_Meet.ok hy9) <| c1 <| .nil) <| pBlkN <| pSeq <| rx (c2 <| .nil) <| pLoop (lW (ih _ _ h) ⟨u, u, u, u, tv⟩ u)
  ·exact wCF hp8.1 tm (s1 u) <| wExit <| pThenX <| pThenX <| pBlkX <| pJ1 _ (so h) (sb u) u
 ·rintro x7 rfl
  replace h := hk1
  refine pSeq <| wSeq <| rx (c2 <| .nil) <| pSeq <| wRet ?_
  obtain rfl := so h
  exact pR1 (.inl u) u (.tmp u <| .nil)
theorem reticentref10_takes.ok {a0 : api_Instr} {r : Int} (h : reticentref10_takes.f a0 = some r) : FnA PP 71 [(kR f_api_Instr).sig a0] (ki.sig r) := by
 refine fnIntro Tryz.func71 u (by kernel_rfl) fun H0 w0 => ?_
 unfold reticentref10_takes.f at h
 refine wSeq <| rx (c2 <| .nil) <| pSeq <| wSeq <| wSeq <| rx (c3 <| .nil) <| pSeq ?_
 obtain ⟨hp1, h⟩ | ⟨hp1, h⟩ := ik h
 ·refine wCT hp1.1 tm (s1 u) <| wSeq <| rx (c3 <| .nil) <| pSeq <| wRet <| pThenR ?_
  obtain rfl := so h
  exact pR1 (.inl u) u (.tmp u <| .nil)
 ·refine wCF hp1.1 tm (s1 u) <| wSkip <| pSeq <| wSeq ?_
  obtain ⟨y2, hy2, h⟩ := bd h
  refine rx (cp (oLit (d := ki) el59 (by decide) u u u (e1 (cI (by decide)) (e1 (cI (by decide)) (e1 (cI (by decide)) (e1 (cI (by decide)) (e1 (cI (by decide)) (e1 (cI (by decide)) (e1 (cI (by decide)) (e1 (cI (by decide)) (e1 (cI (by decide)) (e1 (cI (by decide)) (e1 (cI (by decide)) (e1 (cI (by decide)) (e1 (cI (by decide)) e0)))))))))))))) tv <| c2 <| cp (oIdx u59 z3 hy2 tm tm) (s2 u u) <| c2 <| .nil) <| pSeq <| wRet ?_
  obtain rfl := so h
  exact pR1 (.inl u) u (.tmp u <| .nil)
theorem reticentref10_atom.ok {a0 : api_State} {a1 : Int} {r : Bool} (h : reticentref10_atom.f a0 a1 = some r) : FnA PP 72 [(kR f_api_State).sig a0, ki.sig a1] (kB.sig r) := by
 refine fnIntro Tryz.func72 u (by kernel_rfl) fun H0 w0 => ?_
 unfold reticentref10_atom.f at h
 refine wSeq <| rx (c2 <| .nil) <| pSeq <| wSeq <| rx (c6 <| c1 <| .nil) <| pSeq ?_
 obtain ⟨o1, h, hk1⟩ := bd h
 refine wJ1 (fun x3 => x3 = o1) (fun x3 => [(4, .d (kB.sig x3))]) (fun x3 => []) ?_ ?_
 ·obtain ⟨hp4, h⟩ | ⟨hp4, h⟩ := ik h
  ·obtain ⟨y5, hy5, h⟩ := bd h
   exact rx (c6 <| cgB (dT hp4.1) u u (oIdx u33 z76 hy5 tm tm) (s2 u u) <| c4 <| c1 <| .nil) <| pJ1 _ (so h) (sb u) u
  ·exact rx (c12 <| .nil) <| pJ1 _ (so h) (sb u) u
 ·rintro x3 rfl
  replace h := hk1
  refine wRet ?_
  obtain rfl := so h
  exact pR1 (.inl u) u (.tmp u <| .nil)
theorem reticentref10_frame.ok {a0 : api_State} {a1 : Int} {r : Int} (h : reticentref10_frame.f a0 a1 = some r) : FnA PP 73 [(kR f_api_State).sig a0, ki.sig a1] (ki.sig r) := by
 refine fnIntro Tryz.func73 u (by kernel_rfl) fun H0 w0 => ?_
 unfold reticentref10_frame.f at h
 refine wSeq <| rx (c2 <| .nil) <| pSeq <| wSeq <| wSeq <| rx (c3 <| .nil) <| pSeq ?_
 obtain ⟨o1, h, hk1⟩ := bd h
 refine wK0 (.inr () = o1) ([]) ([]) ?_ ?_
 ·refine wBlock (wLoop ?_)
  refine lW (pc1 o1 (fun v7 => [(2, .d (sP (kR f_api_State) a0)), (5, .d (ki.sig v7))]) (fun v7 => []) (reticentref10_frame.l0.partial_correctness a0) ?_ _ h) ⟨u, u, tv⟩ u
  clear h
  intro f' ih v7 h
  refine wSeq <| wSeq <| rx (c2 <| .nil) <| pSeq ?_
  obtain ⟨hp8, h⟩ | ⟨hp8, h⟩ := ik h
  ·refine wCT hp8.1 tm (s1 u) <| wSkip <| pSeq <| wSeq <| wBlock <| wSeq ?_
   obtain ⟨y9, hy9, h⟩ := bd h
   refine rx (c3 <| cp (oIdx u33 z76 hy9 tm tm) (s2 u u) <| c2 <| .nil) <| pSeq ?_
   obtain ⟨hp10, h⟩ | ⟨hp10, h⟩ := ik h
   ·refine wBT hp10.1 tm (s1 u) <| wSeq <| rx (c2 <| .nil) <| pSeq <| wRet <| pBlkR <| pThenR <| pThenR <| pBlkR <| pThenR ?_
    obtain rfl := so h
    replace h := hk1
    refine pThenR ?_
    obtain rfl := so h
    exact pR1 (.inl u) u (.tmp u <| .nil)
   ·exact wBF hp10.1 tm (s1 u) <| wSkip <| pBlkN <| pSeq <| rx (c3 <| .nil) <| pLoop (lW (ih _ h) ⟨u, u, tv⟩ u)
  ·exact wCF hp8.1 tm (s1 u) <| wExit <| pThenX <| pThenX <| pBlkX <| pJ0 (so h) tv u
 ·rintro rfl
  replace h := hk1
  refine pSeq <| wSeq <| rx (c1 <| .nil) <| pSeq <| wRet ?_
  obtain rfl := so h
  exact pR1 (.inl u) u (.tmp u <| .nil)
theorem reticentref10_Needs.ok {a0 : api_Lattice} {a1 : api_State} {r : reticentref10_N} (h : reticentref10_Needs.f a0 a1 = some r) : FnA PP 32 [(kR f_api_Lattice).sig a0, (kR f_api_State).sig a1] ((kR f_reticentref10_N).sig r) := by
 refine fnIntro Tryz.func32 u (by kernel_rfl) fun H0 w0 => ?_
 unfold reticentref10_Needs.f at h
 refine wSeq <| rx (c2 <| cw (oAlloc (id := 4) (ls := Z80) ze80 zl80) tv <| .nil) <| pSeq <| wSeq ?_
 obtain ⟨y1, hy1, h⟩ := bd h
 refine rx (c4 <| c1 <| cp (oIdx u31 z74 hy1 tm tm) (s2 u u) <| c1 <| cw (oAlloc (id := 5) (ls := Z74) ze74 zl74) tv <| cwn (oStA (n := 0) (fs := f_api_Instr) u u z74 tm tm) (s2 u u) <| .nil) <| pSeq <| wSeq ?_
 obtain ⟨y2, hy2, h⟩ := bd h
 refine rx (c1 <| cC (reticentref01_Bottom.ok hy2) <| c1 <| .nil) <| pSeq <| wSeq ?_
 obtain ⟨y3, hy3, h⟩ := bd h
 refine rgL hm (c6 <| cl [] u (oLdA (n := 0) (fs := f_api_Instr) (u := ⟨y1.Op, y1.N, y1.L⟩) u ⟨u, u, u, tv⟩ t74 tm) (s1 u) <| cC (reticentref10_takes.ok hy3) <| c1 <| cp (oBuild (fs := f_reticentref10_N) (u := ⟨false, (⟨false, 0, 0⟩ : api_Slot), (⟨false, 0, 0⟩ : api_Slot), (⟨false, 0, 0⟩ : api_Slot), y2, y2, y2, IntKind.i64.wrap ((a1.Stack.length : Int) - y3)⟩) u ze80 pl80 po80 (.ze (zc := [(.bool false)]) zB (.ze (zc := [(.bool false), (.int .i64 0), (.int .i64 0)]) zR_api_Slot (.ze (zc := [(.bool false), (.int .i64 0), (.int .i64 0)]) zR_api_Slot (.ze (zc := [(.bool false), (.int .i64 0), (.int .i64 0)]) zR_api_Slot (.op (zc := [(.int .i64 0)]) tm u (.op (zc := [(.int .i64 0)]) tm u (.op (zc := [(.int .i64 0)]) tm u (.op (zc := [(.int .i64 0)]) tm u .nil))))))))) ⟨u, u, u, u, tv⟩ <| cn (oAlloc (id := 7) (ls := Z80) ze80 zl80) tv <| cwn (oStP (n := 0) (k := 0) (m := 14) (d := (kR f_reticentref10_N)) (u := (⟨false, (⟨false, 0, 0⟩ : api_Slot), (⟨false, 0, 0⟩ : api_Slot), (⟨false, 0, 0⟩ : api_Slot), y2, y2, y2, IntKind.i64.wrap ((a1.Stack.length : Int) - y3)⟩ : reticentref10_N)) pt80 u u u z80 tm tm) (s2 u u) <| .nil) (by kernel_rfl) (by kernel_rfl) (by kernel_rfl) <| pSeq <| wSeq <| wSeq <| rx (c1 <| .nil) <| pSeq ?_
 obtain ⟨o1, h, hk1⟩ := bd h
 refine wK0 (.inr () = o1) ([(3, .d (sP (kR f_api_State) a1)), (4, .p 4 0), (5, .p 5 0), (7, .p 7 0)]) ([.box 7 80 [.d kB false, .d kB false, .d ki 0, .d ki 0, .d kB false, .d ki 0, .d ki 0, .d kB false, .d ki 0, .d ki 0, .d ki y2, .d ki y2, .d ki y2, .d ki (IntKind.i64.wrap ((a1.Stack.length : Int) - y3))], .box 5 74 (L74 y1), .box 4 80 [.d kB false, .d kB false, .d ki 0, .d ki 0, .d kB false, .d ki 0, .d ki 0, .d kB false, .d ki 0, .d ki 0, .d ki 0, .d ki 0, .d ki 0, .d ki 0]]) ?_ ?_
 ·refine wBlock (wLoop ?_)
  refine lW (pc1 o1 (fun v12 => [(3, .d (sP (kR f_api_State) a1)), (4, .p 4 0), (5, .p 5 0), (7, .p 7 0), (8, .d (ki.sig v12))]) (fun v12 => [.box 7 80 [.d kB false, .d kB false, .d ki 0, .d ki 0, .d kB false, .d ki 0, .d ki 0, .d kB false, .d ki 0, .d ki 0, .d ki y2, .d ki y2, .d ki y2, .d ki (IntKind.i64.wrap ((a1.Stack.length : Int) - y3))], .box 5 74 (L74 y1), .box 4 80 [.d kB false, .d kB false, .d ki 0, .d ki 0, .d kB false, .d ki 0, .d ki 0, .d kB false, .d ki 0, .d ki 0, .d ki 0, .d ki 0, .d ki 0, .d ki 0]]) (reticentref10_Needs.l0.partial_correctness a1 y1) ?_ _ h) ⟨u, u, u, u, u, tv⟩ u
  clear h
  intro f' ih v12 h
  refine wSeq <| wSeq ?_
  obtain ⟨y13, hy13, h⟩ := bd h
  refine rx (c1 <| cr (oLdA (n := 1) (fs := f_api_Instr) (u := ⟨y1.Op, y1.N, y1.L⟩) u ⟨u, u, u, tv⟩ t74 tm) (s1 u) <| cC (reticentref10_takes.ok hy13) <| c1 <| .nil) <| pSeq ?_
  obtain ⟨hp14, h⟩ | ⟨hp14, h⟩ := ik h
  ·refine wCT hp14.1 tm (s1 u) <| wSkip <| pSeq <| wSeq <| wBlock <| wSeq ?_
   obtain ⟨y15, hy15, h⟩ := bd h
   refine rx (c2 <| cC (reticentref10_atom.ok hy15) <| c1 <| .nil) <| pSeq ?_
   obtain ⟨hp16, h⟩ | ⟨hp16, h⟩ := ik h
   ·refine wBT hp16.1 tm (s1 u) <| wSeq <| rx (cp (oBuild (fs := f_reticentref10_N) (u := ⟨false, (⟨false, 0, 0⟩ : api_Slot), (⟨false, 0, 0⟩ : api_Slot), (⟨false, 0, 0⟩ : api_Slot), 0, 0, 0, 0⟩) u ze80 pl80 po80 (.ze (zc := [(.bool false)]) zB (.ze (zc := [(.bool false), (.int .i64 0), (.int .i64 0)]) zR_api_Slot (.ze (zc := [(.bool false), (.int .i64 0), (.int .i64 0)]) zR_api_Slot (.ze (zc := [(.bool false), (.int .i64 0), (.int .i64 0)]) zR_api_Slot (.ze (zc := [(.int .i64 0)]) zI_i64 (.ze (zc := [(.int .i64 0)]) zI_i64 (.ze (zc := [(.int .i64 0)]) zI_i64 (.ze (zc := [(.int .i64 0)]) zI_i64 .nil))))))))) tv <| cwn (oStP (n := 2) (k := 0) (m := 14) (d := (kR f_reticentref10_N)) (u := (⟨false, (⟨false, 0, 0⟩ : api_Slot), (⟨false, 0, 0⟩ : api_Slot), (⟨false, 0, 0⟩ : api_Slot), 0, 0, 0, 0⟩ : reticentref10_N)) pt80 u u u z80 tm tm) (s2 u u) <| .nil) <| pSeq <| wRet <| pBlkR <| pThenR <| pThenR <| pBlkR <| pThenR ?_
    obtain rfl := so h
    replace h := hk1
    refine pThenR ?_
    obtain rfl := so h
    exact pR1 (.inl u) u (.boxP (n := 2) (d := (kR f_reticentref10_N)) (u := (⟨false, ⟨false, 0, 0⟩, ⟨false, 0, 0⟩, ⟨false, 0, 0⟩, 0, 0, 0, 0⟩ : reticentref10_N)) u u pt80 u t80 <| .nil)
   ·exact wBF hp16.1 tm (s1 u) <| wSkip <| pBlkN <| pSeq <| rx (c3 <| .nil) <| pLoop (lW (ih _ h) ⟨u, u, u, u, u, tv⟩ u)
  ·exact wCF hp14.1 tm (s1 u) <| wExit <| pThenX <| pThenX <| pBlkX <| pJ0 (so h) (sb u) u
 ·rintro rfl
  replace h := hk1
  refine pSeq ?_
  obtain ⟨o1, h, hk1⟩ := bd h
  refine wJ1 (fun x20 => x20 = o1) (fun x20 => [(3, .d (sP (kR f_api_State) a1)), (4, .p 4 0), (5, .p 5 0), (7, .p 7 0)]) (fun x20 => [.box 7 80 (L80 x20), .box 5 74 (L74 y1), .box 4 80 [.d kB false, .d kB false, .d ki 0, .d ki 0, .d kB false, .d ki 0, .d ki 0, .d kB false, .d ki 0, .d ki 0, .d ki 0, .d ki 0, .d ki 0, .d ki 0]]) ?_ ?_
  ·refine wSeq ?_
   obtain ⟨y21, hy21, h⟩ := bd h
   refine rx (cr (oLdA (n := 1) (fs := f_api_Instr) (u := ⟨y1.Op, y1.N, y1.L⟩) u ⟨u, u, u, tv⟩ t74 tm) (s1 u) <| cC (reticentref10_takes.ok hy21) <| c1 <| .nil) <| pSeq ?_
   obtain ⟨hp22, h⟩ | ⟨hp22, h⟩ := ik h
   ·refine wCT hp22.1 tm (s1 u) <| wSeq ?_
    obtain ⟨y23, hy23, h⟩ := bd h
    exact rx (c6 <| cp (oIdx u33 z76 hy23 tm tm) (s2 u u) <| c2 <| cwn (oStP (n := 0) (k := 1) (m := 3) (d := (kR f_api_Slot)) (u := y23) pt76 u u u z76 tm tm) (s2 u u) <| .nil) <| pSeq <| rx (c2 <| cr (oLdB (n := 0) (k := 3) u u u t3 tm) (s1 u) <| c1 <| cwn (oSt (n := 0) (k := 10) u u u u z3 tm tm) (s2 u u) <| .nil) <| pJ1 _ (so h) (sb u) u
   ·exact wCF hp22.1 tm (s1 u) <| wSkip <| pJ1 _ (so h) (sb u) u
  ·rintro x20 rfl
   replace h := hk1
   obtain ⟨o1, h, hk1⟩ := bd h
   refine wJ1 (fun x27 => x27 = o1) (fun x27 => [(3, .d (sP (kR f_api_State) a1)), (4, .p 4 0), (5, .p 5 0), (7, .p 7 0)]) (fun x27 => [.box 7 80 (L80 x27), .box 5 74 (L74 y1), .box 4 80 [.d kB false, .d kB false, .d ki 0, .d ki 0, .d kB false, .d ki 0, .d ki 0, .d kB false, .d ki 0, .d ki 0, .d ki 0, .d ki 0, .d ki 0, .d ki 0]]) ?_ ?_
   ·refine wSeq ?_
    obtain ⟨y28, hy28, h⟩ := bd h
    refine rx (cr (oLdA (n := 1) (fs := f_api_Instr) (u := ⟨y1.Op, y1.N, y1.L⟩) u ⟨u, u, u, tv⟩ t74 tm) (s1 u) <| cC (reticentref10_takes.ok hy28) <| c1 <| .nil) <| pSeq ?_
    obtain ⟨hp29, h⟩ | ⟨hp29, h⟩ := ik h
    ·refine wCT hp29.1 tm (s1 u) <| wSeq ?_
     obtain ⟨y30, hy30, h⟩ := bd h
     exact rx (c6 <| cp (oIdx u33 z76 hy30 tm tm) (s2 u u) <| c2 <| cwn (oStP (n := 0) (k := 4) (m := 3) (d := (kR f_api_Slot)) (u := y30) pt76 u u u z76 tm tm) (s2 u u) <| .nil) <| pSeq <| rx (c2 <| cr (oLdB (n := 0) (k := 6) u u u t3 tm) (s1 u) <| c1 <| cwn (oSt (n := 0) (k := 11) u u u u z3 tm tm) (s2 u u) <| .nil) <| pJ1 _ (so h) (sb u) u
    ·exact wCF hp29.1 tm (s1 u) <| wSkip <| pJ1 _ (so h) (sb u) u
   ·rintro x27 rfl
    replace h := hk1
    refine wSeq <| rx (c1 <| cwn (oSt (n := 0) (k := 0) u u u u z4 tm cB) (s1 u) <| .nil) <| pSeq ?_
    obtain ⟨o1, h, hk1⟩ := bd h
    refine wJ1 (fun x100 => .inr x100 = o1) (fun x100 => [(4, .p 4 0), (7, .p 7 0)]) (fun x100 => [.box 7 80 (L80 x100), .box 5 74 (L74 y1), .box 4 80 [.d kB false, .d kB false, .d ki 0, .d ki 0, .d kB false, .d ki 0, .d ki 0, .d kB false, .d ki 0, .d ki 0, .d ki 0, .d ki 0, .d ki 0, .d ki 0]]) ?_ ?_
    ·refine wSeq <| rx (c1 <| cr (oLdB (n := 1) (k := 0) u u u t3 tm) (s1 u) <| .nil) <| pSeq ?_
     obtain ⟨o2, h, hk2⟩ := bd h
     refine wK1 (fun x135 => .inr x135 = o2) (fun x135 => [(4, .p 4 0), (7, .p 7 0)]) (fun x135 => [.box 7 80 (L80 x135), .box 5 74 (L74 y1), .box 4 80 [.d kB false, .d kB false, .d ki 0, .d ki 0, .d kB false, .d ki 0, .d ki 0, .d kB false, .d ki 0, .d ki 0, .d ki 0, .d ki 0, .d ki 0, .d ki 0]]) ?_ ?_
     ·refine wBlock <| wSeq <| rx (c2 <| .nil) <| pSeq ?_
      obtain ⟨hp136, h⟩ | ⟨hp136, h⟩ := ik h
      ·exact wCT hp136.1 tm (s1 u) <| rx (c1 <| cr (oLdB (n := 1) (k := 2) u u u t3 tm) (s1 u) <| c1 <| cwn (oSt (n := 0) (k := 10) u u u u z3 tm tm) (s2 u u) <| .nil) <| pBlkN <| pJ1 _ (so h) (sb u) u
      ·refine wCF hp136.1 tm (s1 u) ?_
       obtain ⟨o3, h, hk3⟩ := bd h
       refine wJ1 (fun x138 => x138 = o3) (fun x138 => [(3, .d (sP (kR f_api_State) a1)), (4, .p 4 0), (5, .p 5 0), (7, .p 7 0), (75, .d (ki.sig y1.Op)), (81, .d (kB.sig x138))]) (fun x138 => [.box 7 80 [.d kB true, .d kB x27.A.Ret, .d ki x27.A.V, .d ki x27.A.L, .d kB x27.B.Ret, .d ki x27.B.V, .d ki x27.B.L, .d kB x27.R.Ret, .d ki x27.R.V, .d ki x27.R.L, .d ki x27.One, .d ki x27.Two, .d ki x27.Three, .d ki x27.Below], .box 5 74 (L74 y1), .box 4 80 [.d kB false, .d kB false, .d ki 0, .d ki 0, .d kB false, .d ki 0, .d ki 0, .d kB false, .d ki 0, .d ki 0, .d ki 0, .d ki 0, .d ki 0, .d ki 0]]) ?_ ?_
       ·refine wSeq <| rx (c2 <| .nil) <| pSeq ?_
        obtain ⟨hp139, h⟩ | ⟨hp139, h⟩ := ik h
        ·exact wCT hp139.1 tm (s1 u) <| wSkip <| pJ1 _ (so h) (sb u) u
        ·exact wCF hp139.1 tm (s1 u) <| rx (c2 <| .nil) <| pJ1 _ (so h) (sb u) u
       ·rintro x138 rfl
        replace h := hk3
        obtain ⟨hp140, h⟩ | ⟨hp140, h⟩ := ik h
        ·refine wBT hp140.1 tm (s1 u) <| wSeq ?_
         obtain ⟨o3, h, hk3⟩ := bd h
         refine wJ1 (fun x142 => x142 = o3) (fun x142 => [(3, .d (sP (kR f_api_State) a1)), (4, .p 4 0), (5, .p 5 0), (7, .p 7 0), (96, .d (kB.sig x142))]) (fun x142 => [.box 7 80 [.d kB true, .d kB x27.A.Ret, .d ki x27.A.V, .d ki x27.A.L, .d kB x27.B.Ret, .d ki x27.B.V, .d ki x27.B.L, .d kB x27.R.Ret, .d ki x27.R.V, .d ki x27.R.L, .d ki x27.One, .d ki x27.Two, .d ki x27.Three, .d ki x27.Below], .box 5 74 (L74 y1), .box 4 80 [.d kB false, .d kB false, .d ki 0, .d ki 0, .d kB false, .d ki 0, .d ki 0, .d kB false, .d ki 0, .d ki 0, .d ki 0, .d ki 0, .d ki 0, .d ki 0]]) ?_ ?_
         ·obtain ⟨hp143, h⟩ | ⟨hp143, h⟩ := ik h
          ·exact rx (c2 <| cr (oLdB (n := 0) (k := 2) u u u t3 tm) (s1 u) <| c8 <| c2 <| .nil) <| pJ1 _ (so h) (sb u) u
          ·exact rx (c2 <| cr (oLdB (n := 0) (k := 2) u u u t3 tm) (s1 u) <| c4 <| crgB (dF hp143.1) u u (oLdB (n := 0) (k := 2) u u u t3 tm) (s1 u) <| c4 <| c1 <| .nil) <| pJ1 _ (so h) (sb u) u
         ·rintro x142 rfl
          replace h := hk3
          obtain ⟨hp144, h⟩ | ⟨hp144, h⟩ := ik h
          ·refine wBT hp144.1 tm (s1 u) <| wSeq <| rx (cp (oBuild (fs := f_reticentref10_N) (u := ⟨false, (⟨false, 0, 0⟩ : api_Slot), (⟨false, 0, 0⟩ : api_Slot), (⟨false, 0, 0⟩ : api_Slot), 0, 0, 0, 0⟩) u ze80 pl80 po80 (.ze (zc := [(.bool false)]) zB (.ze (zc := [(.bool false), (.int .i64 0), (.int .i64 0)]) zR_api_Slot (.ze (zc := [(.bool false), (.int .i64 0), (.int .i64 0)]) zR_api_Slot (.ze (zc := [(.bool false), (.int .i64 0), (.int .i64 0)]) zR_api_Slot (.ze (zc := [(.int .i64 0)]) zI_i64 (.ze (zc := [(.int .i64 0)]) zI_i64 (.ze (zc := [(.int .i64 0)]) zI_i64 (.ze (zc := [(.int .i64 0)]) zI_i64 .nil))))))))) tv <| cwn (oStP (n := 2) (k := 0) (m := 14) (d := (kR f_reticentref10_N)) (u := (⟨false, (⟨false, 0, 0⟩ : api_Slot), (⟨false, 0, 0⟩ : api_Slot), (⟨false, 0, 0⟩ : api_Slot), 0, 0, 0, 0⟩ : reticentref10_N)) pt80 u u u z80 tm tm) (s2 u u) <| .nil) <| pSeq <| wRet <| pThenR <| pBlkR <| pThenR ?_
           obtain rfl := so h
           replace h := hk2
           refine pThenR ?_
           obtain rfl := so h
           replace h := hk1
           obtain rfl := so h
           exact pR1 (.inl u) u (.boxP (n := 2) (d := (kR f_reticentref10_N)) (u := (⟨false, ⟨false, 0, 0⟩, ⟨false, 0, 0⟩, ⟨false, 0, 0⟩, 0, 0, 0, 0⟩ : reticentref10_N)) u u pt80 u t80 <| .nil)
          ·refine wBF hp144.1 tm (s1 u) <| wSkip <| pSeq <| wSeq <| rx (c1 <| cr (oLdB (n := 1) (k := 0) u u u t3 tm) (s1 u) <| c1 <| .nil) <| pSeq ?_
           obtain ⟨hp145, h⟩ | ⟨hp145, h⟩ := ik h
           ·refine wCT hp145.1 tm (s1 u) ?_
            obtain ⟨y146, hy146, h⟩ := bd h
            exact rx (c4 <| cr (oLdB (n := 0) (k := 2) u u u t3 tm) (s1 u) <| cp (oIdx u32 z30 hy146 tm tm) (s2 u u) <| c3 <| cwn (oSt (n := 0) (k := 11) u u u u z3 tm tm) (s2 u u) <| .nil) <| pBlkN <| pJ1 _ (so h) (sb u) u
           ·refine wCF hp145.1 tm (s1 u) ?_
            obtain ⟨y147, hy147, h⟩ := bd h
            exact rx (c4 <| cr (oLdB (n := 0) (k := 2) u u u t3 tm) (s1 u) <| cp (oIdx u32 z30 hy147 tm tm) (s2 u u) <| c3 <| cwn (oSt (n := 0) (k := 12) u u u u z3 tm tm) (s2 u u) <| .nil) <| pBlkN <| pJ1 _ (so h) (sb u) u
        ·refine wBF hp140.1 tm (s1 u) ?_
         obtain ⟨o3, h, hk3⟩ := bd h
         refine wJ1 (fun x149 => x149 = o3) (fun x149 => [(3, .d (sP (kR f_api_State) a1)), (4, .p 4 0), (5, .p 5 0), (7, .p 7 0), (75, .d (ki.sig y1.Op)), (119, .d (kB.sig x149))]) (fun x149 => [.box 7 80 [.d kB true, .d kB x27.A.Ret, .d ki x27.A.V, .d ki x27.A.L, .d kB x27.B.Ret, .d ki x27.B.V, .d ki x27.B.L, .d kB x27.R.Ret, .d ki x27.R.V, .d ki x27.R.L, .d ki x27.One, .d ki x27.Two, .d ki x27.Three, .d ki x27.Below], .box 5 74 (L74 y1), .box 4 80 [.d kB false, .d kB false, .d ki 0, .d ki 0, .d kB false, .d ki 0, .d ki 0, .d kB false, .d ki 0, .d ki 0, .d ki 0, .d ki 0, .d ki 0, .d ki 0]]) ?_ ?_
         ·refine wSeq <| rx (c2 <| .nil) <| pSeq ?_
          obtain ⟨hp150, h⟩ | ⟨hp150, h⟩ := ik h
          ·exact wCT hp150.1 tm (s1 u) <| wSkip <| pJ1 _ (so h) (sb u) u
          ·exact wCF hp150.1 tm (s1 u) <| rx (c2 <| .nil) <| pJ1 _ (so h) (sb u) u
         ·rintro x149 rfl
          replace h := hk3
          obtain ⟨hp151, h⟩ | ⟨hp151, h⟩ := ik h
          ·refine wBT hp151.1 tm (s1 u) <| wSeq ?_
           obtain ⟨o3, h, hk3⟩ := bd h
           refine wJ1 (fun x153 => x153 = o3) (fun x153 => [(3, .d (sP (kR f_api_State) a1)), (4, .p 4 0), (5, .p 5 0), (7, .p 7 0), (131, .d (kB.sig x153))]) (fun x153 => [.box 7 80 [.d kB true, .d kB x27.A.Ret, .d ki x27.A.V, .d ki x27.A.L, .d kB x27.B.Ret, .d ki x27.B.V, .d ki x27.B.L, .d kB x27.R.Ret, .d ki x27.R.V, .d ki x27.R.L, .d ki x27.One, .d ki x27.Two, .d ki x27.Three, .d ki x27.Below], .box 5 74 (L74 y1), .box 4 80 [.d kB false, .d kB false, .d ki 0, .d ki 0, .d kB false, .d ki 0, .d ki 0, .d kB false, .d ki 0, .d ki 0, .d ki 0, .d ki 0, .d ki 0, .d ki 0]]) ?_ ?_
           ·obtain ⟨hp154, h⟩ | ⟨hp154, h⟩ := ik h
            ·exact rx (c2 <| cr (oLdB (n := 0) (k := 2) u u u t3 tm) (s1 u) <| c6 <| c1 <| .nil) <| pJ1 _ (so h) (sb u) u
            ·exact rx (c2 <| cr (oLdB (n := 0) (k := 2) u u u t3 tm) (s1 u) <| c4 <| crgB (dF hp154.1) u u (oLdB (n := 0) (k := 2) u u u t3 tm) (s1 u) <| c2 <| .nil) <| pJ1 _ (so h) (sb u) u
           ·rintro x153 rfl
            replace h := hk3
            obtain ⟨hp155, h⟩ | ⟨hp155, h⟩ := ik h
            ·refine wBT hp155.1 tm (s1 u) <| wSeq <| rx (cp (oBuild (fs := f_reticentref10_N) (u := ⟨false, (⟨false, 0, 0⟩ : api_Slot), (⟨false, 0, 0⟩ : api_Slot), (⟨false, 0, 0⟩ : api_Slot), 0, 0, 0, 0⟩) u ze80 pl80 po80 (.ze (zc := [(.bool false)]) zB (.ze (zc := [(.bool false), (.int .i64 0), (.int .i64 0)]) zR_api_Slot (.ze (zc := [(.bool false), (.int .i64 0), (.int .i64 0)]) zR_api_Slot (.ze (zc := [(.bool false), (.int .i64 0), (.int .i64 0)]) zR_api_Slot (.ze (zc := [(.int .i64 0)]) zI_i64 (.ze (zc := [(.int .i64 0)]) zI_i64 (.ze (zc := [(.int .i64 0)]) zI_i64 (.ze (zc := [(.int .i64 0)]) zI_i64 .nil))))))))) tv <| cwn (oStP (n := 2) (k := 0) (m := 14) (d := (kR f_reticentref10_N)) (u := (⟨false, (⟨false, 0, 0⟩ : api_Slot), (⟨false, 0, 0⟩ : api_Slot), (⟨false, 0, 0⟩ : api_Slot), 0, 0, 0, 0⟩ : reticentref10_N)) pt80 u u u z80 tm tm) (s2 u u) <| .nil) <| pSeq <| wRet <| pThenR <| pBlkR <| pThenR ?_
             obtain rfl := so h
             replace h := hk2
             refine pThenR ?_
             obtain rfl := so h
             replace h := hk1
             obtain rfl := so h
             exact pR1 (.inl u) u (.boxP (n := 2) (d := (kR f_reticentref10_N)) (u := (⟨false, ⟨false, 0, 0⟩, ⟨false, 0, 0⟩, ⟨false, 0, 0⟩, 0, 0, 0, 0⟩ : reticentref10_N)) u u pt80 u t80 <| .nil)
            ·refine wBF hp155.1 tm (s1 u) <| wSkip <| pSeq <| wSeq <| rx (c1 <| .nil) <| pSeq ?_
             obtain ⟨o3, h, hk3⟩ := bd h
             refine wK0 (.inr () = o3) ([(4, .p 4 0), (7, .p 7 0)]) ([.box 7 80 [.d kB true, .d kB x27.A.Ret, .d ki x27.A.V, .d ki x27.A.L, .d kB x27.B.Ret, .d ki x27.B.V, .d ki x27.B.L, .d kB x27.R.Ret, .d ki x27.R.V, .d ki x27.R.L, .d ki x27.One, .d ki x27.Two, .d ki x27.Three, .d ki x27.Below], .box 5 74 (L74 y1), .box 4 80 [.d kB false, .d kB false, .d ki 0, .d ki 0, .d kB false, .d ki 0, .d ki 0, .d kB false, .d ki 0, .d ki 0, .d ki 0, .d ki 0, .d ki 0, .d ki 0]]) ?_ ?_
             ·refine wBlock (wLoop ?_)
              refine lW (pc1 o3 (fun v162 => [(3, .d (sP (kR f_api_State) a1)), (4, .p 4 0), (5, .p 5 0), (7, .p 7 0), (9, .d (ki.sig v162))]) (fun v162 => [.box 7 80 [.d kB true, .d kB x27.A.Ret, .d ki x27.A.V, .d ki x27.A.L, .d kB x27.B.Ret, .d ki x27.B.V, .d ki x27.B.L, .d kB x27.R.Ret, .d ki x27.R.V, .d ki x27.R.L, .d ki x27.One, .d ki x27.Two, .d ki x27.Three, .d ki x27.Below], .box 5 74 (L74 y1), .box 4 80 [.d kB false, .d kB false, .d ki 0, .d ki 0, .d kB false, .d ki 0, .d ki 0, .d kB false, .d ki 0, .d ki 0, .d ki 0, .d ki 0, .d ki 0, .d ki 0]]) (reticentref10_Needs.l4.partial_correctness a1 y1) ?_ _ h) ⟨u, u, u, u, u, tv⟩ u
              clear h
              intro f' ih v162 h
              refine wSeq <| wSeq <| rx (c2 <| cr (oLdB (n := 1) (k := 1) u u u t3 tm) (s1 u) <| c1 <| .nil) <| pSeq ?_
              obtain ⟨hp163, h⟩ | ⟨hp163, h⟩ := ik h
              ·refine wCT hp163.1 tm (s1 u) <| wSkip <| pSeq <| wSeq <| wBlock <| wSeq ?_
               obtain ⟨y164, hy164, h⟩ := bd h
               refine rx (c3 <| cC (reticentref10_atom.ok hy164) <| c1 <| .nil) <| pSeq ?_
               obtain ⟨hp165, h⟩ | ⟨hp165, h⟩ := ik h
               ·refine wBT hp165.1 tm (s1 u) <| wSeq <| rx (cp (oBuild (fs := f_reticentref10_N) (u := ⟨false, (⟨false, 0, 0⟩ : api_Slot), (⟨false, 0, 0⟩ : api_Slot), (⟨false, 0, 0⟩ : api_Slot), 0, 0, 0, 0⟩) u ze80 pl80 po80 (.ze (zc := [(.bool false)]) zB (.ze (zc := [(.bool false), (.int .i64 0), (.int .i64 0)]) zR_api_Slot (.ze (zc := [(.bool false), (.int .i64 0), (.int .i64 0)]) zR_api_Slot (.ze (zc := [(.bool false), (.int .i64 0), (.int .i64 0)]) zR_api_Slot (.ze (zc := [(.int .i64 0)]) zI_i64 (.ze (zc := [(.int .i64 0)]) zI_i64 (.ze (zc := [(.int .i64 0)]) zI_i64 (.ze (zc := [(.int .i64 0)]) zI_i64 .nil))))))))) tv <| cwn (oStP (n := 2) (k := 0) (m := 14) (d := (kR f_reticentref10_N)) (u := (⟨false, (⟨false, 0, 0⟩ : api_Slot), (⟨false, 0, 0⟩ : api_Slot), (⟨false, 0, 0⟩ : api_Slot), 0, 0, 0, 0⟩ : reticentref10_N)) pt80 u u u z80 tm tm) (s2 u u) <| .nil) <| pSeq <| wRet <| pBlkR <| pThenR <| pThenR <| pBlkR <| pThenR ?_
                obtain rfl := so h
                replace h := hk3
                refine pBlkR <| pThenR ?_
                obtain rfl := so h
                replace h := hk2
                refine pThenR ?_
                obtain rfl := so h
                replace h := hk1
                obtain rfl := so h
                exact pR1 (.inl u) u (.boxP (n := 2) (d := (kR f_reticentref10_N)) (u := (⟨false, ⟨false, 0, 0⟩, ⟨false, 0, 0⟩, ⟨false, 0, 0⟩, 0, 0, 0, 0⟩ : reticentref10_N)) u u pt80 u t80 <| .nil)
               ·exact wBF hp165.1 tm (s1 u) <| wSkip <| pBlkN <| pSeq <| rx (c3 <| .nil) <| pLoop (lW (ih _ h) ⟨u, u, u, u, u, tv⟩ u)
              ·exact wCF hp163.1 tm (s1 u) <| wExit <| pThenX <| pThenX <| pBlkX <| pJ0 (so h) (sb u) u
             ·rintro rfl
              replace h := hk3
              exact pBlkN <| pJ1 _ (so h) (sb u) u
          ·refine wBF hp151.1 tm (s1 u) <| wSeq <| rx (c2 <| .nil) <| pSeq ?_
           obtain ⟨hp166, h⟩ | ⟨hp166, h⟩ := ik h
           ·refine wCT hp166.1 tm (s1 u) <| wSeq ?_
            obtain ⟨y167, hy167, h⟩ := bd h
            refine rx (c2 <| cr (oLdB (n := 0) (k := 13) u u u t3 tm) (s1 u) <| cC (reticentref10_frame.ok hy167) <| c1 <| .nil) <| pSeq <| wSeq <| wSeq <| rx (c2 <| .nil) <| pSeq ?_
            obtain ⟨hp168, h⟩ | ⟨hp168, h⟩ := ik h
            ·refine wCT hp168.1 tm (s1 u) <| wSeq <| rx (cp (oBuild (fs := f_reticentref10_N) (u := ⟨false, (⟨false, 0, 0⟩ : api_Slot), (⟨false, 0, 0⟩ : api_Slot), (⟨false, 0, 0⟩ : api_Slot), 0, 0, 0, 0⟩) u ze80 pl80 po80 (.ze (zc := [(.bool false)]) zB (.ze (zc := [(.bool false), (.int .i64 0), (.int .i64 0)]) zR_api_Slot (.ze (zc := [(.bool false), (.int .i64 0), (.int .i64 0)]) zR_api_Slot (.ze (zc := [(.bool false), (.int .i64 0), (.int .i64 0)]) zR_api_Slot (.ze (zc := [(.int .i64 0)]) zI_i64 (.ze (zc := [(.int .i64 0)]) zI_i64 (.ze (zc := [(.int .i64 0)]) zI_i64 (.ze (zc := [(.int .i64 0)]) zI_i64 .nil))))))))) tv <| cwn (oStP (n := 2) (k := 0) (m := 14) (d := (kR f_reticentref10_N)) (u := (⟨false, (⟨false, 0, 0⟩ : api_Slot), (⟨false, 0, 0⟩ : api_Slot), (⟨false, 0, 0⟩ : api_Slot), 0, 0, 0, 0⟩ : reticentref10_N)) pt80 u u u z80 tm tm) (s2 u u) <| .nil) <| pSeq <| wRet <| pThenR <| pBlkR <| pThenR ?_
             obtain rfl := so h
             replace h := hk2
             refine pThenR ?_
             obtain rfl := so h
             replace h := hk1
             obtain rfl := so h
             exact pR1 (.inl u) u (.boxP (n := 2) (d := (kR f_reticentref10_N)) (u := (⟨false, ⟨false, 0, 0⟩, ⟨false, 0, 0⟩, ⟨false, 0, 0⟩, 0, 0, 0, 0⟩ : reticentref10_N)) u u pt80 u t80 <| .nil)
            ·refine wCF hp168.1 tm (s1 u) <| wSkip <| pSeq <| wSeq ?_
             obtain ⟨y169, hy169, h⟩ := bd h
             exact rx (c3 <| cp (oIdx u33 z76 hy169 tm tm) (s2 u u) <| c2 <| cwn (oStP (n := 0) (k := 7) (m := 3) (d := (kR f_api_Slot)) (u := y169) pt76 u u u z76 tm tm) (s2 u u) <| .nil) <| pSeq <| wSeq <| rx (c2 <| cr (oLdB (n := 0) (k := 9) u u u t3 tm) (s1 u) <| c1 <| cwn (oSt (n := 0) (k := 11) u u u u z3 tm tm) (s2 u u) <| .nil) <| pSeq <| rx (c2 <| cwn (oSt (n := 0) (k := 13) u u u u z3 tm tm) (s2 u u) <| .nil) <| pBlkN <| pJ1 _ (so h) (sb u) u
           ·exact wCF hp166.1 tm (s1 u) <| wSkip <| pBlkN <| pJ1 _ (so h) (sb u) u
     ·rintro x135 rfl
      replace h := hk2
      exact pJ1 _ (so h) (sb u) u
    ·rintro x100 rfl
     replace h := hk1
     refine wSeq <| rx (cr (oLdP (n := 0) (k := 0) (m := 14) (d := (kR f_reticentref10_N)) (u := x100) pt80 u u u t80 tm) (s1 u) <| cwn (oStP (n := 2) (k := 0) (m := 14) (d := (kR f_reticentref10_N)) (u := x100) pt80 u u u z80 tm tm) (s2 u u) <| .nil) <| pSeq <| wRet ?_
     obtain rfl := so h
     exact pR1 (.inl u) u (.boxP (n := 2) (d := (kR f_reticentref10_N)) (u := x100) u u pt80 u t80 <| .nil)
theorem reticentref01_Top.ok {a0 : api_Lattice} {r : Int} (h : reticentref01_Top.f a0 = some r) : FnA PP 114 [(kR f_api_Lattice).sig a0] (ki.sig r) := by
 refine fnIntro Tryz.func114 u (by kernel_rfl) fun H0 w0 => ?_
 unfold reticentref01_Top.f at h
 refine wSeq <| rx (c2 <| .nil) <| pSeq <| wSeq <| rx (c1 <| .nil) <| pSeq <| wSeq <| wSeq <| rx (c4 <| .nil) <| pSeq ?_
 obtain ⟨o1, h, hk1⟩ := bd h
 refine wK1 (fun x7 => x7 = o1) (fun x7 => [(3, .d (ki.sig x7))]) (fun x7 => []) ?_ ?_
 ·refine wBlock (wLoop ?_)
  refine lW (pc2 o1 (fun v5 v6 => [(1, .d (sP (kR f_api_Lattice) a0)), (3, .d (ki.sig v5)), (7, .d (ki.sig (a0.Up.length : Int))), (8, .d (ki.sig v6))]) (fun v5 v6 => []) (reticentref01_Top.l0.partial_correctness a0) ?_ _ _ h) ⟨u, u, u, u, tv⟩ u
  clear h
  intro f' ih v5 v6 h
  refine wSeq <| rx (c1 <| .nil) <| pSeq <| wSeq ?_
  obtain ⟨hp8, h⟩ | ⟨hp8, h⟩ := ik h
  ·refine wCT hp8.1 tm (s1 u) <| wSkip <| pSeq <| wSeq <| wBlock <| wSeq <| rx (c2 <| .nil) <| pSeq ?_
   obtain ⟨y9, hy9, h⟩ := bd h
   exact rx (c3 <| cC (reticentref01_Join.ok hy9) <| c1 <| .nil) <| pBlkN <| pSeq <| rx (c2 <| .nil) <| pLoop (lW (ih _ _ h) ⟨u, u, u, u, tv⟩ u)
  ·exact wCF hp8.1 tm (s1 u) <| wExit <| pThenX <| pThenX <| pBlkX <| pJ1 _ (so h) (sb u) u
 ·rintro x7 rfl
  replace h := hk1
  refine pSeq <| wSeq <| rx (c2 <| .nil) <| pSeq <| wRet ?_
  obtain rfl := so h
  exact pR1 (.inl u) u (.tmp u <| .nil)
theorem reticentref07_Thing.okB {rc : api_Lattice -> (List Int) -> (List Int) -> Int -> Option reticentref07_V} (hrc : ∀ {a0 : api_Lattice} {a1 : List Int} {a2 : List Int} {a3 : Int} {r : reticentref07_V}, rc a0 a1 a2 a3 = some r -> FnA PP 74 [(kR f_api_Lattice).sig a0, (kL ki).sig a1, (kL ki).sig a2, ki.sig a3] ((kR f_reticentref07_V).sig r)) {a0 : api_Lattice} {a1 : List Int} {a2 : List Int} {a3 : Int} {r : reticentref07_V} (h : reticentref07_Thing.B rc a0 a1 a2 a3 = some r) : FnA PP 74 [(kR f_api_Lattice).sig a0, (kL ki).sig a1, (kL ki).sig a2, ki.sig a3] ((kR f_reticentref07_V).sig r) := by
 refine fnIntro Tryz.func74 u (by kernel_rfl) fun H0 w0 => ?_
 unfold reticentref07_Thing.B at h
 refine wSeq <| rx (c1 <| cw (oAlloc (id := 8) (ls := Z83) ze83 zl83) tv <| .nil) <| pSeq <| wSeq ?_
 obtain ⟨y1, hy1, h⟩ := bd h
 refine rx (c2 <| cp (oIdx u59 z3 hy1 tm tm) (s2 u u) <| c2 <| .nil) <| pSeq <| wSeq <| wSeq <| rx (c2 <| .nil) <| pSeq ?_
 obtain ⟨hp2, h⟩ | ⟨hp2, h⟩ := ik h
 ·refine wCT hp2.1 tm (s1 u) <| wSeq <| rx (c3 <| cp (oBuild (fs := f_reticentref07_V) (u := ⟨decide (y1 = 1), 0, a3⟩) u ze83 pl83 po83 (.op (zc := [(.bool false)]) tm u (.ze (zc := [(.int .i64 0)]) zI_i64 (.op (zc := [(.int .i64 0)]) tm u .nil)))) (s2 u u) <| cwn (oStA (n := 0) (fs := f_reticentref07_V) u u z83 tm tm) (s2 u u) <| .nil) <| pSeq <| wRet <| pThenR ?_
  obtain rfl := so h
  exact pR1 (.inl u) u (.box (n := 0) (fs := f_reticentref07_V) (u := ⟨decide (y1 = 1), 0, a3⟩) u u ⟨u, u, u, tv⟩ t83 <| .nil)
 ·refine wCF hp2.1 tm (s1 u) <| wSkip <| pSeq <| wSeq <| wSeq <| rx (c2 <| .nil) <| pSeq ?_
  obtain ⟨hp3, h⟩ | ⟨hp3, h⟩ := ik h
  ·refine wCT hp3.1 tm (s1 u) <| wSeq ?_
   obtain ⟨y4, hy4, h⟩ := bd h
   refine rx (c1 <| cC (reticentref01_Bottom.ok hy4) <| c1 <| cp (oBuild (fs := f_reticentref07_V) (u := ⟨false, y4, a3⟩) u ze83 pl83 po83 (.ze (zc := [(.bool false)]) zB (.op (zc := [(.int .i64 0)]) tm u (.op (zc := [(.int .i64 0)]) tm u .nil)))) (s2 u u) <| cwn (oStA (n := 0) (fs := f_reticentref07_V) u u z83 tm tm) (s2 u u) <| .nil) <| pSeq <| wRet <| pThenR ?_
   obtain rfl := so h
   exact pR1 (.inl u) u (.box (n := 0) (fs := f_reticentref07_V) (u := ⟨false, y4, a3⟩) u u ⟨u, u, u, tv⟩ t83 <| .nil)
  ·refine wCF hp3.1 tm (s1 u) <| wSkip <| pSeq <| wSeq <| wSeq <| rx (c2 <| .nil) <| pSeq ?_
   obtain ⟨hp5, h⟩ | ⟨hp5, h⟩ := ik h
   ·refine wCT hp5.1 tm (s1 u) <| wSeq ?_
    obtain ⟨y6, hy6, h⟩ := bd h
    refine rx (c1 <| cC (reticentref01_Top.ok hy6) <| c1 <| cp (oBuild (fs := f_reticentref07_V) (u := ⟨false, y6, a3⟩) u ze83 pl83 po83 (.ze (zc := [(.bool false)]) zB (.op (zc := [(.int .i64 0)]) tm u (.op (zc := [(.int .i64 0)]) tm u .nil)))) (s2 u u) <| cwn (oStA (n := 0) (fs := f_reticentref07_V) u u z83 tm tm) (s2 u u) <| .nil) <| pSeq <| wRet <| pThenR ?_
    obtain rfl := so h
    exact pR1 (.inl u) u (.box (n := 0) (fs := f_reticentref07_V) (u := ⟨false, y6, a3⟩) u u ⟨u, u, u, tv⟩ t83 <| .nil)
   ·refine wCF hp5.1 tm (s1 u) <| wSkip <| pSeq <| wSeq ?_
    obtain ⟨o1, h, hk1⟩ := bd h
    refine wJ1 (fun x8 => x8 = o1) (fun x8 => [(1, .d ((kL ki).sig a1)), (2, .d ((kL ki).sig a2)), (3, .d (ki.sig a3)), (4, .d (sP (kR f_api_Lattice) a0)), (8, .p 8 0), (9, .d (ki.sig y1)), (40, .d (kB.sig x8))]) (fun x8 => [.box 8 83 [.d kB false, .d ki 0, .d ki 0]]) ?_ ?_
    ·obtain ⟨hp9, h⟩ | ⟨hp9, h⟩ := ik h
     ·exact rx (c6 <| .nil) <| pJ1 _ (so h) (sb u) u
     ·exact rx (c6 <| .nil) <| pJ1 _ (so h) (sb u) u
    ·rintro x8 rfl
     replace h := hk1
     obtain ⟨hp10, h⟩ | ⟨hp10, h⟩ := ik h
     ·refine wBT hp10.1 tm (s1 u) <| wSeq ?_
      obtain ⟨y11, hy11, h⟩ := bd h
      refine rx (c3 <| cp (oIdx u59 z3 hy11 tm tm) (s2 u u) <| c2 <| cp (oBuild (fs := f_reticentref07_V) (u := ⟨false, y11, a3⟩) u ze83 pl83 po83 (.ze (zc := [(.bool false)]) zB (.op (zc := [(.int .i64 0)]) tm u (.op (zc := [(.int .i64 0)]) tm u .nil)))) (s2 u u) <| cwn (oStA (n := 0) (fs := f_reticentref07_V) u u z83 tm tm) (s2 u u) <| .nil) <| pSeq <| wRet <| pThenR ?_
      obtain rfl := so h
      exact pR1 (.inl u) u (.box (n := 0) (fs := f_reticentref07_V) (u := ⟨false, y11, a3⟩) u u ⟨u, u, u, tv⟩ t83 <| .nil)
     ·refine wBF hp10.1 tm (s1 u) <| wSkip <| pSeq <| wSeq ?_
      obtain ⟨y12, hy12, h⟩ := bd h
      refine rx (c4 <| c1 <| cC (hrc hy12) <| cw (oAlloc (id := 10) (ls := Z83) ze83 zl83) tv <| cwn (oStA (n := 0) (fs := f_reticentref07_V) u u z83 tm tm) (s2 u u) <| .nil) <| pSeq <| wSeq ?_
      obtain ⟨y13, hy13, h⟩ := bd h
      refine rx (c4 <| cr (oLdB (n := 0) (k := 2) u u u t3 tm) (s1 u) <| c1 <| cC (hrc hy13) <| cw (oAlloc (id := 11) (ls := Z83) ze83 zl83) tv <| cwn (oStA (n := 0) (fs := f_reticentref07_V) u u z83 tm tm) (s2 u u) <| .nil) <| pSeq <| wSeq <| rx (c1 <| cr (oLdB (n := 0) (k := 2) u u u t3 tm) (s1 u) <| cp (oBuild (fs := f_reticentref07_V) (u := ⟨false, 0, y13.From⟩) u ze83 pl83 po83 (.ze (zc := [(.bool false)]) zB (.ze (zc := [(.int .i64 0)]) zI_i64 (.op (zc := [(.int .i64 0)]) tm u .nil)))) (s1 u) <| cw (oAlloc (id := 12) (ls := Z83) ze83 zl83) tv <| cwn (oStA (n := 0) (fs := f_reticentref07_V) u u z83 tm tm) (s2 u u) <| .nil) <| pSeq <| wSeq <| wSeq <| rx (c1 <| .nil) <| pSeq ?_
      obtain ⟨o1, h, hk1⟩ := bd h
      refine wK2 (fun x28 x29 => (x28, x29) = o1) (fun x28 x29 => [(8, .p 8 0), (12, .p 12 0)]) (fun x28 x29 => [.box 12 83 [.d kB x28, .d ki x29, .d ki y13.From], .box 11 83 (L83 y13), .box 10 83 (L83 y12), .box 8 83 [.d kB false, .d ki 0, .d ki 0]]) ?_ ?_
      ·refine wBlock <| wSeq <| rx (c2 <| .nil) <| pSeq ?_
       obtain ⟨hp30, h⟩ | ⟨hp30, h⟩ := ik h
       ·refine wCT hp30.1 tm (s1 u) ?_
        obtain ⟨o2, h, hk2⟩ := bd h
        refine wK1 (fun x32 => x32 = o2) (fun x32 => [(8, .p 8 0), (12, .p 12 0)]) (fun x32 => [.box 12 83 [.d kB x32, .d ki 0, .d ki y13.From], .box 11 83 (L83 y13), .box 10 83 (L83 y12), .box 8 83 [.d kB false, .d ki 0, .d ki 0]]) ?_ ?_
        ·obtain ⟨hp33, h⟩ | ⟨hp33, h⟩ := ik h
         ·exact rx (c1 <| cr (oLdB (n := 1) (k := 0) u u u t4 tm) (s1 u) <| c2 <| crgB hp33.1 u u (oLdB (n := 2) (k := 0) u u u t4 tm) (s1 u) <| c2 <| cwn (oSt (n := 0) (k := 0) u u u u z4 tm tm) (s2 u u) <| .nil) <| pJ1 _ (so h) (sb u) u
         ·exact rx (c1 <| cr (oLdB (n := 1) (k := 0) u u u t4 tm) (s1 u) <| c4 <| c1 <| cwn (oSt (n := 0) (k := 0) u u u u z4 tm tm) (s2 u u) <| .nil) <| pJ1 _ (so h) (sb u) u
        ·rintro x32 rfl
         replace h := hk2
         exact pBlkN <| pJ2 _ _ (so h) (sb u) u
       ·refine wCF hp30.1 tm (s1 u) <| wSeq <| rx (c2 <| .nil) <| pSeq ?_
        obtain ⟨hp34, h⟩ | ⟨hp34, h⟩ := ik h
        ·refine wCT hp34.1 tm (s1 u) ?_
         obtain ⟨o2, h, hk2⟩ := bd h
         refine wK1 (fun x36 => x36 = o2) (fun x36 => [(8, .p 8 0), (12, .p 12 0)]) (fun x36 => [.box 12 83 [.d kB x36, .d ki 0, .d ki y13.From], .box 11 83 (L83 y13), .box 10 83 (L83 y12), .box 8 83 [.d kB false, .d ki 0, .d ki 0]]) ?_ ?_
         ·obtain ⟨hp37, h⟩ | ⟨hp37, h⟩ := ik h
          ·exact rx (c1 <| cr (oLdB (n := 1) (k := 0) u u u t4 tm) (s1 u) <| c4 <| c1 <| cwn (oSt (n := 0) (k := 0) u u u u z4 tm tm) (s2 u u) <| .nil) <| pJ1 _ (so h) (sb u) u
          ·exact rx (c1 <| cr (oLdB (n := 1) (k := 0) u u u t4 tm) (s1 u) <| c2 <| crgB (nb hp37.1) u u (oLdB (n := 2) (k := 0) u u u t4 tm) (s1 u) <| c2 <| cwn (oSt (n := 0) (k := 0) u u u u z4 tm tm) (s2 u u) <| .nil) <| pJ1 _ (so h) (sb u) u
         ·rintro x36 rfl
          replace h := hk2
          exact pBlkN <| pJ2 _ _ (so h) (sb u) u
        ·refine wCF hp34.1 tm (s1 u) <| wSeq <| rx (c2 <| .nil) <| pSeq ?_
         obtain ⟨hp38, h⟩ | ⟨hp38, h⟩ := ik h
         ·refine wCT hp38.1 tm (s1 u) ?_
          obtain ⟨y39, hy39, h⟩ := bd h
          exact rx (c2 <| cr (oLdB (n := 1) (k := 1) u u u t3 tm) (s1 u) <| c1 <| cr (oLdB (n := 2) (k := 1) u u u t3 tm) (s1 u) <| cC (reticentref01_Flows.ok hy39) <| c1 <| cwn (oSt (n := 0) (k := 0) u u u u z4 tm tm) (s2 u u) <| .nil) <| pBlkN <| pJ2 _ _ (so h) (sb u) u
         ·refine wCF hp38.1 tm (s1 u) <| wSeq <| rx (c2 <| .nil) <| pSeq ?_
          obtain ⟨hp40, h⟩ | ⟨hp40, h⟩ := ik h
          ·refine wCT hp40.1 tm (s1 u) ?_
           obtain ⟨y41, hy41, h⟩ := bd h
           exact rx (c2 <| cr (oLdB (n := 1) (k := 1) u u u t3 tm) (s1 u) <| c1 <| cr (oLdB (n := 2) (k := 1) u u u t3 tm) (s1 u) <| cC (reticentref01_Join.ok hy41) <| c1 <| cwn (oSt (n := 0) (k := 1) u u u u z3 tm tm) (s2 u u) <| .nil) <| pBlkN <| pJ2 _ _ (so h) (sb u) u
          ·refine wCF hp40.1 tm (s1 u) <| wSeq <| rx (c2 <| .nil) <| pSeq ?_
           obtain ⟨hp42, h⟩ | ⟨hp42, h⟩ := ik h
           ·refine wCT hp42.1 tm (s1 u) ?_
            obtain ⟨y43, hy43, h⟩ := bd h
            exact rx (c2 <| cr (oLdB (n := 1) (k := 1) u u u t3 tm) (s1 u) <| c1 <| cr (oLdB (n := 2) (k := 1) u u u t3 tm) (s1 u) <| cC (reticentref01_Meet.ok hy43) <| c1 <| cwn (oSt (n := 0) (k := 1) u u u u z3 tm tm) (s2 u u) <| .nil) <| pBlkN <| pJ2 _ _ (so h) (sb u) u
           ·exact wCF hp42.1 tm (s1 u) <| wSkip <| pBlkN <| pJ2 _ _ (so h) (sb u) u
      ·rintro x28 x29 rfl
       replace h := hk1
       refine pSeq <| wSeq <| rx (cr (oLdA (n := 0) (fs := f_reticentref07_V) (u := ⟨x28, x29, y13.From⟩) u ⟨u, u, u, tv⟩ t83 tm) (s1 u) <| cwn (oStA (n := 3) (fs := f_reticentref07_V) u u z83 tm tm) (s2 u u) <| .nil) <| pSeq <| wRet ?_
       obtain rfl := so h
       exact pR1 (.inl u) u (.box (n := 3) (fs := f_reticentref07_V) (u := ⟨x28, x29, y13.From⟩) u u ⟨u, u, u, tv⟩ t83 <| .nil)
theorem reticentref07_Thing.okF : ∀ (k : Nat) {a0 : api_Lattice} {a1 : List Int} {a2 : List Int} {a3 : Int} {r : reticentref07_V}, reticentref07_Thing.F k a0 a1 a2 a3 = some r -> FnA PP 74 [(kR f_api_Lattice).sig a0, (kL ki).sig a1, (kL ki).sig a2, ki.sig a3] ((kR f_reticentref07_V).sig r)
 | 0, _, _, _, _, _, h => by cases h
 | k + 1, _, _, _, _, _, h => reticentref07_Thing.okB (fun h => reticentref07_Thing.okF k h) h
theorem reticentref07_Thing.ok {a0 : api_Lattice} {a1 : List Int} {a2 : List Int} {a3 : Int} {r : reticentref07_V} (h : reticentref07_Thing.f a0 a1 a2 a3 = some r) : FnA PP 74 [(kR f_api_Lattice).sig a0, (kL ki).sig a1, (kL ki).sig a2, ki.sig a3] ((kR f_reticentref07_V).sig r) := reticentref07_Thing.okF 1000 h
theorem reticentref07_Judge.ok {a0 : api_Lattice} {a1 : List Int} {a2 : List Int} {r : reticentref07_V} (h : reticentref07_Judge.f a0 a1 a2 = some r) : FnA PP 33 [(kR f_api_Lattice).sig a0, (kL ki).sig a1, (kL ki).sig a2] ((kR f_reticentref07_V).sig r) := by
 refine fnIntro Tryz.func33 u (by kernel_rfl) fun H0 w0 => ?_
 unfold reticentref07_Judge.f at h
 refine wSeq <| rx (c1 <| cw (oAlloc (id := 6) (ls := Z83) ze83 zl83) tv <| .nil) <| pSeq <| wSeq ?_
 obtain ⟨y1, hy1, h⟩ := bd h
 refine rx (c6 <| cC (reticentref07_Thing.ok hy1) <| cwn (oStA (n := 0) (fs := f_reticentref07_V) u u z83 tm tm) (s2 u u) <| .nil) <| pSeq <| wRet ?_
 obtain rfl := so h
 exact pR1 (.inl u) u (.box (n := 0) (fs := f_reticentref07_V) (u := ⟨y1.Is, y1.A, y1.From⟩) u u ⟨u, u, u, tv⟩ t83 <| .nil)
theorem reticentref10_mem.ok {a0 : api_State} {a1 : reticentref10_N} {a2 : Int} {r : List api_Atom} (h : reticentref10_mem.f a0 a1 a2 = some r) : FnA PP 34 [(kR f_api_State).sig a0, (kR f_reticentref10_N).sig a1, ki.sig a2] ((kL (kR f_api_Atom)).sig r) := by
 refine fnIntro Tryz.func34 u (by kernel_rfl) fun H0 w0 => ?_
 unfold reticentref10_mem.f at h
 refine wSeq <| rx (c2 <| cp (oAs cV) tv <| .nil) <| pSeq <| wSeq <| rx (cw (oLitR (id := 10) (d := (kR f_api_Atom)) el32 (by decide) u u u e0) tv <| c1 <| .nil) <| pSeq <| wSeq <| wSeq <| rx (c4 <| .nil) <| pSeq <| wWeak (Γ' := [(2, .d (ki.sig a2)), (3, .d (sP (kR f_api_State) a0)), (4, .d (sP (kR f_reticentref10_N) a1)), (7, .v 10), (12, .d ((kL (kR f_api_Atom)).sig a0.Mem)), (13, .d (ki.sig (a0.Mem.length : Int))), (14, .d (ki.sig 0))]) (sb u) <| wRen 10 1007 u ?_
 obtain ⟨o1, h, hk1⟩ := bd h
 refine wK1 (fun x43 => x43 = o1) (fun x43 => [(7, .v 1007)]) (fun x43 => [.row 1007 30 (kR f_api_Atom) x43]) ?_ ?_
 ·refine wBlock (wLoop ?_)
  refine lW (pc2 o1 (fun v41 v42 => [(2, .d (ki.sig a2)), (3, .d (sP (kR f_api_State) a0)), (4, .d (sP (kR f_reticentref10_N) a1)), (7, .v 1007), (12, .d ((kL (kR f_api_Atom)).sig a0.Mem)), (13, .d (ki.sig (a0.Mem.length : Int))), (14, .d (ki.sig v42))]) (fun v41 v42 => [.row 1007 30 (kR f_api_Atom) v41]) (reticentref10_mem.l0.partial_correctness a0 a1 a2) ?_ _ _ h) ⟨u, u, u, u, u, u, u, tv⟩ u
  clear h
  intro f' ih v41 v42 h
  refine wSeq <| rx (c1 <| .nil) <| pSeq <| wSeq ?_
  obtain ⟨hp44, h⟩ | ⟨hp44, h⟩ := ik h
  ·refine wCT hp44.1 tm (s1 u) <| wSkip <| pSeq ?_
   obtain ⟨o2, h, hk2⟩ := bd h
   refine wJ1 (fun x54 => x54 = o2) (fun x54 => [(2, .d (ki.sig a2)), (3, .d (sP (kR f_api_State) a0)), (4, .d (sP (kR f_reticentref10_N) a1)), (7, .v 1007), (12, .d ((kL (kR f_api_Atom)).sig a0.Mem)), (13, .d (ki.sig (a0.Mem.length : Int))), (14, .d (ki.sig v42))]) (fun x54 => [.row 1007 30 (kR f_api_Atom) x54]) ?_ ?_
   ·refine wBlock <| wSeq ?_
    obtain ⟨y55, hy55, h⟩ := bd h
    refine rx (c1 <| cp (oIdx u32 z30 hy55 tm tm) (s2 u u) <| c1 <| cw (oAlloc (id := 9) (ls := Z30) ze30 zl30) tv <| c1 <| cwn (oStA (n := 0) (fs := f_api_Atom) u u z30 tm tm) (s2 u u) <| .nil) <| pSeq <| wSeq ?_
    obtain ⟨o3, h, hk3⟩ := bd h
    refine wJ1 (fun x58 => x58 = o3) (fun x58 => [(2, .d (ki.sig a2)), (3, .d (sP (kR f_api_State) a0)), (4, .d (sP (kR f_reticentref10_N) a1)), (7, .v 1007), (9, .p 9 0), (12, .d ((kL (kR f_api_Atom)).sig a0.Mem)), (13, .d (ki.sig (a0.Mem.length : Int))), (14, .d (ki.sig v42)), (34, .d (kB.sig x58))]) (fun x58 => [.box 9 30 [.d ki y55.V, .d ki y55.L], .row 1007 30 (kR f_api_Atom) v41]) ?_ ?_
    ·obtain ⟨y59, hy59, h⟩ := bd h
     obtain ⟨hp60, h⟩ | ⟨hp60, h⟩ := ik h
     ·exact rx (c4 <| c1 <| cp (oIdx u31 z74 hy59 tm tm) (s2 u u) <| c8 <| c2 <| .nil) <| pJ1 _ (so h) (sb u) u
     ·exact rx (c4 <| c1 <| cp (oIdx u31 z74 hy59 tm tm) (s2 u u) <| c8 <| c2 <| .nil) <| pJ1 _ (so h) (sb u) u
    ·rintro x58 rfl
     replace h := hk3
     obtain ⟨hp61, h⟩ | ⟨hp61, h⟩ := ik h
     ·refine wBT hp61.1 tm (s1 u) <| rx (c4 <| cp (oBuild (fs := f_api_Atom) (u := ⟨a1.B.V, a2⟩) u ze30 pl30 po30 (.op (zc := [(.int .i64 0)]) tm u (.op (zc := [(.int .i64 0)]) tm u .nil))) (s2 u u) <| cwn (oStA (n := 0) (fs := f_api_Atom) u u z30 tm tm) (s2 u u) <| .nil) <| pSeq ?_
      obtain ⟨hc62, h⟩ := ib h
      exact rx (c1 <| cr (oLdA (n := 0) (fs := f_api_Atom) (u := ⟨a1.B.V, a2⟩) u ⟨u, u, tv⟩ t30 tm) (s1 u) <| cp (oLit (d := (kR f_api_Atom)) el32 (by decide) u u u (e1 tm e0)) (s1 u) <| cw (oApp (n := 1) (id' := 43) el32 (by decide) u (by decide) hc62 tm tm) (s2 u u) <| c1 <| .nil) <| pBlkN <| pDrop (.cons _ (.cons_cons _ .slnil)) <| pSub (Γ' := [(2, .d (ki.sig a2)), (3, .d (sP (kR f_api_State) a0)), (4, .d (sP (kR f_reticentref10_N) a1)), (7, .v 43), (12, .d ((kL (kR f_api_Atom)).sig a0.Mem)), (13, .d (ki.sig (a0.Mem.length : Int))), (14, .d (ki.sig v42))]) (sb u) <| pRen 43 1007 u <| pJ1 _ (so h) (sb u) u
     ·refine wBF hp61.1 tm (s1 u) <| wSkip <| pSeq ?_
      obtain ⟨hc63, h⟩ := ib h
      exact rx (c1 <| cr (oLdA (n := 0) (fs := f_api_Atom) (u := ⟨y55.V, y55.L⟩) u ⟨u, u, tv⟩ t30 tm) (s1 u) <| cp (oLit (d := (kR f_api_Atom)) el32 (by decide) u u u (e1 tm e0)) (s1 u) <| cw (oApp (n := 1) (id' := 43) el32 (by decide) u (by decide) hc63 tm tm) (s2 u u) <| c1 <| .nil) <| pBlkN <| pDrop (.cons _ (.cons_cons _ .slnil)) <| pSub (Γ' := [(2, .d (ki.sig a2)), (3, .d (sP (kR f_api_State) a0)), (4, .d (sP (kR f_reticentref10_N) a1)), (7, .v 43), (12, .d ((kL (kR f_api_Atom)).sig a0.Mem)), (13, .d (ki.sig (a0.Mem.length : Int))), (14, .d (ki.sig v42))]) (sb u) <| pRen 43 1007 u <| pJ1 _ (so h) (sb u) u
   ·rintro x54 rfl
    replace h := hk2
    exact rx (c2 <| .nil) <| pLoop (lW (ih _ _ h) ⟨u, u, u, u, u, u, u, tv⟩ u)
  ·exact wCF hp44.1 tm (s1 u) <| wExit <| pThenX <| pThenX <| pBlkX <| pJ1 _ (so h) (sb u) u
 ·rintro x43 rfl
  replace h := hk1
  refine pSeq <| wSeq <| rx (c2 <| .nil) <| pSeq <| wFrzR (n := 0) (id := 1007) [6] u u ⟨u, tv⟩ <| wRet ?_
  obtain rfl := so h
  exact pR1 (.inl u) u (.tmp u <| .nil)
theorem reticentref10_with.ok {a0 : List api_Slot} {a1 : api_Slot} {r : List api_Slot} (h : reticentref10_with.f a0 a1 = some r) : FnA PP 75 [(kL (kR f_api_Slot)).sig a0, (kR f_api_Slot).sig a1] ((kL (kR f_api_Slot)).sig r) := by
 refine fnIntro Tryz.func75 u (by kernel_rfl) fun H0 w0 => ?_
 unfold reticentref10_with.f at h
 refine wSeq <| rx (c1 <| cp (oAs cV) tv <| .nil) <| pSeq <| wSeq <| rx (cw (oLitR (id := 6) (d := (kR f_api_Slot)) el33 (by decide) u u u e0) tv <| c1 <| .nil) <| pSeq <| wSeq ?_
 obtain ⟨hc1, h⟩ := ib h
 refine rx (c2 <| cw (oApp (n := 0) (id' := 9) el33 (by decide) u (by decide) hc1 tm tm) (s2 u u) <| c1 <| .nil) <| pSeq <| wSeq ?_
 obtain ⟨hc2, h⟩ := ib h
 refine rx (c2 <| cp (oLit (d := (kR f_api_Slot)) el33 (by decide) u u u (e1 tm e0)) (s1 u) <| cw (oApp (n := 0) (id' := 13) el33 (by decide) u (by decide) hc2 tm tm) (s2 u u) <| c1 <| .nil) <| pSeq <| wSeq <| rx (c2 <| .nil) <| pSeq <| wFrzR (n := 0) (id := 13) [4] u u ⟨u, tv⟩ <| wRet ?_
 obtain rfl := so h
 exact pR1 (.inl u) u (.tmp u <| .nil)
theorem reticentref10_with_row.ok {a0 : List api_Slot} {a1 : api_Slot} {r : (List api_Slot)} (h : reticentref10_with_row.f a0 a1 = some r) : FnS PP 75 [.d ((kL (kR f_api_Slot)).sig a0), .d ((kR f_api_Slot).sig a1)] [] [] (.v 80000) [.row 80000 76 (kR f_api_Slot) r] := by
 refine fnIntroS Tryz.func75 u (by kernel_rfl) fun X H0 w0 pv => ?_
 unfold reticentref10_with_row.f at h
 refine wSeq <| rx (c1 <| cp (oAs cV) tv <| .nil) <| pSeq <| wSeq <| rx (cw (oLitR (id := 6) (d := (kR f_api_Slot)) el33 (by decide) u u u e0) tv <| c1 <| .nil) <| pSeq <| wSeq ?_
 obtain ⟨hc1, h⟩ := ib h
 refine rx (c2 <| cw (oApp (n := 0) (id' := 9) el33 (by decide) u (by decide) hc1 tm tm) (s2 u u) <| c1 <| .nil) <| pSeq <| wSeq ?_
 obtain ⟨hc2, h⟩ := ib h
 refine rx (c2 <| cp (oLit (d := (kR f_api_Slot)) el33 (by decide) u u u (e1 tm e0)) (s1 u) <| cw (oApp (n := 0) (id' := 13) el33 (by decide) u (by decide) hc2 tm tm) (s2 u u) <| c1 <| .nil) <| pSeq <| wSeq <| rx (c2 <| .nil) <| pSeq <| wRet ?_
 obtain rfl := so h
 exact pSub (Γ' := [(4, .v 13)]) (sb u) <| pRen 13 80000 u <| pSv [0] u u (.inl u) u u
theorem reticentref10_stack.ok {a0 : api_State} {a1 : reticentref10_N} {a2 : Int} {r : List api_Slot} (h : reticentref10_stack.f a0 a1 a2 = some r) : FnA PP 35 [(kR f_api_State).sig a0, (kR f_reticentref10_N).sig a1, ki.sig a2] ((kL (kR f_api_Slot)).sig r) := by
 refine fnIntro Tryz.func35 u (by kernel_rfl) fun H0 w0 => ?_
 unfold reticentref10_stack.f at h
 refine wSeq <| rx (c2 <| cp (oAs cV) tv <| .nil) <| pSeq <| wSeq ?_
 obtain ⟨y1, hy1, h⟩ := bd h
 refine rx (c4 <| c1 <| cp (oIdx u31 z74 hy1 tm tm) (s2 u u) <| c1 <| cw (oAlloc (id := 7) (ls := Z74) ze74 zl74) tv <| cwn (oStA (n := 0) (fs := f_api_Instr) u u z74 tm tm) (s2 u u) <| .nil) <| pSeq <| wSeq ?_
 obtain ⟨hc2, h⟩ := ib h
 refine rx (c4 <| cp (oCutHi u33 z76 hc2.1 hc2.2 tm tm) (s2 u u) <| c1 <| .nil) <| pSeq <| wSeq <| wSeq <| rx (c1 <| cr (oLdB (n := 0) (k := 0) u u u t3 tm) (s1 u) <| .nil) <| pSeq ?_
 obtain ⟨o1, h, hk1⟩ := bd h
 refine wK0 (.inr () = o1) ([(8, .d ((kL (kR f_api_Slot)).sig (lCut a0.Stack 0 a1.Below)))]) ([.box 7 74 (L74 y1)]) ?_ ?_
 ·refine wBlock <| wSeq <| rx (c2 <| .nil) <| pSeq ?_
  obtain ⟨hp20, h⟩ | ⟨hp20, h⟩ := ik h
  ·refine wCT hp20.1 tm (s1 u) <| wSeq ?_
   obtain ⟨y21, hy21, h⟩ := bd h
   refine rx (c2 <| cr (oLdB (n := 0) (k := 1) u u u t3 tm) (s1 u) <| c1 <| cp (oBuild (fs := f_api_Slot) (u := ⟨false, y1.N, a2⟩) u ze76 pl76 po76 (.ze (zc := [(.bool false)]) zB (.op (zc := [(.int .i64 0)]) tm u (.op (zc := [(.int .i64 0)]) tm u .nil)))) (s2 u u) <| cC (reticentref10_with.ok hy21) <| c1 <| .nil) <| pSeq <| wRet <| pBlkR <| pThenR ?_
   obtain rfl := so h
   replace h := hk1
   refine pThenR ?_
   obtain rfl := so h
   exact pR1 (.inl u) u (.tmp u <| .nil)
  ·refine wCF hp20.1 tm (s1 u) <| wSeq <| rx (c2 <| .nil) <| pSeq ?_
   obtain ⟨hp22, h⟩ | ⟨hp22, h⟩ := ik h
   ·refine wCT hp22.1 tm (s1 u) <| wSeq ?_
    obtain ⟨y23, hy23, h⟩ := bd h
    refine rx (c8 <| c1 <| cp (oBuild (fs := f_api_Slot) (u := ⟨false, IntKind.i64.wrap (a1.B.V + a1.A.V), a2⟩) u ze76 pl76 po76 (.ze (zc := [(.bool false)]) zB (.op (zc := [(.int .i64 0)]) tm u (.op (zc := [(.int .i64 0)]) tm u .nil)))) (s2 u u) <| cC (reticentref10_with.ok hy23) <| c1 <| .nil) <| pSeq <| wRet <| pBlkR <| pThenR ?_
    obtain rfl := so h
    replace h := hk1
    refine pThenR ?_
    obtain rfl := so h
    exact pR1 (.inl u) u (.tmp u <| .nil)
   ·refine wCF hp22.1 tm (s1 u) <| wSeq <| rx (c2 <| .nil) <| pSeq ?_
    obtain ⟨hp24, h⟩ | ⟨hp24, h⟩ := ik h
    ·refine wCT hp24.1 tm (s1 u) <| wSeq ?_
     obtain ⟨y25, hy25, h⟩ := bd h
     refine rx (c8 <| c1 <| cp (oBuild (fs := f_api_Slot) (u := ⟨false, IntKind.i64.wrap (a1.B.V - a1.A.V), a2⟩) u ze76 pl76 po76 (.ze (zc := [(.bool false)]) zB (.op (zc := [(.int .i64 0)]) tm u (.op (zc := [(.int .i64 0)]) tm u .nil)))) (s2 u u) <| cC (reticentref10_with.ok hy25) <| c1 <| .nil) <| pSeq <| wRet <| pBlkR <| pThenR ?_
     obtain rfl := so h
     replace h := hk1
     refine pThenR ?_
     obtain rfl := so h
     exact pR1 (.inl u) u (.tmp u <| .nil)
    ·refine wCF hp24.1 tm (s1 u) <| wSeq <| rx (c2 <| .nil) <| pSeq ?_
     obtain ⟨hp26, h⟩ | ⟨hp26, h⟩ := ik h
     ·refine wCT hp26.1 tm (s1 u) <| wSeq ?_
      obtain ⟨y27, hy27, h⟩ := bd h
      obtain ⟨y28, hy28, h⟩ := bd h
      refine rx (c6 <| cp (oIdx u32 z30 hy27 tm tm) (s2 u u) <| c3 <| cp (oBuild (fs := f_api_Slot) (u := ⟨false, y27.V, a2⟩) u ze76 pl76 po76 (.ze (zc := [(.bool false)]) zB (.op (zc := [(.int .i64 0)]) tm u (.op (zc := [(.int .i64 0)]) tm u .nil)))) (s2 u u) <| cC (reticentref10_with.ok hy28) <| c1 <| .nil) <| pSeq <| wRet <| pBlkR <| pThenR ?_
      obtain rfl := so h
      replace h := hk1
      refine pThenR ?_
      obtain rfl := so h
      exact pR1 (.inl u) u (.tmp u <| .nil)
     ·refine wCF hp26.1 tm (s1 u) <| wSeq <| rx (c2 <| .nil) <| pSeq ?_
      obtain ⟨hp29, h⟩ | ⟨hp29, h⟩ := ik h
      ·refine wCT hp29.1 tm (s1 u) <| wSeq ?_
       obtain ⟨hc30, h⟩ := ib h
       obtain ⟨y31, hy31, h⟩ := bd h
       refine rdx hm (c4 <| cr (oLdB (n := 0) (k := 1) u u u t3 tm) (s1 u) <| c1 <| cp (oCutHi u33 z76 hc30.1 hc30.2 tm tm) (s2 u u) <| c6 <| c1 <| cp (oBuild (fs := f_api_Slot) (u := ⟨true, IntKind.i64.wrap (a0.Pc.V + 1), a0.Pc.L⟩) u ze76 pl76 po76 (.op (zc := [(.bool false)]) cB u (.op (zc := [(.int .i64 0)]) tm u (.op (zc := [(.int .i64 0)]) tm u .nil)))) (s2 u u) <| cm (oCallS (rest := [.box 7 74 (L74 y1)]) (R' := [.row 430600 76 (kR f_api_Slot) y31, .box 7 74 (L74 y1)]) (out' := .v 430600) [] [(80000, 430600)] [] [0] [0, 1] u (reticentref10_with_row.ok hy31) b75 (oE1 tm (oE1 tm oE0)) u u u u u u u u) (s2 u u) <| c1 <| .nil) <| pSeq <| wSeq ?_
       obtain ⟨hc32, h⟩ := ib h
       obtain ⟨hc33, h⟩ := ib h
       refine rx (c4 <| c1 <| cr (oLdB (n := 1) (k := 1) u u u t3 tm) (s1 u) <| c1 <| cp (oCutLo u33 z76 hc32.1 hc32.2 tm tm) (s2 u u) <| cw (oApp (n := 0) (id' := 98) el33 (by decide) u (by decide) hc33 tm tm) (s2 u u) <| c1 <| .nil) <| pSeq <| wSeq <| rx (c2 <| .nil) <| pSeq <| wFrzR (n := 0) (id := 98) [6] u u ⟨u, tv⟩ <| wRet <| pBlkR <| pThenR ?_
       obtain rfl := so h
       replace h := hk1
       refine pThenR ?_
       obtain rfl := so h
       exact pR1 (.inl u) u (.tmp u <| .nil)
      ·refine wCF hp29.1 tm (s1 u) <| wSeq <| rx (c2 <| .nil) <| pSeq ?_
       obtain ⟨hp34, h⟩ | ⟨hp34, h⟩ := ik h
       ·refine wCT hp34.1 tm (s1 u) <| wSeq <| rx (c1 <| cr (oLdB (n := 0) (k := 1) u u u t3 tm) (s1 u) <| c1 <| .nil) <| pSeq ?_
        obtain ⟨hp35, h⟩ | ⟨hp35, h⟩ := ik h
        ·refine wCT hp35.1 tm (s1 u) <| wSeq ?_
         obtain ⟨y36, hy36, h⟩ := bd h
         refine rx (c4 <| c1 <| cp (oBuild (fs := f_api_Slot) (u := ⟨false, a1.A.V, a2⟩) u ze76 pl76 po76 (.ze (zc := [(.bool false)]) zB (.op (zc := [(.int .i64 0)]) tm u (.op (zc := [(.int .i64 0)]) tm u .nil)))) (s2 u u) <| cC (reticentref10_with.ok hy36) <| c1 <| .nil) <| pSeq <| wRet <| pBlkR <| pThenR ?_
         obtain rfl := so h
         replace h := hk1
         refine pThenR ?_
         obtain rfl := so h
         exact pR1 (.inl u) u (.tmp u <| .nil)
        ·exact wCF hp35.1 tm (s1 u) <| wSkip <| pBlkN <| pJ0 (so h) (sb u) u
       ·exact wCF hp34.1 tm (s1 u) <| wSkip <| pBlkN <| pJ0 (so h) (sb u) u
 ·rintro rfl
  replace h := hk1
  refine pSeq <| wSeq <| rx (c2 <| .nil) <| pSeq <| wRet ?_
  obtain rfl := so h
  exact pR1 (.inl u) u (.tmp u <| .nil)
theorem reticentref10_next.ok {a0 : api_State} {a1 : reticentref10_N} {r : Int} (h : reticentref10_next.f a0 a1 = some r) : FnA PP 36 [(kR f_api_State).sig a0, (kR f_reticentref10_N).sig a1] (ki.sig r) := by
 refine fnIntro Tryz.func36 u (by kernel_rfl) fun H0 w0 => ?_
 unfold reticentref10_next.f at h
 refine wSeq <| rx (c3 <| .nil) <| pSeq <| wSeq ?_
 obtain ⟨y1, hy1, h⟩ := bd h
 refine rx (c4 <| c1 <| cp (oIdx u31 z74 hy1 tm tm) (s2 u u) <| c1 <| cw (oAlloc (id := 5) (ls := Z74) ze74 zl74) tv <| cwn (oStA (n := 0) (fs := f_api_Instr) u u z74 tm tm) (s2 u u) <| .nil) <| pSeq <| wSeq ?_
 obtain ⟨o1, h, hk1⟩ := bd h
 refine wJ1 (fun x3 => x3 = o1) (fun x3 => [(2, .d (sP (kR f_api_State) a0)), (3, .d (sP (kR f_reticentref10_N) a1)), (5, .p 5 0), (20, .d (kB.sig x3))]) (fun x3 => [.box 5 74 (L74 y1)]) ?_ ?_
 ·obtain ⟨hp4, h⟩ | ⟨hp4, h⟩ := ik h
  ·exact rx (c1 <| cr (oLdB (n := 0) (k := 0) u u u t3 tm) (s1 u) <| c6 <| .nil) <| pJ1 _ (so h) (sb u) u
  ·exact rx (c1 <| cr (oLdB (n := 0) (k := 0) u u u t3 tm) (s1 u) <| c3 <| crgB (dF hp4.1) u u (oLdB (n := 0) (k := 0) u u u t3 tm) (s1 u) <| c2 <| .nil) <| pJ1 _ (so h) (sb u) u
 ·rintro x3 rfl
  replace h := hk1
  obtain ⟨hp5, h⟩ | ⟨hp5, h⟩ := ik h
  ·refine wBT hp5.1 tm (s1 u) <| wSeq <| rx (c4 <| .nil) <| pSeq <| wRet <| pThenR ?_
   obtain rfl := so h
   exact pR1 (.inl u) u (.tmp u <| .nil)
  ·refine wBF hp5.1 tm (s1 u) <| wSkip <| pSeq <| wSeq <| wSeq <| rx (c1 <| cr (oLdB (n := 0) (k := 0) u u u t3 tm) (s1 u) <| c1 <| .nil) <| pSeq ?_
   obtain ⟨hp6, h⟩ | ⟨hp6, h⟩ := ik h
   ·refine wCT hp6.1 tm (s1 u) <| wSeq <| rx (c4 <| .nil) <| pSeq <| wRet <| pThenR ?_
    obtain rfl := so h
    exact pR1 (.inl u) u (.tmp u <| .nil)
   ·refine wCF hp6.1 tm (s1 u) <| wSkip <| pSeq <| wSeq ?_
    obtain ⟨o1, h, hk1⟩ := bd h
    refine wJ1 (fun x8 => x8 = o1) (fun x8 => [(2, .d (sP (kR f_api_State) a0)), (5, .p 5 0), (38, .d (kB.sig x8))]) (fun x8 => [.box 5 74 (L74 y1)]) ?_ ?_
    ·obtain ⟨hp9, h⟩ | ⟨hp9, h⟩ := ik h
     ·exact rx (c1 <| cr (oLdB (n := 0) (k := 0) u u u t3 tm) (s1 u) <| c6 <| c1 <| .nil) <| pJ1 _ (so h) (sb u) u
     ·exact rx (c1 <| cr (oLdB (n := 0) (k := 0) u u u t3 tm) (s1 u) <| c6 <| c1 <| .nil) <| pJ1 _ (so h) (sb u) u
    ·rintro x8 rfl
     replace h := hk1
     obtain ⟨hp10, h⟩ | ⟨hp10, h⟩ := ik h
     ·refine wBT hp10.1 tm (s1 u) <| wSeq <| rx (c1 <| cr (oLdB (n := 0) (k := 1) u u u t3 tm) (s1 u) <| c1 <| .nil) <| pSeq <| wRet <| pThenR ?_
      obtain rfl := so h
      exact pR1 (.inl u) u (.tmp u <| .nil)
     ·refine wBF hp10.1 tm (s1 u) <| wSkip <| pSeq <| wSeq <| rx (c4 <| c1 <| .nil) <| pSeq <| wRet ?_
      obtain rfl := so h
      exact pR1 (.inl u) u (.tmp u <| .nil)
theorem reticentref10_Step.ok {a0 : api_Lattice} {a1 : api_Table} {a2 : api_State} {r : reticentref10_O} (h : reticentref10_Step.f a0 a1 a2 = some r) : FnA PP 12 [(kR f_api_Lattice).sig a0, (kR f_api_Table).sig a1, (kR f_api_State).sig a2] ((kR f_reticentref10_O).sig r) := by
 refine fnIntro Tryz.func12 u (by kernel_rfl) fun H0 w0 => ?_
 unfold reticentref10_Step.f at h
 refine wSeq <| rx (c3 <| cw (oAlloc (id := 6) (ls := Z46) ze46 zl46) tv <| .nil) <| pSeq <| wSeq <| wSeq <| rx (c6 <| c1 <| .nil) <| pSeq ?_
 obtain ⟨hp1, h⟩ | ⟨hp1, h⟩ := ik h
 ·refine wCT hp1.1 tm (s1 u) <| wSeq <| rx (c1 <| cp (oBuild (fs := f_reticentref10_O) (u := ⟨a2, 3⟩) u ze46 pl46 po46 (.op (zc := [(.int .i64 0), (.int .i64 0), (.slice none 0 0), (.slice none 0 0), (.slice none 0 0), (.slice none 0 0)]) tm u (.op (zc := [(.int .i64 0)]) (cI (by decide)) u .nil))) (s1 u) <| cwn (oStP (n := 0) (k := 0) (m := 7) (d := (kR f_reticentref10_O)) (u := (⟨a2, 3⟩ : reticentref10_O)) pt46 u u u z46 tm tm) (s2 u u) <| .nil) <| pSeq <| wRet <| pThenR ?_
  obtain rfl := so h
  exact pR1 (.inl u) u (.boxP (n := 0) (d := (kR f_reticentref10_O)) (u := (⟨a2, 3⟩ : reticentref10_O)) u u pt46 u t46 <| .nil)
 ·refine wCF hp1.1 tm (s1 u) <| wSkip <| pSeq <| wSeq ?_
  obtain ⟨y2, hy2, h⟩ := bd h
  refine rx (c2 <| cC (reticentref10_Needs.ok hy2) <| cw (oAlloc (id := 7) (ls := Z80) ze80 zl80) tv <| cwn (oStP (n := 0) (k := 0) (m := 14) (d := (kR f_reticentref10_N)) (u := y2) pt80 u u u z80 tm tm) (s2 u u) <| .nil) <| pSeq <| wSeq ?_
  obtain ⟨y3, hy3, h⟩ := bd h
  refine rx (c4 <| c1 <| cp (oIdx u31 z74 hy3 tm tm) (s2 u u) <| c1 <| cw (oAlloc (id := 8) (ls := Z74) ze74 zl74) tv <| cwn (oStA (n := 0) (fs := f_api_Instr) u u z74 tm tm) (s2 u u) <| .nil) <| pSeq <| wSeq <| wSeq <| rx (c1 <| cr (oLdB (n := 1) (k := 0) u u u t4 tm) (s1 u) <| c1 <| .nil) <| pSeq ?_
  obtain ⟨hp4, h⟩ | ⟨hp4, h⟩ := ik h
  ·refine wBT hp4.1 tm (s1 u) <| wSeq <| rx (c1 <| cp (oBuild (fs := f_reticentref10_O) (u := ⟨a2, 3⟩) u ze46 pl46 po46 (.op (zc := [(.int .i64 0), (.int .i64 0), (.slice none 0 0), (.slice none 0 0), (.slice none 0 0), (.slice none 0 0)]) tm u (.op (zc := [(.int .i64 0)]) (cI (by decide)) u .nil))) (s1 u) <| cwn (oStP (n := 2) (k := 0) (m := 7) (d := (kR f_reticentref10_O)) (u := (⟨a2, 3⟩ : reticentref10_O)) pt46 u u u z46 tm tm) (s2 u u) <| .nil) <| pSeq <| wRet <| pThenR ?_
   obtain rfl := so h
   exact pR1 (.inl u) u (.boxP (n := 2) (d := (kR f_reticentref10_O)) (u := (⟨a2, 3⟩ : reticentref10_O)) u u pt46 u t46 <| .nil)
  ·refine wBF hp4.1 tm (s1 u) <| wSkip <| pSeq <| wSeq <| wSeq <| rx (c1 <| cr (oLdB (n := 0) (k := 0) u u u t3 tm) (s1 u) <| c1 <| .nil) <| pSeq ?_
   obtain ⟨hp5, h⟩ | ⟨hp5, h⟩ := ik h
   ·refine wCT hp5.1 tm (s1 u) <| wSeq <| rx (c1 <| cp (oBuild (fs := f_reticentref10_O) (u := ⟨a2, 1⟩) u ze46 pl46 po46 (.op (zc := [(.int .i64 0), (.int .i64 0), (.slice none 0 0), (.slice none 0 0), (.slice none 0 0), (.slice none 0 0)]) tm u (.op (zc := [(.int .i64 0)]) (cI (by decide)) u .nil))) (s1 u) <| cwn (oStP (n := 2) (k := 0) (m := 7) (d := (kR f_reticentref10_O)) (u := (⟨a2, 1⟩ : reticentref10_O)) pt46 u u u z46 tm tm) (s2 u u) <| .nil) <| pSeq <| wRet <| pThenR ?_
    obtain rfl := so h
    exact pR1 (.inl u) u (.boxP (n := 2) (d := (kR f_reticentref10_O)) (u := (⟨a2, 1⟩ : reticentref10_O)) u u pt46 u t46 <| .nil)
   ·refine wCF hp5.1 tm (s1 u) <| wSkip <| pSeq <| wSeq <| rx (c4 <| cr (oLdB (n := 1) (k := 10) u u u t3 tm) (s1 u) <| c1 <| cr (oLdB (n := 1) (k := 11) u u u t3 tm) (s1 u) <| c1 <| cr (oLdB (n := 1) (k := 12) u u u t3 tm) (s1 u) <| cp (oLit (d := ki) el59 (by decide) u u u (e1 tm (e1 tm (e1 tm (e1 tm e0))))) ⟨u, u, u, u, tv⟩ <| c1 <| .nil) <| pSeq <| wSeq ?_
    obtain ⟨y6, hy6, h⟩ := bd h
    refine rx (c3 <| cr (oLdB (n := 0) (k := 0) u u u t3 tm) (s1 u) <| cp (oIdx u26 z61 hy6 tm tm) (s2 u u) <| c1 <| cw (oAlloc (id := 10) (ls := Z61) ze61 zl61) tv <| cwn (oStA (n := 0) (fs := f_api_Row) u u z61 tm tm) (s2 u u) <| .nil) <| pSeq <| wSeq <| wSeq ?_
    obtain ⟨y7, hy7, h⟩ := bd h
    refine rx (c2 <| cr (oLdB (n := 0) (k := 0) u u u t59 tm) (s1 u) <| c1 <| cC (reticentref07_Judge.ok hy7) <| cp (oField (fs := f_reticentref07_V) (k := 0) u ff83_0 t4 tm) (s1 u) <| c1 <| .nil) <| pSeq ?_
    obtain ⟨hp8, h⟩ | ⟨hp8, h⟩ := ik h
    ·refine wBT hp8.1 tm (s1 u) <| wSeq <| rx (c1 <| cp (oBuild (fs := f_reticentref10_O) (u := ⟨a2, 2⟩) u ze46 pl46 po46 (.op (zc := [(.int .i64 0), (.int .i64 0), (.slice none 0 0), (.slice none 0 0), (.slice none 0 0), (.slice none 0 0)]) tm u (.op (zc := [(.int .i64 0)]) (cI (by decide)) u .nil))) (s1 u) <| cwn (oStP (n := 3) (k := 0) (m := 7) (d := (kR f_reticentref10_O)) (u := (⟨a2, 2⟩ : reticentref10_O)) pt46 u u u z46 tm tm) (s2 u u) <| .nil) <| pSeq <| wRet <| pThenR ?_
     obtain rfl := so h
     exact pR1 (.inl u) u (.boxP (n := 3) (d := (kR f_reticentref10_O)) (u := (⟨a2, 2⟩ : reticentref10_O)) u u pt46 u t46 <| .nil)
    ·refine wBF hp8.1 tm (s1 u) <| wSkip <| pSeq <| wSeq ?_
     obtain ⟨y9, hy9, h⟩ := bd h
     refine rx (c2 <| cr (oLdB (n := 0) (k := 1) u u u t59 tm) (s1 u) <| c1 <| cC (reticentref07_Judge.ok hy9) <| cp (oField (fs := f_reticentref07_V) (k := 1) u ff83_1 t3 tm) (s1 u) <| c1 <| .nil) <| pSeq <| wSeq ?_
     obtain ⟨y10, hy10, h⟩ := bd h
     obtain ⟨y11, hy11, h⟩ := bd h
     refine rgL hm (c3 <| cl [] u (oLdP (n := 2) (k := 0) (m := 14) (d := (kR f_reticentref10_N)) (u := y2) pt80 u u u t80 tm) (s1 u) <| c1 <| cC (reticentref10_mem.ok hy10) <| c1 <| cl [] u (oLdP (n := 2) (k := 0) (m := 14) (d := (kR f_reticentref10_N)) (u := y2) pt80 u u u t80 tm) (s1 u) <| c1 <| cC (reticentref10_stack.ok hy11) <| c2 <| cp (oBuild (fs := f_api_State) (u := ⟨(⟨0, 0⟩ : api_Atom), a2.Code, y10, y11, a2.Out⟩) u ze35 pl35 po35 (.ze (zc := [(.int .i64 0), (.int .i64 0)]) zR_api_Atom (.op (zc := [(.slice none 0 0)]) tm u (.op (zc := [(.slice none 0 0)]) tm u (.op (zc := [(.slice none 0 0)]) tm u (.op (zc := [(.slice none 0 0)]) tm u .nil)))))) ⟨u, u, u, u, tv⟩ <| cn (oAlloc (id := 12) (ls := Z35) ze35 zl35) tv <| cwn (oStP (n := 0) (k := 0) (m := 6) (d := (kR f_api_State)) (u := (⟨(⟨0, 0⟩ : api_Atom), a2.Code, y10, y11, a2.Out⟩ : api_State)) pt35 u u u z35 tm tm) (s2 u u) <| .nil) (by kernel_rfl) (by kernel_rfl) (by kernel_rfl) <| pSeq <| wSeq ?_
     obtain ⟨y12, hy12, h⟩ := bd h
     obtain ⟨y13, hy13, h⟩ := bd h
     refine rdx hm (c1 <| cr (oLdP (n := 3) (k := 0) (m := 14) (d := (kR f_reticentref10_N)) (u := y2) pt80 u u u t80 tm) (s1 u) <| cC (reticentref10_next.ok hy12) <| c2 <| cr (oLdB (n := 1) (k := 2) u u u t59 tm) (s1 u) <| c1 <| cC (reticentref07_Judge.ok hy13) <| cp (oField (fs := f_reticentref07_V) (k := 1) u ff83_1 t3 tm) (s1 u) <| cp (oBuild (fs := f_api_Atom) (u := ⟨y12, y13.A⟩) u ze30 pl30 po30 (.op (zc := [(.int .i64 0)]) tm u (.op (zc := [(.int .i64 0)]) tm u .nil))) (s2 u u) <| c1 <| cwn (oStP (n := 0) (k := 0) (m := 2) (d := (kR f_api_Atom)) (u := (⟨y12, y13.A⟩ : api_Atom)) pt30 u u u z30 tm tm) (s2 u u) <| .nil) <| pSeq <| wSeq <| wSeq <| rx (c1 <| cr (oLdB (n := 2) (k := 0) u u u t3 tm) (s1 u) <| c1 <| .nil) <| pSeq ?_
     obtain ⟨hp14, h⟩ | ⟨hp14, h⟩ := ik h
     ·refine wCT hp14.1 tm (s1 u) <| wSeq <| rx (cw (oLitR (id := 101) (d := (kR f_api_Atom)) el32 (by decide) u u u e0) tv <| c1 <| .nil) <| pSeq <| wSeq ?_
      obtain ⟨hc15, h⟩ := ib h
      refine rx (c3 <| cw (oApp (n := 0) (id' := 105) el32 (by decide) u (by decide) hc15 tm tm) (s2 u u) <| c1 <| .nil) <| pSeq <| wSeq ?_
      obtain ⟨hc16, h⟩ := ib h
      refine rx (c3 <| cr (oLdB (n := 4) (k := 2) u u u t3 tm) (s1 u) <| c1 <| cp (oBuild (fs := f_api_Atom) (u := ⟨y2.A.V, y9.A⟩) u ze30 pl30 po30 (.op (zc := [(.int .i64 0)]) tm u (.op (zc := [(.int .i64 0)]) tm u .nil))) (s2 u u) <| cp (oLit (d := (kR f_api_Atom)) el32 (by decide) u u u (e1 tm e0)) (s1 u) <| cw (oApp (n := 0) (id' := 113) el32 (by decide) u (by decide) hc16 tm tm) (s2 u u) <| c1 <| .nil) <| pSeq <| rx (c2 <| cwn (oStN (n := 1) (m := 0) (k := 5) u u u u z32 u tm tm) (s2 u u) <| .nil) <| pSeq <| wSeq <| wSeq <| wFrzR (n := 0) (id := 113) [13, 113, 114] u u ⟨u, u, u, tv⟩ ?_
      obtain ⟨y17, hy17, h⟩ := bd h
      refine rx (c1 <| cr (oLdP (n := 0) (k := 0) (m := 6) (d := (kR f_api_State)) (u := (⟨⟨y12, y13.A⟩, a2.Code, y10, y11, (([] : List api_Atom) ++ a2.Out) ++ ([(⟨y2.A.V, y9.A⟩ : api_Atom)] : List api_Atom)⟩ : api_State)) pt35 u u u t35 tm) (s1 u) <| cC (reticentref09_Right.ok hy17) <| c1 <| .nil) <| pSeq ?_
      obtain ⟨hp18, h⟩ | ⟨hp18, h⟩ := ik h
      ·refine wBT hp18.1 tm (s1 u) <| wSeq <| rx (c1 <| cp (oBuild (fs := f_reticentref10_O) (u := ⟨a2, 3⟩) u ze46 pl46 po46 (.op (zc := [(.int .i64 0), (.int .i64 0), (.slice none 0 0), (.slice none 0 0), (.slice none 0 0), (.slice none 0 0)]) tm u (.op (zc := [(.int .i64 0)]) (cI (by decide)) u .nil))) (s1 u) <| cwn (oStP (n := 4) (k := 0) (m := 7) (d := (kR f_reticentref10_O)) (u := (⟨a2, 3⟩ : reticentref10_O)) pt46 u u u z46 tm tm) (s2 u u) <| .nil) <| pSeq <| wRet <| pThenR ?_
       obtain rfl := so h
       exact pR1 (.inl u) u (.boxP (n := 4) (d := (kR f_reticentref10_O)) (u := (⟨a2, 3⟩ : reticentref10_O)) u u pt46 u t46 <| .nil)
      ·refine wBF hp18.1 tm (s1 u) <| wSkip <| pSeq <| wSeq <| rx (cr (oLdP (n := 0) (k := 0) (m := 6) (d := (kR f_api_State)) (u := (⟨⟨y12, y13.A⟩, a2.Code, y10, y11, (([] : List api_Atom) ++ a2.Out) ++ ([(⟨y2.A.V, y9.A⟩ : api_Atom)] : List api_Atom)⟩ : api_State)) pt35 u u u t35 tm) (s1 u) <| cp (oBuild (fs := f_reticentref10_O) (u := ⟨(⟨⟨y12, y13.A⟩, a2.Code, y10, y11, (([] : List api_Atom) ++ a2.Out) ++ ([(⟨y2.A.V, y9.A⟩ : api_Atom)] : List api_Atom)⟩ : api_State), 0⟩) u ze46 pl46 po46 (.op (zc := [(.int .i64 0), (.int .i64 0), (.slice none 0 0), (.slice none 0 0), (.slice none 0 0), (.slice none 0 0)]) tm u (.ze (zc := [(.int .i64 0)]) zI_i64 .nil))) (s1 u) <| cwn (oStP (n := 4) (k := 0) (m := 7) (d := (kR f_reticentref10_O)) (u := (⟨(⟨⟨y12, y13.A⟩, a2.Code, y10, y11, (([] : List api_Atom) ++ a2.Out) ++ ([(⟨y2.A.V, y9.A⟩ : api_Atom)] : List api_Atom)⟩ : api_State), 0⟩ : reticentref10_O)) pt46 u u u z46 tm tm) (s2 u u) <| .nil) <| pSeq <| wRet ?_
       obtain rfl := so h
       exact pR1 (.inl u) u (.boxP (n := 4) (d := (kR f_reticentref10_O)) (u := (⟨⟨⟨y12, y13.A⟩, a2.Code, y10, y11, (([] : List api_Atom) ++ a2.Out) ++ ([(⟨y2.A.V, y9.A⟩ : api_Atom)] : List api_Atom)⟩, 0⟩ : reticentref10_O)) u u pt46 u t46 <| .nil)
     ·refine wCF hp14.1 tm (s1 u) <| wSkip <| pSeq <| wSeq <| wSeq ?_
      obtain ⟨y19, hy19, h⟩ := bd h
      refine rx (c1 <| cr (oLdP (n := 0) (k := 0) (m := 6) (d := (kR f_api_State)) (u := (⟨⟨y12, y13.A⟩, a2.Code, y10, y11, a2.Out⟩ : api_State)) pt35 u u u t35 tm) (s1 u) <| cC (reticentref09_Right.ok hy19) <| c1 <| .nil) <| pSeq ?_
      obtain ⟨hp20, h⟩ | ⟨hp20, h⟩ := ik h
      ·refine wBT hp20.1 tm (s1 u) <| wSeq <| rx (c1 <| cp (oBuild (fs := f_reticentref10_O) (u := ⟨a2, 3⟩) u ze46 pl46 po46 (.op (zc := [(.int .i64 0), (.int .i64 0), (.slice none 0 0), (.slice none 0 0), (.slice none 0 0), (.slice none 0 0)]) tm u (.op (zc := [(.int .i64 0)]) (cI (by decide)) u .nil))) (s1 u) <| cwn (oStP (n := 4) (k := 0) (m := 7) (d := (kR f_reticentref10_O)) (u := (⟨a2, 3⟩ : reticentref10_O)) pt46 u u u z46 tm tm) (s2 u u) <| .nil) <| pSeq <| wRet <| pThenR ?_
       obtain rfl := so h
       exact pR1 (.inl u) u (.boxP (n := 4) (d := (kR f_reticentref10_O)) (u := (⟨a2, 3⟩ : reticentref10_O)) u u pt46 u t46 <| .nil)
      ·refine wBF hp20.1 tm (s1 u) <| wSkip <| pSeq <| wSeq <| rx (cr (oLdP (n := 0) (k := 0) (m := 6) (d := (kR f_api_State)) (u := (⟨⟨y12, y13.A⟩, a2.Code, y10, y11, a2.Out⟩ : api_State)) pt35 u u u t35 tm) (s1 u) <| cp (oBuild (fs := f_reticentref10_O) (u := ⟨(⟨⟨y12, y13.A⟩, a2.Code, y10, y11, a2.Out⟩ : api_State), 0⟩) u ze46 pl46 po46 (.op (zc := [(.int .i64 0), (.int .i64 0), (.slice none 0 0), (.slice none 0 0), (.slice none 0 0), (.slice none 0 0)]) tm u (.ze (zc := [(.int .i64 0)]) zI_i64 .nil))) (s1 u) <| cwn (oStP (n := 4) (k := 0) (m := 7) (d := (kR f_reticentref10_O)) (u := (⟨(⟨⟨y12, y13.A⟩, a2.Code, y10, y11, a2.Out⟩ : api_State), 0⟩ : reticentref10_O)) pt46 u u u z46 tm tm) (s2 u u) <| .nil) <| pSeq <| wRet ?_
       obtain rfl := so h
       exact pR1 (.inl u) u (.boxP (n := 4) (d := (kR f_reticentref10_O)) (u := (⟨⟨⟨y12, y13.A⟩, a2.Code, y10, y11, a2.Out⟩, 0⟩ : reticentref10_O)) u u pt46 u t46 <| .nil)
theorem reticentref11_Run.ok {a0 : api_Lattice} {a1 : api_Table} {a2 : api_State} {a3 : Int} {r : reticentref11_R} (h : reticentref11_Run.f a0 a1 a2 a3 = some r) : FnA PP 19 [(kR f_api_Lattice).sig a0, (kR f_api_Table).sig a1, (kR f_api_State).sig a2, ki.sig a3] ((kR f_reticentref11_R).sig r) := by
 refine fnIntro Tryz.func19 u (by kernel_rfl) fun H0 w0 => ?_
 unfold reticentref11_Run.f at h
 refine wSeq <| rx (c2 <| cw (oBoxP (id := 6) (d := (kR f_api_State)) (ls := [.d ki a2.Pc.V, .d ki a2.Pc.L, .d (kL (kR f_api_Instr)) a2.Code, .d (kL (kR f_api_Atom)) a2.Mem, .d (kL (kR f_api_Slot)) a2.Stack, .d (kL (kR f_api_Atom)) a2.Out]) pt35 u tm) (s1 u) <| cw (oAlloc (id := 8) (ls := [.d (kN api_State) [], .d ki 0]) ze54 (fun g => ⟨[(.slice none 0 0)], _, u, zN g.H, ⟨[(.int .i64 0)], _, u, zI_i64 g.H, u⟩⟩)) tv <| .nil) <| pSeq <| wSeq <| rx (cp (oBuild (fs := f_reticentref11_R_n0) (u := ⟨[], 0⟩) u ze54 pl54 po54_0 (.ze (zc := [(.slice none 0 0)]) zN (.ze (zc := [(.int .i64 0)]) zI_i64 .nil))) tv <| cw (oAlloc (id := 9) (ls := [.d (kN api_State) [], .d ki 0]) ze54 (fun g => ⟨[(.slice none 0 0)], _, u, zN g.H, ⟨[(.int .i64 0)], _, u, zI_i64 g.H, u⟩⟩)) tv <| cwn (oStA (n := 0) (fs := f_reticentref11_R_n0) u u z54 tm tm) (s2 u u) <| .nil) <| pSeq <| wSeq <| wNilL (kR f_api_State) 35 5450 (n := 0) (k := 0) u u u ?_
 obtain ⟨hc1, h⟩ := ib h
 refine rx (c1 <| cr (oLdN (n := 1) (k := 0) u u u t49 tm) (s1 u) <| cr (oLdP (n := 3) (k := 0) (m := 6) (d := (kR f_api_State)) (u := a2) pt35 u u u t35 tm) (s1 u) <| cp (oLit (d := (kR f_api_State)) el49 (by decide) u u u (e1 tm e0)) (s1 u) <| cw (oApp (n := 0) (id' := 17) el49 (by decide) u (by decide) hc1 tm tm) (s2 u u) <| c1 <| cwn (oStN (n := 1) (m := 0) (k := 0) u u u u z49 u tm tm) (s2 u u) <| .nil) <| pSeq <| wSeq <| wSeq <| rx (c1 <| .nil) <| pSeq <| wWeak (Γ' := [(3, .d (ki.sig a3)), (4, .d (sP (kR f_api_Lattice) a0)), (5, .d (sP (kR f_api_Table) a1)), (6, .p 6 0), (8, .p 8 0), (9, .p 9 0), (10, .d (ki.sig 0))]) (sb u) <| wRen 17 5450 u ?_
 obtain ⟨o1, h, hk1⟩ := bd h
 refine wK3 (fun x14 x15 x16 => .inr (x14, x15, x16) = o1) (fun x14 x15 x16 => [(8, .p 8 0), (9, .p 9 0)]) (fun x14 x15 x16 => [.row 5450 35 (kR f_api_State) x16, .box 9 54 [.v 5450, .d ki x15], .box 8 54 [.d (kN api_State) [], .d ki 0], .box 6 35 (L35 x14)]) ?_ ?_
 ·refine wBlock (wLoop ?_)
  refine lW (pc4 o1 (fun v10 v11 v12 v13 => [(3, .d (ki.sig a3)), (4, .d (sP (kR f_api_Lattice) a0)), (5, .d (sP (kR f_api_Table) a1)), (6, .p 6 0), (8, .p 8 0), (9, .p 9 0), (10, .d (ki.sig v13))]) (fun v10 v11 v12 v13 => [.row 5450 35 (kR f_api_State) v12, .box 9 54 [.v 5450, .d ki v11], .box 8 54 [.d (kN api_State) [], .d ki 0], .box 6 35 (L35 v10)]) (reticentref11_Run.l0.partial_correctness a0 a1 a3) ?_ _ _ _ _ h) ⟨u, u, u, u, u, u, u, tv⟩ u
  clear h
  intro f' ih v10 v11 v12 v13 h
  refine wSeq <| wSeq <| rx (c3 <| .nil) <| pSeq ?_
  obtain ⟨hp17, h⟩ | ⟨hp17, h⟩ := ik h
  ·refine wCT hp17.1 tm (s1 u) <| wSkip <| pSeq <| wSeq <| wBlock <| wSeq ?_
   obtain ⟨y18, hy18, h⟩ := bd h
   refine rx (c2 <| cr (oLdP (n := 3) (k := 0) (m := 6) (d := (kR f_api_State)) (u := v10) pt35 u u u t35 tm) (s1 u) <| cC (reticentref10_Step.ok hy18) <| cw (oAlloc (id := 11) (ls := Z46) ze46 zl46) tv <| cwn (oStP (n := 0) (k := 0) (m := 7) (d := (kR f_reticentref10_O)) (u := y18) pt46 u u u z46 tm tm) (s2 u u) <| .nil) <| pSeq <| wSeq <| rx (c1 <| cr (oLdB (n := 0) (k := 6) u u u t3 tm) (s1 u) <| c1 <| cwn (oSt (n := 2) (k := 1) u u u u z3 tm tm) (s2 u u) <| .nil) <| pSeq <| wSeq <| wSeq <| rx (c1 <| cr (oLdB (n := 0) (k := 6) u u u t3 tm) (s1 u) <| c1 <| .nil) <| pSeq ?_
   obtain ⟨hp19, h⟩ | ⟨hp19, h⟩ := ik h
   ·refine wNT hp19.1 tm (s1 u) <| wSkip <| pSeq <| wSeq <| rx (c1 <| cr (oLdP (n := 0) (k := 0) (m := 6) (d := (kR f_api_State)) (u := y18.S) pt35 u u u t35 tm) (s1 u) <| cwn (oStP (n := 4) (k := 0) (m := 6) (d := (kR f_api_State)) (u := y18.S) pt35 u u u z35 tm tm) (s2 u u) <| .nil) <| pSeq ?_
    obtain ⟨hc20, h⟩ := ib h
    exact rx (c1 <| cr (oLdN (n := 2) (k := 0) u u u t49 tm) (s1 u) <| cr (oLdP (n := 4) (k := 0) (m := 6) (d := (kR f_api_State)) (u := y18.S) pt35 u u u t35 tm) (s1 u) <| cp (oLit (d := (kR f_api_State)) el49 (by decide) u u u (e1 tm e0)) (s1 u) <| cw (oApp (n := 1) (id' := 41) el49 (by decide) u (by decide) hc20 tm tm) (s2 u u) <| c1 <| cwn (oStN (n := 2) (m := 1) (k := 0) u u u u z49 u tm tm) (s2 u u) <| .nil) <| pBlkN <| pSeq <| rx (c3 <| .nil) <| pDrop (.cons _ (.cons_cons _ (.cons_cons _ (.cons_cons _ (.cons_cons _ .slnil))))) <| pSub (Γ' := [(3, .d (ki.sig a3)), (4, .d (sP (kR f_api_Lattice) a0)), (5, .d (sP (kR f_api_Table) a1)), (6, .p 6 0), (8, .p 8 0), (9, .p 9 0), (10, .d (ki.sig (IntKind.i64.wrap (v13 + 1))))]) (sb u) <| pRen 41 5450 u <| pLoop (lW (ih _ _ _ _ h) ⟨u, u, u, u, u, u, u, tv⟩ u)
   ·refine wNF hp19.1 tm (s1 u) <| wSeq <| wFrzR (n := 1) (id := 5450) [] u u tv <| rx (cr (oLdA (n := 1) (fs := f_reticentref11_R) (u := ⟨v12, y18.What⟩) u ⟨u, u, tv⟩ t54 tm) (s1 u) <| cwn (oStA (n := 2) (fs := f_reticentref11_R) u u z54 tm tm) (s2 u u) <| .nil) <| pSeq <| wRet <| pThenR <| pBlkR <| pThenR <| pThenR <| pBlkR <| pThenR ?_
    obtain rfl := so h
    replace h := hk1
    refine pThenR ?_
    obtain rfl := so h
    exact pR1 (.inl u) u (.box (n := 2) (fs := f_reticentref11_R) (u := ⟨v12, y18.What⟩) u u ⟨u, u, tv⟩ t54 <| .nil)
  ·exact wCF hp17.1 tm (s1 u) <| wExit <| pThenX <| pThenX <| pBlkX <| pJ3 _ _ _ (so h) (sb u) u
 ·rintro x14 x15 x16 rfl
  replace h := hk1
  refine pSeq <| wSeq <| wFrzR (n := 0) (id := 5450) [] u u tv <| rx (cr (oLdA (n := 0) (fs := f_reticentref11_R) (u := ⟨x16, x15⟩) u ⟨u, u, tv⟩ t54 tm) (s1 u) <| cwn (oStA (n := 1) (fs := f_reticentref11_R) u u z54 tm tm) (s2 u u) <| .nil) <| pSeq <| wRet ?_
  obtain rfl := so h
  exact pR1 (.inl u) u (.box (n := 1) (fs := f_reticentref11_R) (u := ⟨x16, x15⟩) u u ⟨u, u, tv⟩ t54 <| .nil)
theorem reticentlaw11_same.ok {a0 : List api_State} {a1 : List api_State} {r : Bool} (h : reticentlaw11_same.f a0 a1 = some r) : FnA PP 20 [(kL (kR f_api_State)).sig a0, (kL (kR f_api_State)).sig a1] (kB.sig r) := by
 refine fnIntro Tryz.func20 u (by kernel_rfl) fun H0 w0 => ?_
 unfold reticentlaw11_same.f at h
 refine wSeq <| rx (c1 <| .nil) <| pSeq <| wSeq <| wSeq <| rx (c4 <| c1 <| .nil) <| pSeq ?_
 obtain ⟨hp1, h⟩ | ⟨hp1, h⟩ := ik h
 ·refine wNT hp1.1 tm (s1 u) <| wSkip <| pSeq <| wSeq <| wSeq <| rx (c3 <| .nil) <| pSeq ?_
  obtain ⟨o1, h, hk1⟩ := bd h
  refine wK0 (.inr () = o1) ([]) ([]) ?_ ?_
  ·refine wBlock (wLoop ?_)
   refine lW (pc1 o1 (fun v12 => [(0, .d ((kL (kR f_api_State)).sig a0)), (1, .d ((kL (kR f_api_State)).sig a1)), (12, .d (ki.sig (a0.length : Int))), (13, .d (ki.sig v12))]) (fun v12 => []) (reticentlaw11_same.l0.partial_correctness a0 a1) ?_ _ h) ⟨u, u, u, u, tv⟩ u
   clear h
   intro f' ih v12 h
   refine wSeq <| rx (c1 <| .nil) <| pSeq <| wSeq ?_
   obtain ⟨hp13, h⟩ | ⟨hp13, h⟩ := ik h
   ·refine wCT hp13.1 tm (s1 u) <| wSkip <| pSeq <| wSeq <| wBlock <| wSeq <| rx (c2 <| .nil) <| pSeq <| wSeq ?_
    obtain ⟨y14, hy14, h⟩ := bd h
    obtain ⟨y15, hy15, h⟩ := bd h
    obtain ⟨y16, hy16, h⟩ := bd h
    refine rdx hm (c2 <| cp (oIdx u49 z35 hy14 tm tm) (s2 u u) <| c3 <| cp (oIdx u49 z35 hy15 tm tm) (s2 u u) <| c1 <| cC (reticentref09_Same.ok hy16) <| c1 <| .nil) <| pSeq ?_
    obtain ⟨hp17, h⟩ | ⟨hp17, h⟩ := ik h
    ·refine wBT hp17.1 tm (s1 u) <| wSeq <| rx (c1 <| .nil) <| pSeq <| wRet <| pBlkR <| pThenR <| pThenR <| pBlkR <| pThenR ?_
     obtain rfl := so h
     replace h := hk1
     refine pThenR ?_
     obtain rfl := so h
     exact pR1 (.inl u) u (.tmp u <| .nil)
    ·exact wBF hp17.1 tm (s1 u) <| wSkip <| pBlkN <| pSeq <| rx (c2 <| .nil) <| pLoop (lW (ih _ h) ⟨u, u, u, u, tv⟩ u)
   ·exact wCF hp13.1 tm (s1 u) <| wExit <| pThenX <| pThenX <| pBlkX <| pJ0 (so h) tv u
  ·rintro rfl
   replace h := hk1
   refine pSeq <| wSeq <| rx (c1 <| .nil) <| pSeq <| wRet ?_
   obtain rfl := so h
   exact pR1 (.inl u) u (.tmp u <| .nil)
 ·refine wNF hp1.1 tm (s1 u) <| wSeq <| rx (c1 <| .nil) <| pSeq <| wRet <| pThenR ?_
  obtain rfl := so h
  exact pR1 (.inl u) u (.tmp u <| .nil)
theorem reticentref11_Last.ok {a0 : reticentref11_R} {r : api_State} (h : reticentref11_Last.f a0 = some r) : FnA PP 21 [(kR f_reticentref11_R).sig a0] ((kR f_api_State).sig r) := by
 refine fnIntro Tryz.func21 u (by kernel_rfl) fun H0 w0 => ?_
 unfold reticentref11_Last.f at h
 refine wSeq <| rx (c1 <| cw (oAlloc (id := 2) (ls := Z35) ze35 zl35) tv <| .nil) <| pSeq <| wSeq ?_
 obtain ⟨y1, hy1, h⟩ := bd h
 refine rx (c6 <| cp (oIdx u49 z35 hy1 tm tm) (s2 u u) <| c1 <| cwn (oStP (n := 0) (k := 0) (m := 6) (d := (kR f_api_State)) (u := y1) pt35 u u u z35 tm tm) (s2 u u) <| .nil) <| pSeq <| wRet ?_
 obtain rfl := so h
 exact pR1 (.inl u) u (.boxP (n := 0) (d := (kR f_api_State)) (u := y1) u u pt35 u t35 <| .nil)
theorem reticentlaw11_RunStates.ok {a0 : api_Lattice} {a1 : api_Table} {a2 : api_State} {a3 : Int} {r : Bool} (h : reticentlaw11_RunStates.f a0 a1 a2 a3 = some r) : FnA PP 4 [(kR f_api_Lattice).sig a0, (kR f_api_Table).sig a1, (kR f_api_State).sig a2, ki.sig a3] (kB.sig r) := by
 refine fnIntro Tryz.func4 u (by kernel_rfl) fun H0 w0 => ?_
 unfold reticentlaw11_RunStates.f at h
 refine wSeq <| rx (cw (oBoxS (id := 4) (fs := f_api_Lattice) tm) (s1 u) <| cw (oBoxS (id := 5) (fs := f_api_Table) tm) (s1 u) <| cw (oBoxP (id := 6) (d := (kR f_api_State)) (ls := [.d ki a2.Pc.V, .d ki a2.Pc.L, .d (kL (kR f_api_Instr)) a2.Code, .d (kL (kR f_api_Atom)) a2.Mem, .d (kL (kR f_api_Slot)) a2.Stack, .d (kL (kR f_api_Atom)) a2.Out]) pt35 u tm) (s1 u) <| c1 <| .nil) <| pSeq <| wSeq ?_
 obtain ⟨y1, hy1, h⟩ := bd h
 obtain ⟨y2, hy2, h⟩ := bd h
 obtain ⟨y3, hy3, h⟩ := bd h
 refine rdx hm (cr (oLdA (n := 2) (fs := f_api_Lattice) (u := ⟨a0.Names, a0.Up⟩) u ⟨u, u, tv⟩ t25 tm) (s1 u) <| cC (reticentlaw11_few.ok hy1) <| cr (oLdA (n := 1) (fs := f_api_Table) (u := ⟨a1.Rows⟩) u ⟨u, tv⟩ t28 tm) (s1 u) <| cC (reticentlaw11_rows.ok hy2) <| cr (oLdP (n := 0) (k := 0) (m := 6) (d := (kR f_api_State)) (u := a2) pt35 u u u t35 tm) (s1 u) <| cC (reticentlaw11_cut.ok hy3) <| cwn (oStA (n := 2) (fs := f_api_Lattice) u u z25 tm tm) (s2 u u) <| cwn (oStA (n := 1) (fs := f_api_Table) u u z28 tm tm) (s2 u u) <| cwn (oStP (n := 0) (k := 0) (m := 6) (d := (kR f_api_State)) (u := y3) pt35 u u u z35 tm tm) (s2 u u) <| .nil) <| pSeq <| wSeq ?_
 obtain ⟨y4, hy4, h⟩ := bd h
 refine rx (cr (oLdA (n := 2) (fs := f_api_Lattice) (u := ⟨y1.Names, y1.Up⟩) u ⟨u, u, tv⟩ t25 tm) (s1 u) <| cr (oLdA (n := 1) (fs := f_api_Table) (u := ⟨y2.Rows⟩) u ⟨u, tv⟩ t28 tm) (s1 u) <| cr (oLdP (n := 0) (k := 0) (m := 6) (d := (kR f_api_State)) (u := y3) pt35 u u u t35 tm) (s1 u) <| c1 <| cC (run_Run.ok hy4) <| c6 <| c1 <| .nil) <| pSeq <| wSeq ?_
 obtain ⟨y5, hy5, h⟩ := bd h
 refine rx (cr (oLdA (n := 2) (fs := f_api_Lattice) (u := ⟨y1.Names, y1.Up⟩) u ⟨u, u, tv⟩ t25 tm) (s1 u) <| cr (oLdA (n := 1) (fs := f_api_Table) (u := ⟨y2.Rows⟩) u ⟨u, tv⟩ t28 tm) (s1 u) <| cr (oLdP (n := 0) (k := 0) (m := 6) (d := (kR f_api_State)) (u := y3) pt35 u u u t35 tm) (s1 u) <| c1 <| cC (run_Last.ok hy5) <| c4 <| cw (oAlloc (id := 12) (ls := Z35) ze35 zl35) tv <| cwn (oStP (n := 0) (k := 0) (m := 6) (d := (kR f_api_State)) (u := y5.1) pt35 u u u z35 tm tm) (s2 u u) <| c2 <| .nil) <| pSeq <| wSeq ?_
 obtain ⟨y6, hy6, h⟩ := bd h
 refine rx (cr (oLdA (n := 3) (fs := f_api_Lattice) (u := ⟨y1.Names, y1.Up⟩) u ⟨u, u, tv⟩ t25 tm) (s1 u) <| cr (oLdA (n := 2) (fs := f_api_Table) (u := ⟨y2.Rows⟩) u ⟨u, tv⟩ t28 tm) (s1 u) <| cr (oLdP (n := 1) (k := 0) (m := 6) (d := (kR f_api_State)) (u := y3) pt35 u u u t35 tm) (s1 u) <| cC (reticentref10_May.ok hy6) <| c1 <| .nil) <| pSeq <| wSeq ?_
 obtain ⟨o1, h, hk1⟩ := bd h
 refine wJ1 (fun x9 => x9 = o1) (fun x9 => [(3, .d (ki.sig a3)), (4, .p 4 0), (5, .p 5 0), (6, .p 6 0), (9, .d ((kL (kR f_api_State)).sig y4.1)), (10, .d (ki.sig y4.2.1)), (11, .d (ki.sig y4.2.2)), (12, .p 12 0), (13, .d (ki.sig y5.2.1)), (14, .d (ki.sig y5.2.2)), (15, .d (ki.sig y6)), (54, .d (kB.sig x9))]) (fun x9 => [.box 12 35 (L35 y5.1), .box 6 35 (L35 y3), .box 5 28 [.d (kL (kR f_api_Row)) y2.Rows], .box 4 25 [.d (kL kS) y1.Names, .d (kL (kI .u32)) y1.Up]]) ?_ ?_
 ·obtain ⟨hp10, h⟩ | ⟨hp10, h⟩ := ik h
  ·obtain ⟨hp11, h⟩ | ⟨hp11, h⟩ := ik h
   ·exact rx (c8 <| c2 <| .nil) <| pJ1 _ (so h) (sb u) u
   ·exact rx (c8 <| c2 <| .nil) <| pJ1 _ (so h) (sb u) u
  ·exact rx (c6 <| csU u u <| csU u u <| c2 <| .nil) <| pJ1 _ (so h) (sb u) u
 ·rintro x9 rfl
  replace h := hk1
  obtain ⟨hp12, h⟩ | ⟨hp12, h⟩ := ik h
  ·refine wBT hp12.1 tm (s1 u) <| rx (c1 <| .nil) <| pSeq <| wSeq <| wSeq <| rx (c2 <| .nil) <| pSeq ?_
   obtain ⟨hp13, h⟩ | ⟨hp13, h⟩ := ik h
   ·refine wNT hp13.1 tm (s1 u) <| wSkip <| pSeq <| wSeq ?_
    obtain ⟨y14, hy14, h⟩ := bd h
    refine rx (cr (oLdA (n := 3) (fs := f_api_Lattice) (u := ⟨y1.Names, y1.Up⟩) u ⟨u, u, tv⟩ t25 tm) (s1 u) <| cr (oLdA (n := 2) (fs := f_api_Table) (u := ⟨y2.Rows⟩) u ⟨u, tv⟩ t28 tm) (s1 u) <| cr (oLdP (n := 1) (k := 0) (m := 6) (d := (kR f_api_State)) (u := y3) pt35 u u u t35 tm) (s1 u) <| c1 <| cC (reticentref11_Run.ok hy14) <| cw (oAlloc (id := 16) (ls := Z54) ze54 zl54) tv <| cwn (oStA (n := 0) (fs := f_reticentref11_R) u u z54 tm tm) (s2 u u) <| .nil) <| pSeq ?_
    obtain ⟨o1, h, hk1⟩ := bd h
    refine wJ1 (fun x25 => x25 = o1) (fun x25 => [(8, .d (kB.sig x25))]) (fun x25 => [.box 16 54 [.d (kL (kR f_api_State)) y14.L, .d ki y14.What], .box 12 35 (L35 y5.1), .box 6 35 (L35 y3), .box 5 28 [.d (kL (kR f_api_Row)) y2.Rows], .box 4 25 [.d (kL kS) y1.Names, .d (kL (kI .u32)) y1.Up]]) ?_ ?_
    ·obtain ⟨y26, hy26, h⟩ := bd h
     obtain ⟨hp27, h⟩ | ⟨hp27, h⟩ := ik h
     ·obtain ⟨hp28, h⟩ | ⟨hp28, h⟩ := ik h
      ·obtain ⟨hp29, h⟩ | ⟨hp29, h⟩ := ik h
       ·obtain ⟨hp30, h⟩ | ⟨hp30, h⟩ := ik h
        ·obtain ⟨hp31, h⟩ | ⟨hp31, h⟩ := ik h
         ·obtain ⟨y32, hy32, h⟩ := bd h
          obtain ⟨hp33, h⟩ | ⟨hp33, h⟩ := ik h
          ·obtain ⟨y34, hy34, h⟩ := bd h
           obtain ⟨y35, hy35, h⟩ := bd h
           exact rdx hm (cC (reticentlaw11_alive.ok hy26) <| c8 <| c3 <| crgB (dT hp29.1) u u (oLdB (n := 0) (k := 1) u u u t3 tm) (s1 u) <| c8 <| c2 <| crgB (dT hp31.1) u u (oLdB (n := 0) (k := 0) u u u t49 tm) (s1 u) <| cgB (dT hp31.1) u u (oCall u (reticentlaw11_same.ok hy32) b20 (oc tm (oc tm o0))) (s2 u u) <| c2 <| crgB hp33.1 u u (oLdP (n := 1) (k := 0) (m := 6) (d := (kR f_api_State)) (u := y5.1) pt35 u u u t35 tm) (s1 u) <| crgB hp33.1 u u (oLdA (n := 0) (fs := f_reticentref11_R) (u := ⟨y14.L, y14.What⟩) u ⟨u, u, tv⟩ t54 tm) (s1 u) <| cgB hp33.1 u u (oCall u (reticentref11_Last.ok hy34) b21 (oc tm o0)) (s1 u) <| cgB hp33.1 u u (oCall u (reticentref09_Same.ok hy35) b11 (oc tm (oc tm o0))) (s2 u u) <| c2 <| .nil) <| pJ1 _ (so h) (sb u) u
          ·exact rdx hm (cC (reticentlaw11_alive.ok hy26) <| c8 <| c3 <| crgB (dT hp29.1) u u (oLdB (n := 0) (k := 1) u u u t3 tm) (s1 u) <| c8 <| c2 <| crgB (dT hp31.1) u u (oLdB (n := 0) (k := 0) u u u t49 tm) (s1 u) <| cgB (dT hp31.1) u u (oCall u (reticentlaw11_same.ok hy32) b20 (oc tm (oc tm o0))) (s2 u u) <| c8 <| .nil) <| pJ1 _ (so h) (sb u) u
         ·exact rdx hm (cC (reticentlaw11_alive.ok hy26) <| c8 <| c3 <| crgB (dT hp29.1) u u (oLdB (n := 0) (k := 1) u u u t3 tm) (s1 u) <| c12 <| c8 <| .nil) <| pJ1 _ (so h) (sb u) u
        ·exact rdx hm (cC (reticentlaw11_alive.ok hy26) <| c8 <| c3 <| crgB (dT hp29.1) u u (oLdB (n := 0) (k := 1) u u u t3 tm) (s1 u) <| c12 <| c8 <| .nil) <| pJ1 _ (so h) (sb u) u
       ·exact rdx hm (cC (reticentlaw11_alive.ok hy26) <| c12 <| c12 <| c8 <| .nil) <| pJ1 _ (so h) (sb u) u
      ·exact rdx hm (cC (reticentlaw11_alive.ok hy26) <| c12 <| c12 <| c8 <| .nil) <| pJ1 _ (so h) (sb u) u
     ·exact rdx hm (cC (reticentlaw11_alive.ok hy26) <| c12 <| c12 <| c8 <| .nil) <| pJ1 _ (so h) (sb u) u
    ·rintro x25 rfl
     replace h := hk1
     refine wRet ?_
     obtain rfl := so h
     exact pR1 (.inl u) u (.tmp u <| .nil)
   ·refine wNF hp13.1 tm (s1 u) ?_
    obtain ⟨o1, h, hk1⟩ := bd h
    refine wJ1 (fun x44 => x44 = o1) (fun x44 => [(8, .d (kB.sig x44))]) (fun x44 => [.box 12 35 (L35 y5.1), .box 6 35 (L35 y3), .box 5 28 [.d (kL (kR f_api_Row)) y2.Rows], .box 4 25 [.d (kL kS) y1.Names, .d (kL (kI .u32)) y1.Up]]) ?_ ?_
    ·obtain ⟨y45, hy45, h⟩ := bd h
     obtain ⟨hp46, h⟩ | ⟨hp46, h⟩ := ik h
     ·obtain ⟨hp47, h⟩ | ⟨hp47, h⟩ := ik h
      ·obtain ⟨hp48, h⟩ | ⟨hp48, h⟩ := ik h
       ·obtain ⟨hp49, h⟩ | ⟨hp49, h⟩ := ik h
        ·obtain ⟨hp50, h⟩ | ⟨hp50, h⟩ := ik h
         ·obtain ⟨hp51, h⟩ | ⟨hp51, h⟩ := ik h
          ·obtain ⟨y52, hy52, h⟩ := bd h
           exact rx (cC (reticentlaw11_alive.ok hy45) <| c12 <| c12 <| crgB (dT hp51.1) u u (oLdP (n := 0) (k := 0) (m := 6) (d := (kR f_api_State)) (u := y5.1) pt35 u u u t35 tm) (s1 u) <| cgB (dT hp51.1) u u (oBuild (fs := f_api_State) (u := ⟨(⟨0, 0⟩ : api_Atom), [], [], [], []⟩) u ze35 pl35 po35 (.ze (zc := [(.int .i64 0), (.int .i64 0)]) zR_api_Atom (.ze (zc := [(.slice none 0 0)]) zL (.ze (zc := [(.slice none 0 0)]) zL (.ze (zc := [(.slice none 0 0)]) zL (.ze (zc := [(.slice none 0 0)]) zL .nil)))))) tv <| cgB (dT hp51.1) u u (oCall u (reticentref09_Same.ok hy52) b11 (oc tm (oc tm o0))) (s2 u u) <| c2 <| .nil) <| pJ1 _ (so h) (sb u) u
          ·exact rx (cC (reticentlaw11_alive.ok hy45) <| c12 <| c12 <| c4 <| c1 <| .nil) <| pJ1 _ (so h) (sb u) u
         ·exact rx (cC (reticentlaw11_alive.ok hy45) <| c12 <| c12 <| c4 <| c1 <| .nil) <| pJ1 _ (so h) (sb u) u
        ·exact rx (cC (reticentlaw11_alive.ok hy45) <| c12 <| c12 <| c4 <| c1 <| .nil) <| pJ1 _ (so h) (sb u) u
       ·exact rx (cC (reticentlaw11_alive.ok hy45) <| c12 <| c12 <| c4 <| c1 <| .nil) <| pJ1 _ (so h) (sb u) u
      ·exact rx (cC (reticentlaw11_alive.ok hy45) <| c12 <| c12 <| c4 <| c1 <| .nil) <| pJ1 _ (so h) (sb u) u
     ·exact rx (cC (reticentlaw11_alive.ok hy45) <| c12 <| c12 <| c4 <| c1 <| .nil) <| pJ1 _ (so h) (sb u) u
    ·rintro x44 rfl
     replace h := hk1
     refine wRet <| pThenR ?_
     obtain rfl := so h
     exact pR1 (.inl u) u (.tmp u <| .nil)
  ·refine wBF hp12.1 tm (s1 u) <| wSkip <| pSeq <| wSeq <| wSeq <| rx (c2 <| .nil) <| pSeq ?_
   obtain ⟨hp53, h⟩ | ⟨hp53, h⟩ := ik h
   ·refine wNT hp53.1 tm (s1 u) <| wSkip <| pSeq <| wSeq ?_
    obtain ⟨y54, hy54, h⟩ := bd h
    refine rx (cr (oLdA (n := 3) (fs := f_api_Lattice) (u := ⟨y1.Names, y1.Up⟩) u ⟨u, u, tv⟩ t25 tm) (s1 u) <| cr (oLdA (n := 2) (fs := f_api_Table) (u := ⟨y2.Rows⟩) u ⟨u, tv⟩ t28 tm) (s1 u) <| cr (oLdP (n := 1) (k := 0) (m := 6) (d := (kR f_api_State)) (u := y3) pt35 u u u t35 tm) (s1 u) <| c1 <| cC (reticentref11_Run.ok hy54) <| cw (oAlloc (id := 16) (ls := Z54) ze54 zl54) tv <| cwn (oStA (n := 0) (fs := f_reticentref11_R) u u z54 tm tm) (s2 u u) <| .nil) <| pSeq ?_
    obtain ⟨o1, h, hk1⟩ := bd h
    refine wJ1 (fun x65 => x65 = o1) (fun x65 => [(8, .d (kB.sig x65))]) (fun x65 => [.box 16 54 [.d (kL (kR f_api_State)) y54.L, .d ki y54.What], .box 12 35 (L35 y5.1), .box 6 35 (L35 y3), .box 5 28 [.d (kL (kR f_api_Row)) y2.Rows], .box 4 25 [.d (kL kS) y1.Names, .d (kL (kI .u32)) y1.Up]]) ?_ ?_
    ·obtain ⟨y66, hy66, h⟩ := bd h
     obtain ⟨hp67, h⟩ | ⟨hp67, h⟩ := ik h
     ·obtain ⟨hp68, h⟩ | ⟨hp68, h⟩ := ik h
      ·obtain ⟨hp69, h⟩ | ⟨hp69, h⟩ := ik h
       ·obtain ⟨hp70, h⟩ | ⟨hp70, h⟩ := ik h
        ·obtain ⟨hp71, h⟩ | ⟨hp71, h⟩ := ik h
         ·obtain ⟨y72, hy72, h⟩ := bd h
          obtain ⟨hp73, h⟩ | ⟨hp73, h⟩ := ik h
          ·obtain ⟨y74, hy74, h⟩ := bd h
           obtain ⟨y75, hy75, h⟩ := bd h
           exact rdx hm (cC (reticentlaw11_alive.ok hy66) <| c8 <| c3 <| crgB (dT hp69.1) u u (oLdB (n := 0) (k := 1) u u u t3 tm) (s1 u) <| c8 <| c2 <| crgB (dT hp71.1) u u (oLdB (n := 0) (k := 0) u u u t49 tm) (s1 u) <| cgB (dT hp71.1) u u (oCall u (reticentlaw11_same.ok hy72) b20 (oc tm (oc tm o0))) (s2 u u) <| c2 <| crgB hp73.1 u u (oLdP (n := 1) (k := 0) (m := 6) (d := (kR f_api_State)) (u := y5.1) pt35 u u u t35 tm) (s1 u) <| crgB hp73.1 u u (oLdA (n := 0) (fs := f_reticentref11_R) (u := ⟨y54.L, y54.What⟩) u ⟨u, u, tv⟩ t54 tm) (s1 u) <| cgB hp73.1 u u (oCall u (reticentref11_Last.ok hy74) b21 (oc tm o0)) (s1 u) <| cgB hp73.1 u u (oCall u (reticentref09_Same.ok hy75) b11 (oc tm (oc tm o0))) (s2 u u) <| c2 <| .nil) <| pJ1 _ (so h) (sb u) u
          ·exact rdx hm (cC (reticentlaw11_alive.ok hy66) <| c8 <| c3 <| crgB (dT hp69.1) u u (oLdB (n := 0) (k := 1) u u u t3 tm) (s1 u) <| c8 <| c2 <| crgB (dT hp71.1) u u (oLdB (n := 0) (k := 0) u u u t49 tm) (s1 u) <| cgB (dT hp71.1) u u (oCall u (reticentlaw11_same.ok hy72) b20 (oc tm (oc tm o0))) (s2 u u) <| c8 <| .nil) <| pJ1 _ (so h) (sb u) u
         ·exact rdx hm (cC (reticentlaw11_alive.ok hy66) <| c8 <| c3 <| crgB (dT hp69.1) u u (oLdB (n := 0) (k := 1) u u u t3 tm) (s1 u) <| c12 <| c8 <| .nil) <| pJ1 _ (so h) (sb u) u
        ·exact rdx hm (cC (reticentlaw11_alive.ok hy66) <| c8 <| c3 <| crgB (dT hp69.1) u u (oLdB (n := 0) (k := 1) u u u t3 tm) (s1 u) <| c12 <| c8 <| .nil) <| pJ1 _ (so h) (sb u) u
       ·exact rdx hm (cC (reticentlaw11_alive.ok hy66) <| c12 <| c12 <| c8 <| .nil) <| pJ1 _ (so h) (sb u) u
      ·exact rdx hm (cC (reticentlaw11_alive.ok hy66) <| c12 <| c12 <| c8 <| .nil) <| pJ1 _ (so h) (sb u) u
     ·exact rdx hm (cC (reticentlaw11_alive.ok hy66) <| c12 <| c12 <| c8 <| .nil) <| pJ1 _ (so h) (sb u) u
    ·rintro x65 rfl
     replace h := hk1
     refine wRet ?_
     obtain rfl := so h
     exact pR1 (.inl u) u (.tmp u <| .nil)
   ·refine wNF hp53.1 tm (s1 u) ?_
    obtain ⟨o1, h, hk1⟩ := bd h
    refine wJ1 (fun x84 => x84 = o1) (fun x84 => [(8, .d (kB.sig x84))]) (fun x84 => [.box 12 35 (L35 y5.1), .box 6 35 (L35 y3), .box 5 28 [.d (kL (kR f_api_Row)) y2.Rows], .box 4 25 [.d (kL kS) y1.Names, .d (kL (kI .u32)) y1.Up]]) ?_ ?_
    ·obtain ⟨y85, hy85, h⟩ := bd h
     obtain ⟨hp86, h⟩ | ⟨hp86, h⟩ := ik h
     ·obtain ⟨hp87, h⟩ | ⟨hp87, h⟩ := ik h
      ·obtain ⟨hp88, h⟩ | ⟨hp88, h⟩ := ik h
       ·obtain ⟨hp89, h⟩ | ⟨hp89, h⟩ := ik h
        ·obtain ⟨hp90, h⟩ | ⟨hp90, h⟩ := ik h
         ·obtain ⟨hp91, h⟩ | ⟨hp91, h⟩ := ik h
          ·obtain ⟨y92, hy92, h⟩ := bd h
           exact rx (cC (reticentlaw11_alive.ok hy85) <| c12 <| c12 <| crgB (dT hp91.1) u u (oLdP (n := 0) (k := 0) (m := 6) (d := (kR f_api_State)) (u := y5.1) pt35 u u u t35 tm) (s1 u) <| cgB (dT hp91.1) u u (oBuild (fs := f_api_State) (u := ⟨(⟨0, 0⟩ : api_Atom), [], [], [], []⟩) u ze35 pl35 po35 (.ze (zc := [(.int .i64 0), (.int .i64 0)]) zR_api_Atom (.ze (zc := [(.slice none 0 0)]) zL (.ze (zc := [(.slice none 0 0)]) zL (.ze (zc := [(.slice none 0 0)]) zL (.ze (zc := [(.slice none 0 0)]) zL .nil)))))) tv <| cgB (dT hp91.1) u u (oCall u (reticentref09_Same.ok hy92) b11 (oc tm (oc tm o0))) (s2 u u) <| c2 <| .nil) <| pJ1 _ (so h) (sb u) u
          ·exact rx (cC (reticentlaw11_alive.ok hy85) <| c12 <| c12 <| c4 <| c1 <| .nil) <| pJ1 _ (so h) (sb u) u
         ·exact rx (cC (reticentlaw11_alive.ok hy85) <| c12 <| c12 <| c4 <| c1 <| .nil) <| pJ1 _ (so h) (sb u) u
        ·exact rx (cC (reticentlaw11_alive.ok hy85) <| c12 <| c12 <| c4 <| c1 <| .nil) <| pJ1 _ (so h) (sb u) u
       ·exact rx (cC (reticentlaw11_alive.ok hy85) <| c12 <| c12 <| c4 <| c1 <| .nil) <| pJ1 _ (so h) (sb u) u
      ·exact rx (cC (reticentlaw11_alive.ok hy85) <| c12 <| c12 <| c4 <| c1 <| .nil) <| pJ1 _ (so h) (sb u) u
     ·exact rx (cC (reticentlaw11_alive.ok hy85) <| c12 <| c12 <| c4 <| c1 <| .nil) <| pJ1 _ (so h) (sb u) u
    ·rintro x84 rfl
     replace h := hk1
     refine wRet <| pThenR ?_
     obtain rfl := so h
     exact pR1 (.inl u) u (.tmp u <| .nil)

end Go.Proofs.YtmegdednaimgcaaGreatDoor.TT
