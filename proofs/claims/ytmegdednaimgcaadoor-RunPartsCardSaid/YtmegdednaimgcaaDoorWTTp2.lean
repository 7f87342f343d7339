import Derived.Test.YtmegdednaimgcaaDoorCln
import Derived.Test.YtmegdednaimgcaaDoorWTTp1
import Derived.Test.YtmegdednaimgcaaDoorProg
set_option linter.unusedVariables false
set_option maxRecDepth 10000
set_option maxHeartbeats 2000000
namespace Go.Proofs.YtmegdednaimgcaaDoor.TT
open Go Go.Proofs.YtmegdednaimgcaaDoor.Ab

theorem state_Right.ok {a0 : api_Lattice} {a1 : api_State} {r : Bool} (h : state_Right.f a0 a1 = some r) : FnA Tryd.prog 13 [(kR f_api_Lattice).sig a0, (kR f_api_State).sig a1] (kB.sig r) := by
  refine fnIntro Tryd.func13 rfl (by kernel_rfl) fun H0 w0 => ?_
  unfold state_Right.f at h
  refine wSeq ?_
  refine rg (cp (oBox tm) (s1 rfl) <| cp (oBox tm) (s1 rfl) <| cp (oAs cB) trivial <| .nil) (by kernel_rfl) ?_
  refine pSeq ?_
  refine wSeq ?_
  refine rg (cp (oMkF (Rl := rl1 (kI .i64) kB (fun z0 => state_Right_1.f z0 a0)) rfl b27 (rl1e state_Right_1.ok) (opds_cons tm opds_nil)) (s1 rfl) <| cw (oAlloc (id := 5) (ls := [.d (kFn Tryd.prog (rl1 (kI .i64) kB)) none]) ze69 (fun g => ⟨[.nilFunc], _, rfl, zFn g.H, rfl⟩)) trivial <| cwn (oSt (n := 0) (k := 0) rfl rfl rfl rfl z69 tm (oSome tm)) (s2 rfl rfl) <| .nil) (by kernel_rfl) ?_
  refine pSeq ?_
  refine wSeq ?_
  refine wFrzV 5 (n := 0) (id := 5) rfl rfl rfl ?_
  refine rg (cp (oMkF (Rl := rl1 (kR f_api_Atom) kB (fun z0 => state_Right_2.f z0 (some (fun z0 => state_Right_1.f z0 a0)))) rfl b28 (rl1e state_Right_2.ok) (opds_cons tm opds_nil)) (s1 rfl) <| cp (oAs tm) (s1 rfl) <| .nil) (by kernel_rfl) ?_
  refine pSeq ?_
  refine wSeq ?_
  refine rg (cp (oMkF (Rl := rl1 (kR f_api_Slot) kB (fun z0 => state_Right_3.f z0 (some (fun z0 => state_Right_1.f z0 a0)))) rfl b30 (rl1e state_Right_3.ok) (opds_cons tm opds_nil)) (s1 rfl) <| cp (oAs tm) (s1 rfl) <| .nil) (by kernel_rfl) ?_
  refine pSeq ?_
  obtain ⟨o1, h, hk1⟩ := bd h
  refine wJ1 (fun x3 => x3 = o1) (fun x3 => [(2, .d (sP (kR f_api_Lattice) a0)), (3, .d (sP (kR f_api_State) a1)), (5, .d (sP (kFn Tryd.prog (rl1 (kI .i64) kB)) (some (fun z0 => state_Right_1.f z0 a0)))), (6, .d ((sFun Tryd.prog (rl1 (kR f_api_Atom) kB (fun z0 => state_Right_2.f z0 (some (fun z0 => state_Right_1.f z0 a0))))))), (7, .d ((sFun Tryd.prog (rl1 (kR f_api_Slot) kB (fun z0 => state_Right_3.f z0 (some (fun z0 => state_Right_1.f z0 a0))))))), (8, .d (kB.sig x3))]) (fun x3 => []) ?_ ?_
  · rcases ic h with ⟨hp4, h⟩ | ⟨hp4, h⟩
    · rcases ic h with ⟨hp5, h⟩ | ⟨hp5, h⟩
      · refine rg (cp (oFld (fs := f_api_State) (k := 2) rfl o35_2 tm) (s1 rfl) <| cp (oLd t32 tm) (s1 rfl) <| cp (oLenL u32 tm) (s1 rfl) <| cp (oLe rfl tm (cI (by decide))) (s1 rfl) <| cp (oMv tm) (s1 rfl) <| cgB (decide_eq_true hp4) rfl rfl (oFld (fs := f_api_State) (k := 3) rfl o35_3 tm) (s1 rfl) <| cgB (decide_eq_true hp4) rfl rfl (oLd t33 tm) (s1 rfl) <| cgB (decide_eq_true hp4) rfl rfl (oLenL u33 tm) (s1 rfl) <| cgB (decide_eq_true hp4) rfl rfl (oLe rfl tm (cI (by decide))) (s1 rfl) <| cp (oPkT (decide_eq_true hp4) tm tm) (s2 rfl rfl) <| cp (oMv tm) (s1 rfl) <| cgB (decide_eq_true hp5) rfl rfl (oFld (fs := f_api_State) (k := 4) rfl o35_4 tm) (s1 rfl) <| cgB (decide_eq_true hp5) rfl rfl (oLd t32 tm) (s1 rfl) <| cgB (decide_eq_true hp5) rfl rfl (oLenL u32 tm) (s1 rfl) <| cgB (decide_eq_true hp5) rfl rfl (oLe rfl tm (cI (by decide))) (s1 rfl) <| cp (oPkT (decide_eq_true hp5) tm tm) (s2 rfl rfl) <| cp (oAs tm) (s1 rfl) <| .nil) (by kernel_rfl) ?_
        exact pJ1 _ (so h) ⟨rfl, rfl, rfl, rfl, rfl, rfl, trivial⟩ rfl
      · refine rg (cp (oFld (fs := f_api_State) (k := 2) rfl o35_2 tm) (s1 rfl) <| cp (oLd t32 tm) (s1 rfl) <| cp (oLenL u32 tm) (s1 rfl) <| cp (oLe rfl tm (cI (by decide))) (s1 rfl) <| cp (oMv tm) (s1 rfl) <| cgB (decide_eq_true hp4) rfl rfl (oFld (fs := f_api_State) (k := 3) rfl o35_3 tm) (s1 rfl) <| cgB (decide_eq_true hp4) rfl rfl (oLd t33 tm) (s1 rfl) <| cgB (decide_eq_true hp4) rfl rfl (oLenL u33 tm) (s1 rfl) <| cgB (decide_eq_true hp4) rfl rfl (oLe rfl tm (cI (by decide))) (s1 rfl) <| cp (oPkT (decide_eq_true hp4) tm tm) (s2 rfl rfl) <| cp (oMv tm) (s1 rfl) <| csB (decide_eq_false hp5) rfl rfl <| csB (decide_eq_false hp5) rfl rfl <| csB (decide_eq_false hp5) rfl rfl <| csB (decide_eq_false hp5) rfl rfl <| cp (oPkF (decide_eq_false hp5) tm cB) (s1 rfl) <| cp (oAs tm) (s1 rfl) <| .nil) (by kernel_rfl) ?_
        exact pJ1 _ (so h) ⟨rfl, rfl, rfl, rfl, rfl, rfl, trivial⟩ rfl
    · refine rg (cp (oFld (fs := f_api_State) (k := 2) rfl o35_2 tm) (s1 rfl) <| cp (oLd t32 tm) (s1 rfl) <| cp (oLenL u32 tm) (s1 rfl) <| cp (oLe rfl tm (cI (by decide))) (s1 rfl) <| cp (oMv tm) (s1 rfl) <| csB (decide_eq_false hp4) rfl rfl <| csB (decide_eq_false hp4) rfl rfl <| csB (decide_eq_false hp4) rfl rfl <| csB (decide_eq_false hp4) rfl rfl <| cp (oPkF (decide_eq_false hp4) tm cB) (s1 rfl) <| cp (oMv tm) (s1 rfl) <| csB rfl rfl rfl <| csB rfl rfl rfl <| csB rfl rfl rfl <| csB rfl rfl rfl <| cp (oPkF rfl tm cB) (s1 rfl) <| cp (oAs tm) (s1 rfl) <| .nil) (by kernel_rfl) ?_
      exact pJ1 _ (so h) ⟨rfl, rfl, rfl, rfl, rfl, rfl, trivial⟩ rfl
  · rintro x3 rfl
    replace h := hk1
    obtain ⟨o1, h, hk1⟩ := bd h
    refine wJ1 (fun x19 => x19 = o1) (fun x19 => [(4, .d (kB.sig x19))]) (fun x19 => []) ?_ ?_
    · obtain ⟨y20, hy20, h⟩ := bd h
      rcases ic h with ⟨hp21, h⟩ | ⟨hp21, h⟩
      · obtain ⟨y22, hy22, h⟩ := bd h
        rcases ic h with ⟨hp23, h⟩ | ⟨hp23, h⟩
        · obtain ⟨y24, hy24, h⟩ := bd h
          obtain ⟨y25, hy25, h⟩ := bd h
          rcases ic h with ⟨hp26, h⟩ | ⟨hp26, h⟩
          · rcases ic h with ⟨hp27, h⟩ | ⟨hp27, h⟩
            · obtain ⟨y28, hy28, h⟩ := bd h
              rcases ic h with ⟨hp29, h⟩ | ⟨hp29, h⟩
              · obtain ⟨y30, hy30, h⟩ := bd h
                rcases ic h with ⟨hp31, h⟩ | ⟨hp31, h⟩
                · obtain ⟨y32, hy32, h⟩ := bd h
                  refine rg (cp (oLd t25 tm) (s1 rfl) <| cp (oFld (fs := f_api_State) (k := 1) rfl o35_1 tm) (s1 rfl) <| cp (oLd t31 tm) (s1 rfl) <| cp (oCall rfl (code_Right.ok hy20) b32 (opds_cons tm (opds_cons tm opds_nil))) (s2 rfl rfl) <| cp (oMv tm) (s1 rfl) <| cgB hp21 rfl rfl (oFld (fs := f_api_State) (k := 0) rfl o35_0 tm) (s1 rfl) <| cgB hp21 rfl rfl (oFld (fs := f_api_Atom) (k := 0) rfl o30_0 tm) (s1 rfl) <| cgB hp21 rfl rfl (oLd t3 tm) (s1 rfl) <| cgB hp21 rfl rfl (oCall rfl (state_place.ok hy22) b31 (opds_cons tm opds_nil)) (s1 rfl) <| cp (oPkT hp21 tm tm) (s2 rfl rfl) <| cp (oMv tm) (s1 rfl) <| cgB hp23 rfl rfl (oLd t69 tm) (s1 rfl) <| cgB hp23 rfl rfl (oFld (fs := f_api_State) (k := 0) rfl o35_0 tm) (s1 rfl) <| cgB hp23 rfl rfl (oFld (fs := f_api_Atom) (k := 1) rfl o30_1 tm) (s1 rfl) <| cgB hp23 rfl rfl (oLd t3 tm) (s1 rfl) <| cgB hp23 rfl rfl (oCallV rfl (rl1i (f := y24) hy25) (oGot hy24 tm) (opds_cons tm opds_nil)) (s2 rfl rfl) <| cp (oPkT hp23 tm tm) (s2 rfl rfl) <| cp (oMv tm) (s1 rfl) <| cgB hp26 rfl rfl (oMv tm) (s1 rfl) <| cp (oPkT hp26 tm tm) (s2 rfl rfl) <| cp (oMv tm) (s1 rfl) <| cgB hp27 rfl rfl (oFld (fs := f_api_State) (k := 2) rfl o35_2 tm) (s1 rfl) <| cgB hp27 rfl rfl (oLd t32 tm) (s1 rfl) <| cgB hp27 rfl rfl (oMv tm) (s1 rfl) <| cgB hp27 rfl rfl (oCall rfl (slices_ContainsFunc_api_Atom_api_Atom.ok hy28) b33 (opds_cons tm (opds_cons tm opds_nil))) (s2 rfl rfl) <| cgB hp27 rfl rfl (oNot tm) (s1 rfl) <| cp (oPkT hp27 tm tm) (s2 rfl rfl) <| cp (oMv tm) (s1 rfl) <| cgB hp29 rfl rfl (oFld (fs := f_api_State) (k := 3) rfl o35_3 tm) (s1 rfl) <| cgB hp29 rfl rfl (oLd t33 tm) (s1 rfl) <| cgB hp29 rfl rfl (oMv tm) (s1 rfl) <| cgB hp29 rfl rfl (oCall rfl (slices_ContainsFunc_api_Slot_api_Slot.ok hy30) b34 (opds_cons tm (opds_cons tm opds_nil))) (s2 rfl rfl) <| cgB hp29 rfl rfl (oNot tm) (s1 rfl) <| cp (oPkT hp29 tm tm) (s2 rfl rfl) <| cp (oMv tm) (s1 rfl) <| cgB hp31 rfl rfl (oFld (fs := f_api_State) (k := 4) rfl o35_4 tm) (s1 rfl) <| cgB hp31 rfl rfl (oLd t32 tm) (s1 rfl) <| cgB hp31 rfl rfl (oMv tm) (s1 rfl) <| cgB hp31 rfl rfl (oCall rfl (slices_ContainsFunc_api_Atom_api_Atom.ok hy32) b33 (opds_cons tm (opds_cons tm opds_nil))) (s2 rfl rfl) <| cgB hp31 rfl rfl (oNot tm) (s1 rfl) <| cp (oPkT hp31 tm tm) (s2 rfl rfl) <| cp (oAs tm) (s1 rfl) <| .nil) (by kernel_rfl) ?_
                  exact pJ1 _ (so h) ⟨rfl, trivial⟩ rfl
                · refine rg (cp (oLd t25 tm) (s1 rfl) <| cp (oFld (fs := f_api_State) (k := 1) rfl o35_1 tm) (s1 rfl) <| cp (oLd t31 tm) (s1 rfl) <| cp (oCall rfl (code_Right.ok hy20) b32 (opds_cons tm (opds_cons tm opds_nil))) (s2 rfl rfl) <| cp (oMv tm) (s1 rfl) <| cgB hp21 rfl rfl (oFld (fs := f_api_State) (k := 0) rfl o35_0 tm) (s1 rfl) <| cgB hp21 rfl rfl (oFld (fs := f_api_Atom) (k := 0) rfl o30_0 tm) (s1 rfl) <| cgB hp21 rfl rfl (oLd t3 tm) (s1 rfl) <| cgB hp21 rfl rfl (oCall rfl (state_place.ok hy22) b31 (opds_cons tm opds_nil)) (s1 rfl) <| cp (oPkT hp21 tm tm) (s2 rfl rfl) <| cp (oMv tm) (s1 rfl) <| cgB hp23 rfl rfl (oLd t69 tm) (s1 rfl) <| cgB hp23 rfl rfl (oFld (fs := f_api_State) (k := 0) rfl o35_0 tm) (s1 rfl) <| cgB hp23 rfl rfl (oFld (fs := f_api_Atom) (k := 1) rfl o30_1 tm) (s1 rfl) <| cgB hp23 rfl rfl (oLd t3 tm) (s1 rfl) <| cgB hp23 rfl rfl (oCallV rfl (rl1i (f := y24) hy25) (oGot hy24 tm) (opds_cons tm opds_nil)) (s2 rfl rfl) <| cp (oPkT hp23 tm tm) (s2 rfl rfl) <| cp (oMv tm) (s1 rfl) <| cgB hp26 rfl rfl (oMv tm) (s1 rfl) <| cp (oPkT hp26 tm tm) (s2 rfl rfl) <| cp (oMv tm) (s1 rfl) <| cgB hp27 rfl rfl (oFld (fs := f_api_State) (k := 2) rfl o35_2 tm) (s1 rfl) <| cgB hp27 rfl rfl (oLd t32 tm) (s1 rfl) <| cgB hp27 rfl rfl (oMv tm) (s1 rfl) <| cgB hp27 rfl rfl (oCall rfl (slices_ContainsFunc_api_Atom_api_Atom.ok hy28) b33 (opds_cons tm (opds_cons tm opds_nil))) (s2 rfl rfl) <| cgB hp27 rfl rfl (oNot tm) (s1 rfl) <| cp (oPkT hp27 tm tm) (s2 rfl rfl) <| cp (oMv tm) (s1 rfl) <| cgB hp29 rfl rfl (oFld (fs := f_api_State) (k := 3) rfl o35_3 tm) (s1 rfl) <| cgB hp29 rfl rfl (oLd t33 tm) (s1 rfl) <| cgB hp29 rfl rfl (oMv tm) (s1 rfl) <| cgB hp29 rfl rfl (oCall rfl (slices_ContainsFunc_api_Slot_api_Slot.ok hy30) b34 (opds_cons tm (opds_cons tm opds_nil))) (s2 rfl rfl) <| cgB hp29 rfl rfl (oNot tm) (s1 rfl) <| cp (oPkT hp29 tm tm) (s2 rfl rfl) <| cp (oMv tm) (s1 rfl) <| csB (nb hp31) rfl rfl <| csB (nb hp31) rfl rfl <| csB (nb hp31) rfl rfl <| csB (nb hp31) rfl rfl <| csB (nb hp31) rfl rfl <| cp (oPkF (nb hp31) tm cB) (s1 rfl) <| cp (oAs tm) (s1 rfl) <| .nil) (by kernel_rfl) ?_
                  exact pJ1 _ (so h) ⟨rfl, trivial⟩ rfl
              · refine rg (cp (oLd t25 tm) (s1 rfl) <| cp (oFld (fs := f_api_State) (k := 1) rfl o35_1 tm) (s1 rfl) <| cp (oLd t31 tm) (s1 rfl) <| cp (oCall rfl (code_Right.ok hy20) b32 (opds_cons tm (opds_cons tm opds_nil))) (s2 rfl rfl) <| cp (oMv tm) (s1 rfl) <| cgB hp21 rfl rfl (oFld (fs := f_api_State) (k := 0) rfl o35_0 tm) (s1 rfl) <| cgB hp21 rfl rfl (oFld (fs := f_api_Atom) (k := 0) rfl o30_0 tm) (s1 rfl) <| cgB hp21 rfl rfl (oLd t3 tm) (s1 rfl) <| cgB hp21 rfl rfl (oCall rfl (state_place.ok hy22) b31 (opds_cons tm opds_nil)) (s1 rfl) <| cp (oPkT hp21 tm tm) (s2 rfl rfl) <| cp (oMv tm) (s1 rfl) <| cgB hp23 rfl rfl (oLd t69 tm) (s1 rfl) <| cgB hp23 rfl rfl (oFld (fs := f_api_State) (k := 0) rfl o35_0 tm) (s1 rfl) <| cgB hp23 rfl rfl (oFld (fs := f_api_Atom) (k := 1) rfl o30_1 tm) (s1 rfl) <| cgB hp23 rfl rfl (oLd t3 tm) (s1 rfl) <| cgB hp23 rfl rfl (oCallV rfl (rl1i (f := y24) hy25) (oGot hy24 tm) (opds_cons tm opds_nil)) (s2 rfl rfl) <| cp (oPkT hp23 tm tm) (s2 rfl rfl) <| cp (oMv tm) (s1 rfl) <| cgB hp26 rfl rfl (oMv tm) (s1 rfl) <| cp (oPkT hp26 tm tm) (s2 rfl rfl) <| cp (oMv tm) (s1 rfl) <| cgB hp27 rfl rfl (oFld (fs := f_api_State) (k := 2) rfl o35_2 tm) (s1 rfl) <| cgB hp27 rfl rfl (oLd t32 tm) (s1 rfl) <| cgB hp27 rfl rfl (oMv tm) (s1 rfl) <| cgB hp27 rfl rfl (oCall rfl (slices_ContainsFunc_api_Atom_api_Atom.ok hy28) b33 (opds_cons tm (opds_cons tm opds_nil))) (s2 rfl rfl) <| cgB hp27 rfl rfl (oNot tm) (s1 rfl) <| cp (oPkT hp27 tm tm) (s2 rfl rfl) <| cp (oMv tm) (s1 rfl) <| csB (nb hp29) rfl rfl <| csB (nb hp29) rfl rfl <| csB (nb hp29) rfl rfl <| csB (nb hp29) rfl rfl <| csB (nb hp29) rfl rfl <| cp (oPkF (nb hp29) tm cB) (s1 rfl) <| cp (oMv tm) (s1 rfl) <| csB rfl rfl rfl <| csB rfl rfl rfl <| csB rfl rfl rfl <| csB rfl rfl rfl <| csB rfl rfl rfl <| cp (oPkF rfl tm cB) (s1 rfl) <| cp (oAs tm) (s1 rfl) <| .nil) (by kernel_rfl) ?_
                exact pJ1 _ (so h) ⟨rfl, trivial⟩ rfl
            · refine rg (cp (oLd t25 tm) (s1 rfl) <| cp (oFld (fs := f_api_State) (k := 1) rfl o35_1 tm) (s1 rfl) <| cp (oLd t31 tm) (s1 rfl) <| cp (oCall rfl (code_Right.ok hy20) b32 (opds_cons tm (opds_cons tm opds_nil))) (s2 rfl rfl) <| cp (oMv tm) (s1 rfl) <| cgB hp21 rfl rfl (oFld (fs := f_api_State) (k := 0) rfl o35_0 tm) (s1 rfl) <| cgB hp21 rfl rfl (oFld (fs := f_api_Atom) (k := 0) rfl o30_0 tm) (s1 rfl) <| cgB hp21 rfl rfl (oLd t3 tm) (s1 rfl) <| cgB hp21 rfl rfl (oCall rfl (state_place.ok hy22) b31 (opds_cons tm opds_nil)) (s1 rfl) <| cp (oPkT hp21 tm tm) (s2 rfl rfl) <| cp (oMv tm) (s1 rfl) <| cgB hp23 rfl rfl (oLd t69 tm) (s1 rfl) <| cgB hp23 rfl rfl (oFld (fs := f_api_State) (k := 0) rfl o35_0 tm) (s1 rfl) <| cgB hp23 rfl rfl (oFld (fs := f_api_Atom) (k := 1) rfl o30_1 tm) (s1 rfl) <| cgB hp23 rfl rfl (oLd t3 tm) (s1 rfl) <| cgB hp23 rfl rfl (oCallV rfl (rl1i (f := y24) hy25) (oGot hy24 tm) (opds_cons tm opds_nil)) (s2 rfl rfl) <| cp (oPkT hp23 tm tm) (s2 rfl rfl) <| cp (oMv tm) (s1 rfl) <| cgB hp26 rfl rfl (oMv tm) (s1 rfl) <| cp (oPkT hp26 tm tm) (s2 rfl rfl) <| cp (oMv tm) (s1 rfl) <| csB (nb hp27) rfl rfl <| csB (nb hp27) rfl rfl <| csB (nb hp27) rfl rfl <| csB (nb hp27) rfl rfl <| csB (nb hp27) rfl rfl <| cp (oPkF (nb hp27) tm cB) (s1 rfl) <| cp (oMv tm) (s1 rfl) <| csB rfl rfl rfl <| csB rfl rfl rfl <| csB rfl rfl rfl <| csB rfl rfl rfl <| csB rfl rfl rfl <| cp (oPkF rfl tm cB) (s1 rfl) <| cp (oMv tm) (s1 rfl) <| csB rfl rfl rfl <| csB rfl rfl rfl <| csB rfl rfl rfl <| csB rfl rfl rfl <| csB rfl rfl rfl <| cp (oPkF rfl tm cB) (s1 rfl) <| cp (oAs tm) (s1 rfl) <| .nil) (by kernel_rfl) ?_
              exact pJ1 _ (so h) ⟨rfl, trivial⟩ rfl
          · refine rg (cp (oLd t25 tm) (s1 rfl) <| cp (oFld (fs := f_api_State) (k := 1) rfl o35_1 tm) (s1 rfl) <| cp (oLd t31 tm) (s1 rfl) <| cp (oCall rfl (code_Right.ok hy20) b32 (opds_cons tm (opds_cons tm opds_nil))) (s2 rfl rfl) <| cp (oMv tm) (s1 rfl) <| cgB hp21 rfl rfl (oFld (fs := f_api_State) (k := 0) rfl o35_0 tm) (s1 rfl) <| cgB hp21 rfl rfl (oFld (fs := f_api_Atom) (k := 0) rfl o30_0 tm) (s1 rfl) <| cgB hp21 rfl rfl (oLd t3 tm) (s1 rfl) <| cgB hp21 rfl rfl (oCall rfl (state_place.ok hy22) b31 (opds_cons tm opds_nil)) (s1 rfl) <| cp (oPkT hp21 tm tm) (s2 rfl rfl) <| cp (oMv tm) (s1 rfl) <| cgB hp23 rfl rfl (oLd t69 tm) (s1 rfl) <| cgB hp23 rfl rfl (oFld (fs := f_api_State) (k := 0) rfl o35_0 tm) (s1 rfl) <| cgB hp23 rfl rfl (oFld (fs := f_api_Atom) (k := 1) rfl o30_1 tm) (s1 rfl) <| cgB hp23 rfl rfl (oLd t3 tm) (s1 rfl) <| cgB hp23 rfl rfl (oCallV rfl (rl1i (f := y24) hy25) (oGot hy24 tm) (opds_cons tm opds_nil)) (s2 rfl rfl) <| cp (oPkT hp23 tm tm) (s2 rfl rfl) <| cp (oMv tm) (s1 rfl) <| csB (nb hp26) rfl rfl <| cp (oPkF (nb hp26) tm cB) (s1 rfl) <| cp (oMv tm) (s1 rfl) <| csB rfl rfl rfl <| csB rfl rfl rfl <| csB rfl rfl rfl <| csB rfl rfl rfl <| csB rfl rfl rfl <| cp (oPkF rfl tm cB) (s1 rfl) <| cp (oMv tm) (s1 rfl) <| csB rfl rfl rfl <| csB rfl rfl rfl <| csB rfl rfl rfl <| csB rfl rfl rfl <| csB rfl rfl rfl <| cp (oPkF rfl tm cB) (s1 rfl) <| cp (oMv tm) (s1 rfl) <| csB rfl rfl rfl <| csB rfl rfl rfl <| csB rfl rfl rfl <| csB rfl rfl rfl <| csB rfl rfl rfl <| cp (oPkF rfl tm cB) (s1 rfl) <| cp (oAs tm) (s1 rfl) <| .nil) (by kernel_rfl) ?_
            exact pJ1 _ (so h) ⟨rfl, trivial⟩ rfl
        · refine rg (cp (oLd t25 tm) (s1 rfl) <| cp (oFld (fs := f_api_State) (k := 1) rfl o35_1 tm) (s1 rfl) <| cp (oLd t31 tm) (s1 rfl) <| cp (oCall rfl (code_Right.ok hy20) b32 (opds_cons tm (opds_cons tm opds_nil))) (s2 rfl rfl) <| cp (oMv tm) (s1 rfl) <| cgB hp21 rfl rfl (oFld (fs := f_api_State) (k := 0) rfl o35_0 tm) (s1 rfl) <| cgB hp21 rfl rfl (oFld (fs := f_api_Atom) (k := 0) rfl o30_0 tm) (s1 rfl) <| cgB hp21 rfl rfl (oLd t3 tm) (s1 rfl) <| cgB hp21 rfl rfl (oCall rfl (state_place.ok hy22) b31 (opds_cons tm opds_nil)) (s1 rfl) <| cp (oPkT hp21 tm tm) (s2 rfl rfl) <| cp (oMv tm) (s1 rfl) <| csB (nb hp23) rfl rfl <| csB (nb hp23) rfl rfl <| csB (nb hp23) rfl rfl <| csB (nb hp23) rfl rfl <| csB (nb hp23) rfl rfl <| cp (oPkF (nb hp23) tm cB) (s1 rfl) <| cp (oMv tm) (s1 rfl) <| csB rfl rfl rfl <| cp (oPkF rfl tm cB) (s1 rfl) <| cp (oMv tm) (s1 rfl) <| csB rfl rfl rfl <| csB rfl rfl rfl <| csB rfl rfl rfl <| csB rfl rfl rfl <| csB rfl rfl rfl <| cp (oPkF rfl tm cB) (s1 rfl) <| cp (oMv tm) (s1 rfl) <| csB rfl rfl rfl <| csB rfl rfl rfl <| csB rfl rfl rfl <| csB rfl rfl rfl <| csB rfl rfl rfl <| cp (oPkF rfl tm cB) (s1 rfl) <| cp (oMv tm) (s1 rfl) <| csB rfl rfl rfl <| csB rfl rfl rfl <| csB rfl rfl rfl <| csB rfl rfl rfl <| csB rfl rfl rfl <| cp (oPkF rfl tm cB) (s1 rfl) <| cp (oAs tm) (s1 rfl) <| .nil) (by kernel_rfl) ?_
          exact pJ1 _ (so h) ⟨rfl, trivial⟩ rfl
      · refine rg (cp (oLd t25 tm) (s1 rfl) <| cp (oFld (fs := f_api_State) (k := 1) rfl o35_1 tm) (s1 rfl) <| cp (oLd t31 tm) (s1 rfl) <| cp (oCall rfl (code_Right.ok hy20) b32 (opds_cons tm (opds_cons tm opds_nil))) (s2 rfl rfl) <| cp (oMv tm) (s1 rfl) <| csB (nb hp21) rfl rfl <| csB (nb hp21) rfl rfl <| csB (nb hp21) rfl rfl <| csB (nb hp21) rfl rfl <| cp (oPkF (nb hp21) tm cB) (s1 rfl) <| cp (oMv tm) (s1 rfl) <| csB rfl rfl rfl <| csB rfl rfl rfl <| csB rfl rfl rfl <| csB rfl rfl rfl <| csB rfl rfl rfl <| cp (oPkF rfl tm cB) (s1 rfl) <| cp (oMv tm) (s1 rfl) <| csB rfl rfl rfl <| cp (oPkF rfl tm cB) (s1 rfl) <| cp (oMv tm) (s1 rfl) <| csB rfl rfl rfl <| csB rfl rfl rfl <| csB rfl rfl rfl <| csB rfl rfl rfl <| csB rfl rfl rfl <| cp (oPkF rfl tm cB) (s1 rfl) <| cp (oMv tm) (s1 rfl) <| csB rfl rfl rfl <| csB rfl rfl rfl <| csB rfl rfl rfl <| csB rfl rfl rfl <| csB rfl rfl rfl <| cp (oPkF rfl tm cB) (s1 rfl) <| cp (oMv tm) (s1 rfl) <| csB rfl rfl rfl <| csB rfl rfl rfl <| csB rfl rfl rfl <| csB rfl rfl rfl <| csB rfl rfl rfl <| cp (oPkF rfl tm cB) (s1 rfl) <| cp (oAs tm) (s1 rfl) <| .nil) (by kernel_rfl) ?_
        exact pJ1 _ (so h) ⟨rfl, trivial⟩ rfl
    · rintro x19 rfl
      replace h := hk1
      refine wRet ?_
      obtain rfl := so h
      exact pR1 (.inl rfl) rfl (.tmp rfl <| .nil)

theorem step_need.ok {a0 : Bool} {z : Pn ⊕ Unit} (h : step_need.f a0 = some z) : FnZ Tryd.prog 45 [.d (kB.sig a0)] [] [] 86 (fun (r : Unit) => .d (tup [])) (fun (r : Unit) => []) z := by
  refine fnIntroZ Tryd.func45 rfl (by kernel_rfl) fun X H0 w0 pv => ?_
  unfold step_need.f at h
  refine wSeq ?_
  refine rg (cp (oMv tm) (s1 rfl) <| cp (oNot tm) (s1 rfl) <| .nil) (by kernel_rfl) ?_
  refine pSeq ?_
  rcases ic h with ⟨hp1, h⟩ | ⟨hp1, h⟩
  · refine wBT hp1 tm (s1 rfl) ?_
    refine wT0 ?_
    refine wTk 0 1 (cp (oMkX 3 cb86 (cI (by decide))) trivial <| .nil) (by kernel_rfl) rfl ?_
    refine wTx (Γp := []) 1 rfl (oPanic tm) rfl rfl (s1 rfl) trivial ?_
    obtain rfl := so h
    exact pX
  · refine wBF hp1 tm (s1 rfl) ?_
    refine wSkip ?_
    obtain rfl := so h
    refine pZ ?_
    exact pSn [] rfl rfl (.inr rfl) rfl rfl (.nil)
theorem step_need.okR {a0 : Bool} {r : Unit} (h : step_need.f a0 = some (.inr r)) : FnS Tryd.prog 45 [.d (kB.sig a0)] [] [] (.d (tup [])) [] := step_need.ok h
theorem step_need.okP {a0 : Bool} {n : Pn} (h : step_need.f a0 = some (.inl n)) : FnX Tryd.prog 45 [.d (kB.sig a0)] [] (pvv 86 n) := step_need.ok h

theorem slices_IndexFunc_int_int.ok {a0 : List Int} {a1 : Int → Option Bool} {r : Int} (h : slices_IndexFunc_int_int.f a0 a1 = some r) : FnA Tryd.prog 101 [(kL (kI .i64)).sig a0, (sFun Tryd.prog (rl1 (kI .i64) kB a1))] ((kI .i64).sig r) := by
  refine fnIntro Tryd.func101 rfl (by kernel_rfl) fun H0 w0 => ?_
  unfold slices_IndexFunc_int_int.f at h
  refine wSeq ?_
  refine rg (cp (oAs (cI (by decide))) trivial <| .nil) (by kernel_rfl) ?_
  refine pSeq ?_
  refine wSeq ?_
  refine wSeq ?_
  refine rg (cp (oMv tm) (s1 rfl) <| cp (oLenL u44 tm) (s1 rfl) <| cp (oMv (cI (by decide))) trivial <| .nil) (by kernel_rfl) ?_
  refine pSeq ?_
  obtain ⟨o1, h, hk1⟩ := bd h
  refine wK0 (.inr () = o1) ([]) ([]) ?_ ?_
  · refine wBlock (wLoop ?_)
    refine lW (pc1 o1 (fun v9 => [(0, .d ((kL (kI .i64)).sig a0)), (1, .d ((sFun Tryd.prog (rl1 (kI .i64) kB a1)))), (7, .d ((kI .i64).sig (a0.length : Int))), (8, .d ((kI .i64).sig v9))]) (fun v9 => []) (slices_IndexFunc_int_int.l0.partial_correctness a0 a1) ?_ _ h) ⟨rfl, rfl, rfl, rfl, trivial⟩ rfl
    clear h
    intro f' ih v9 h
    refine wSeq ?_
    refine rg (cp (oLt rfl tm tm) (s2 rfl rfl) <| .nil) (by kernel_rfl) ?_
    refine pSeq ?_
    refine wSeq ?_
    rcases ic h with ⟨hp10, h⟩ | ⟨hp10, h⟩
    · refine wCT hp10 tm (s1 rfl) ?_
      refine wSkip ?_
      refine pSeq ?_
      refine wSeq ?_
      refine wBlock ?_
      refine wSeq ?_
      refine rg (cp (oMv tm) (s1 rfl) <| cp (oAs tm) (s1 rfl) <| .nil) (by kernel_rfl) ?_
      refine pSeq ?_
      refine wSeq ?_
      obtain ⟨y11, hy11, h⟩ := bd h
      obtain ⟨y12, hy12, h⟩ := bd h
      refine rg (cp (oMv tm) (s1 rfl) <| cp (oMv tm) (s1 rfl) <| cp (oMv tm) (s1 rfl) <| cp (oIdx u44 z3 hy11 tm tm) (s2 rfl rfl) <| cp (oLd t3 tm) (s1 rfl) <| cp (oCallV rfl (rl1i (f := a1) hy12) tm (opds_cons tm opds_nil)) (s2 rfl rfl) <| .nil) (by kernel_rfl) ?_
      refine pSeq ?_
      rcases ic h with ⟨hp13, h⟩ | ⟨hp13, h⟩
      · refine wBT hp13 tm (s1 rfl) ?_
        refine wSeq ?_
        refine rg (cp (oMv tm) (s1 rfl) <| cp (oAs tm) (s1 rfl) <| .nil) (by kernel_rfl) ?_
        refine pSeq ?_
        refine wRet ?_
        refine pBlkR ?_
        refine pThenR ?_
        refine pThenR ?_
        refine pBlkR ?_
        refine pThenR ?_
        obtain rfl := so h
        replace h := hk1
        refine pThenR ?_
        obtain rfl := so h
        exact pR1 (.inl rfl) rfl (.tmp rfl <| .nil)
      · refine wBF hp13 tm (s1 rfl) ?_
        refine wSkip ?_
        refine pBlkN ?_
        refine pSeq ?_
        refine rg (cp (oAdd tm (cI (by decide))) (s1 rfl) <| cp (oMv tm) (s1 rfl) <| .nil) (by kernel_rfl) ?_
        exact pLoop (lW (ih _ h) ⟨rfl, rfl, rfl, rfl, trivial⟩ rfl)
    · refine wCF hp10 tm (s1 rfl) ?_
      refine wExit ?_
      refine pThenX ?_
      refine pThenX ?_
      refine pBlkX ?_
      exact pJ0 (so h) trivial rfl
  · rintro rfl
    replace h := hk1
    refine pSeq ?_
    refine wSeq ?_
    refine rg (cp (oAs (cI (by decide))) trivial <| .nil) (by kernel_rfl) ?_
    refine pSeq ?_
    refine wRet ?_
    obtain rfl := so h
    exact pR1 (.inl rfl) rfl (.tmp rfl <| .nil)

theorem slices_ContainsFunc_int_int.ok {a0 : List Int} {a1 : Int → Option Bool} {r : Bool} (h : slices_ContainsFunc_int_int.f a0 a1 = some r) : FnA Tryd.prog 88 [(kL (kI .i64)).sig a0, (sFun Tryd.prog (rl1 (kI .i64) kB a1))] (kB.sig r) := by
  refine fnIntro Tryd.func88 rfl (by kernel_rfl) fun H0 w0 => ?_
  unfold slices_ContainsFunc_int_int.f at h
  refine wSeq ?_
  refine rg (cp (oAs cB) trivial <| .nil) (by kernel_rfl) ?_
  refine pSeq ?_
  refine wSeq ?_
  obtain ⟨y1, hy1, h⟩ := bd h
  refine rg (cp (oMv tm) (s1 rfl) <| cp (oMv tm) (s1 rfl) <| cp (oCall rfl (slices_IndexFunc_int_int.ok hy1) b101 (opds_cons tm (opds_cons tm opds_nil))) (s2 rfl rfl) <| cp (oGe rfl tm (cI (by decide))) (s1 rfl) <| cp (oAs tm) (s1 rfl) <| .nil) (by kernel_rfl) ?_
  refine pSeq ?_
  refine wRet ?_
  obtain rfl := so h
  exact pR1 (.inl rfl) rfl (.tmp rfl <| .nil)

theorem lattice_there_1.ok {a0 : Int} {a1 : api_Lattice} {r : Bool} (h : lattice_there_1.f a0 a1 = some r) : FnA Tryd.prog 89 [(kI .i64).sig a0, sP (kR f_api_Lattice) a1] (kB.sig r) := by
  refine fnIntro Tryd.func89 rfl (by kernel_rfl) fun H0 w0 => ?_
  unfold lattice_there_1.f at h
  refine wSeq ?_
  refine rg (cp (oAs cB) trivial <| .nil) (by kernel_rfl) ?_
  refine pSeq ?_
  obtain ⟨o1, h, hk1⟩ := bd h
  refine wJ1 (fun x2 => x2 = o1) (fun x2 => [(3, .d (kB.sig x2))]) (fun x2 => []) ?_ ?_
  · rcases ic h with ⟨hp3, h⟩ | ⟨hp3, h⟩
    · refine rg (cp (oMv tm) (s1 rfl) <| cp (oLt rfl tm (cI (by decide))) (s1 rfl) <| cp (oMv tm) (s1 rfl) <| csB (decide_eq_true hp3) rfl rfl <| csB (decide_eq_true hp3) rfl rfl <| csB (decide_eq_true hp3) rfl rfl <| csB (decide_eq_true hp3) rfl rfl <| csB (decide_eq_true hp3) rfl rfl <| cp (oPkT (decide_eq_true hp3) tm cB) (s1 rfl) <| cp (oAs tm) (s1 rfl) <| .nil) (by kernel_rfl) ?_
      exact pJ1 _ (so h) ⟨rfl, trivial⟩ rfl
    · refine rg (cp (oMv tm) (s1 rfl) <| cp (oLt rfl tm (cI (by decide))) (s1 rfl) <| cp (oMv tm) (s1 rfl) <| cgB (decide_eq_false hp3) rfl rfl (oMv tm) (s1 rfl) <| cgB (decide_eq_false hp3) rfl rfl (oFld (fs := f_api_Lattice) (k := 1) rfl o25_1 tm) (s1 rfl) <| cgB (decide_eq_false hp3) rfl rfl (oLd t23 tm) (s1 rfl) <| cgB (decide_eq_false hp3) rfl rfl (oLenL u23 tm) (s1 rfl) <| cgB (decide_eq_false hp3) rfl rfl (oGe rfl tm tm) (s2 rfl rfl) <| cp (oPkF (decide_eq_false hp3) tm tm) (s2 rfl rfl) <| cp (oAs tm) (s1 rfl) <| .nil) (by kernel_rfl) ?_
      exact pJ1 _ (so h) ⟨rfl, trivial⟩ rfl
  · rintro x2 rfl
    replace h := hk1
    refine wRet ?_
    obtain rfl := so h
    exact pR1 (.inl rfl) rfl (.tmp rfl <| .nil)

theorem lattice_there.ok {a0 : api_Lattice} {a1 : List Int} {r : Int} (h : lattice_there.f a0 a1 = some r) : FnA Tryd.prog 66 [(kR f_api_Lattice).sig a0, (kL (kI .i64)).sig a1] ((kI .i64).sig r) := by
  refine fnIntro Tryd.func66 rfl (by kernel_rfl) fun H0 w0 => ?_
  unfold lattice_there.f at h
  refine wSeq ?_
  refine rg (cp (oBox tm) (s1 rfl) <| cp (oAs (cI (by decide))) trivial <| .nil) (by kernel_rfl) ?_
  refine pSeq ?_
  refine wSeq ?_
  refine wSeq ?_
  obtain ⟨y1, hy1, h⟩ := bd h
  refine rg (cp (oLd t25 tm) (s1 rfl) <| cp (oCall rfl (lattice_Check.ok hy1) b22 (opds_cons tm opds_nil)) (s1 rfl) <| cp (oAs tm) (s1 rfl) <| .nil) (by kernel_rfl) ?_
  refine pSeq ?_
  refine wSeq ?_
  refine rg (cp (oMv tm) (s1 rfl) <| cp (oNe rfl tm (cI (by decide))) (s1 rfl) <| .nil) (by kernel_rfl) ?_
  refine pSeq ?_
  rcases ic h with ⟨hp2, h⟩ | ⟨hp2, h⟩
  · refine wNT hp2 tm (s1 rfl) ?_
    refine wSkip ?_
    refine pSeq ?_
    refine wSeq ?_
    refine wSeq ?_
    obtain ⟨y3, hy3, h⟩ := bd h
    refine rg (cp (oMv tm) (s1 rfl) <| cp (oMkF (Rl := rl1 (kI .i64) kB (fun z0 => lattice_there_1.f z0 a0)) rfl b89 (rl1e lattice_there_1.ok) (opds_cons tm opds_nil)) (s1 rfl) <| cp (oCall rfl (slices_ContainsFunc_int_int.ok hy3) b88 (opds_cons tm (opds_cons tm opds_nil))) (s2 rfl rfl) <| .nil) (by kernel_rfl) ?_
    refine pSeq ?_
    rcases ic h with ⟨hp4, h⟩ | ⟨hp4, h⟩
    · refine wBT hp4 tm (s1 rfl) ?_
      refine wSeq ?_
      refine rg (cp (oAs (cI (by decide))) trivial <| .nil) (by kernel_rfl) ?_
      refine pSeq ?_
      refine wRet ?_
      refine pThenR ?_
      obtain rfl := so h
      exact pR1 (.inl rfl) rfl (.tmp rfl <| .nil)
    · refine wBF hp4 tm (s1 rfl) ?_
      refine wSkip ?_
      refine pSeq ?_
      refine wSeq ?_
      refine rg (cp (oAs (cI (by decide))) trivial <| .nil) (by kernel_rfl) ?_
      refine pSeq ?_
      refine wRet ?_
      obtain rfl := so h
      exact pR1 (.inl rfl) rfl (.tmp rfl <| .nil)
  · refine wNF hp2 tm (s1 rfl) ?_
    refine wSeq ?_
    refine rg (cp (oMv tm) (s1 rfl) <| cp (oAs tm) (s1 rfl) <| .nil) (by kernel_rfl) ?_
    refine pSeq ?_
    refine wRet ?_
    refine pThenR ?_
    obtain rfl := so h
    exact pR1 (.inl rfl) rfl (.tmp rfl <| .nil)

theorem slices_Index_uint32_uint32.ok {a0 : List Int} {a1 : Int} {r : Int} (h : slices_Index_uint32_uint32.f a0 a1 = some r) : FnA Tryd.prog 67 [(kL (kI .u32)).sig a0, (kI .u32).sig a1] ((kI .i64).sig r) := by
  refine fnIntro Tryd.func67 rfl (by kernel_rfl) fun H0 w0 => ?_
  unfold slices_Index_uint32_uint32.f at h
  refine wSeq ?_
  refine rg (cp (oAs (cI (by decide))) trivial <| .nil) (by kernel_rfl) ?_
  refine pSeq ?_
  refine wSeq ?_
  refine wSeq ?_
  refine rg (cp (oMv tm) (s1 rfl) <| cp (oLenL u23 tm) (s1 rfl) <| cp (oMv (cI (by decide))) trivial <| .nil) (by kernel_rfl) ?_
  refine pSeq ?_
  obtain ⟨o1, h, hk1⟩ := bd h
  refine wK0 (.inr () = o1) ([]) ([]) ?_ ?_
  · refine wBlock (wLoop ?_)
    refine lW (pc1 o1 (fun v7 => [(0, .d ((kL (kI .u32)).sig a0)), (1, .d ((kI .u32).sig a1)), (7, .d ((kI .i64).sig (a0.length : Int))), (8, .d ((kI .i64).sig v7))]) (fun v7 => []) (slices_Index_uint32_uint32.l0.partial_correctness a0 a1) ?_ _ h) ⟨rfl, rfl, rfl, rfl, trivial⟩ rfl
    clear h
    intro f' ih v7 h
    refine wSeq ?_
    refine rg (cp (oLt rfl tm tm) (s2 rfl rfl) <| .nil) (by kernel_rfl) ?_
    refine pSeq ?_
    refine wSeq ?_
    rcases ic h with ⟨hp8, h⟩ | ⟨hp8, h⟩
    · refine wCT hp8 tm (s1 rfl) ?_
      refine wSkip ?_
      refine pSeq ?_
      refine wSeq ?_
      refine wBlock ?_
      refine wSeq ?_
      refine rg (cp (oMv tm) (s1 rfl) <| cp (oAs tm) (s1 rfl) <| .nil) (by kernel_rfl) ?_
      refine pSeq ?_
      refine wSeq ?_
      obtain ⟨y9, hy9, h⟩ := bd h
      refine rg (cp (oMv tm) (s1 rfl) <| cp (oMv tm) (s1 rfl) <| cp (oMv tm) (s1 rfl) <| cp (oIdx u23 z65 hy9 tm tm) (s2 rfl rfl) <| cp (oLd t65 tm) (s1 rfl) <| cp (oEq rfl tm tm) (s2 rfl rfl) <| .nil) (by kernel_rfl) ?_
      refine pSeq ?_
      rcases ic h with ⟨hp10, h⟩ | ⟨hp10, h⟩
      · refine wCT hp10 tm (s1 rfl) ?_
        refine wSeq ?_
        refine rg (cp (oMv tm) (s1 rfl) <| cp (oAs tm) (s1 rfl) <| .nil) (by kernel_rfl) ?_
        refine pSeq ?_
        refine wRet ?_
        refine pBlkR ?_
        refine pThenR ?_
        refine pThenR ?_
        refine pBlkR ?_
        refine pThenR ?_
        obtain rfl := so h
        replace h := hk1
        refine pThenR ?_
        obtain rfl := so h
        exact pR1 (.inl rfl) rfl (.tmp rfl <| .nil)
      · refine wCF hp10 tm (s1 rfl) ?_
        refine wSkip ?_
        refine pBlkN ?_
        refine pSeq ?_
        refine rg (cp (oAdd tm (cI (by decide))) (s1 rfl) <| cp (oMv tm) (s1 rfl) <| .nil) (by kernel_rfl) ?_
        exact pLoop (lW (ih _ h) ⟨rfl, rfl, rfl, rfl, trivial⟩ rfl)
    · refine wCF hp8 tm (s1 rfl) ?_
      refine wExit ?_
      refine pThenX ?_
      refine pThenX ?_
      refine pBlkX ?_
      exact pJ0 (so h) trivial rfl
  · rintro rfl
    replace h := hk1
    refine pSeq ?_
    refine wSeq ?_
    refine rg (cp (oAs (cI (by decide))) trivial <| .nil) (by kernel_rfl) ?_
    refine pSeq ?_
    refine wRet ?_
    obtain rfl := so h
    exact pR1 (.inl rfl) rfl (.tmp rfl <| .nil)

theorem lattice_Bottom.ok {a0 : api_Lattice} {r : Int × Int} (h : lattice_Bottom.f a0 = some r) : FnA Tryd.prog 46 [(kR f_api_Lattice).sig a0] (tup [(kI .i64).sig r.1, (kI .i64).sig r.2]) := by
  refine fnIntro Tryd.func46 rfl (by kernel_rfl) fun H0 w0 => ?_
  unfold lattice_Bottom.f at h
  refine wSeq ?_
  refine rg (cp (oBox tm) (s1 rfl) <| cp (oAs (cI (by decide))) trivial <| cp (oAs (cI (by decide))) trivial <| .nil) (by kernel_rfl) ?_
  refine pSeq ?_
  refine wSeq ?_
  refine wSeq ?_
  obtain ⟨y1, hy1, h⟩ := bd h
  refine rg (cp (oLd t25 tm) (s1 rfl) <| cp (oCall rfl (lattice_there.ok hy1) b66 (opds_cons tm (opds_cons (cN (d := (kI .i64))) opds_nil))) (s1 rfl) <| cp (oAs tm) (s1 rfl) <| .nil) (by kernel_rfl) ?_
  refine pSeq ?_
  refine wSeq ?_
  refine rg (cp (oMv tm) (s1 rfl) <| cp (oNe rfl tm (cI (by decide))) (s1 rfl) <| .nil) (by kernel_rfl) ?_
  refine pSeq ?_
  rcases ic h with ⟨hp2, h⟩ | ⟨hp2, h⟩
  · refine wNT hp2 tm (s1 rfl) ?_
    refine wSkip ?_
    refine pSeq ?_
    refine wSeq ?_
    obtain ⟨hc3, h⟩ := ib h
    refine rg (cp (oFld (fs := f_api_Lattice) (k := 1) rfl o25_1 tm) (s1 rfl) <| cp (oLd t23 tm) (s1 rfl) <| cp (oLenL u23 tm) (s1 rfl) <| cp (oShl hc3 (cI (by decide)) tm) (s1 rfl) <| cp (oSub tm (cI (by decide))) (s1 rfl) <| cp (oAs tm) (s1 rfl) <| .nil) (by kernel_rfl) ?_
    refine pSeq ?_
    refine wSeq ?_
    obtain ⟨y4, hy4, h⟩ := bd h
    refine rg (cp (oFld (fs := f_api_Lattice) (k := 1) rfl o25_1 tm) (s1 rfl) <| cp (oLd t23 tm) (s1 rfl) <| cp (oMv tm) (s1 rfl) <| cp (oCall rfl (slices_Index_uint32_uint32.ok hy4) b67 (opds_cons tm (opds_cons tm opds_nil))) (s2 rfl rfl) <| cp (oAs tm) (s1 rfl) <| cp (oAs (cI (by decide))) trivial <| .nil) (by kernel_rfl) ?_
    refine pSeq ?_
    refine wRet ?_
    obtain rfl := so h
    exact pRn (.inl rfl) rfl rfl (.tmp rfl <| .tmp rfl <| .nil)
  · refine wNF hp2 tm (s1 rfl) ?_
    refine wSeq ?_
    refine rg (cp (oMv tm) (s1 rfl) <| cp (oAs (cI (by decide))) trivial <| cp (oAs tm) (s1 rfl) <| .nil) (by kernel_rfl) ?_
    refine pSeq ?_
    refine wRet ?_
    refine pThenR ?_
    obtain rfl := so h
    exact pRn (.inl rfl) rfl rfl (.tmp rfl <| .tmp rfl <| .nil)

theorem step_machine_nothing.ok {a0 : step_machine} {r : step_machine} (h : step_machine_nothing.f a0 = some r) : FnS Tryd.prog 68 [.p 70000 0] [.box 70000 92 [.d (kL kS) a0.l_.Names, .d (kL (kI .u32)) a0.l_.Up, .d (kI .i64) a0.s_.Pc.V, .d (kI .i64) a0.s_.Pc.L, .d (kL (kR f_api_Instr)) a0.s_.Code, .d (kL (kR f_api_Atom)) a0.s_.Mem, .d (kL (kR f_api_Slot)) a0.s_.Stack, .d (kL (kR f_api_Atom)) a0.s_.Out, .d (kI .i64) a0.x_.Op, .d (kI .i64) a0.x_.N, .d (kI .i64) a0.x_.L, .d kB a0.a_.Ret, .d (kI .i64) a0.a_.V, .d (kI .i64) a0.a_.L, .d kB a0.b_.Ret, .d (kI .i64) a0.b_.V, .d (kI .i64) a0.b_.L, .d kB a0.r_.Ret, .d (kI .i64) a0.r_.V, .d (kI .i64) a0.r_.L, .d (kI .i64) a0.below_, .d (kI .i64) a0.one_.x0_, .d (kI .i64) a0.one_.x1_, .d (kI .i64) a0.one_.x2_]] [70000] (.d (tup [])) [.box 70000 92 [.d (kL kS) r.l_.Names, .d (kL (kI .u32)) r.l_.Up, .d (kI .i64) r.s_.Pc.V, .d (kI .i64) r.s_.Pc.L, .d (kL (kR f_api_Instr)) r.s_.Code, .d (kL (kR f_api_Atom)) r.s_.Mem, .d (kL (kR f_api_Slot)) r.s_.Stack, .d (kL (kR f_api_Atom)) r.s_.Out, .d (kI .i64) r.x_.Op, .d (kI .i64) r.x_.N, .d (kI .i64) r.x_.L, .d kB r.a_.Ret, .d (kI .i64) r.a_.V, .d (kI .i64) r.a_.L, .d kB r.b_.Ret, .d (kI .i64) r.b_.V, .d (kI .i64) r.b_.L, .d kB r.r_.Ret, .d (kI .i64) r.r_.V, .d (kI .i64) r.r_.L, .d (kI .i64) r.below_, .d (kI .i64) r.one_.x0_, .d (kI .i64) r.one_.x1_, .d (kI .i64) r.one_.x2_]] := by
  refine fnIntroS Tryd.func68 rfl (by kernel_rfl) fun X H0 w0 pv => ?_
  unfold step_machine_nothing.f at h
  refine wSkip ?_
  obtain rfl := so h
  exact pSn [0] rfl rfl (.inr rfl) rfl rfl (.nil)

theorem step_machine_pushes.ok {a0 : step_machine} {r : step_machine} (h : step_machine_pushes.f a0 = some r) : FnS Tryd.prog 69 [.p 70000 0] [.box 70000 92 [.d (kL kS) a0.l_.Names, .d (kL (kI .u32)) a0.l_.Up, .d (kI .i64) a0.s_.Pc.V, .d (kI .i64) a0.s_.Pc.L, .d (kL (kR f_api_Instr)) a0.s_.Code, .d (kL (kR f_api_Atom)) a0.s_.Mem, .d (kL (kR f_api_Slot)) a0.s_.Stack, .d (kL (kR f_api_Atom)) a0.s_.Out, .d (kI .i64) a0.x_.Op, .d (kI .i64) a0.x_.N, .d (kI .i64) a0.x_.L, .d kB a0.a_.Ret, .d (kI .i64) a0.a_.V, .d (kI .i64) a0.a_.L, .d kB a0.b_.Ret, .d (kI .i64) a0.b_.V, .d (kI .i64) a0.b_.L, .d kB a0.r_.Ret, .d (kI .i64) a0.r_.V, .d (kI .i64) a0.r_.L, .d (kI .i64) a0.below_, .d (kI .i64) a0.one_.x0_, .d (kI .i64) a0.one_.x1_, .d (kI .i64) a0.one_.x2_]] [70000] (.d (tup [])) [.box 70000 92 [.d (kL kS) r.l_.Names, .d (kL (kI .u32)) r.l_.Up, .d (kI .i64) r.s_.Pc.V, .d (kI .i64) r.s_.Pc.L, .d (kL (kR f_api_Instr)) r.s_.Code, .d (kL (kR f_api_Atom)) r.s_.Mem, .d (kL (kR f_api_Slot)) r.s_.Stack, .d (kL (kR f_api_Atom)) r.s_.Out, .d (kI .i64) r.x_.Op, .d (kI .i64) r.x_.N, .d (kI .i64) r.x_.L, .d kB r.a_.Ret, .d (kI .i64) r.a_.V, .d (kI .i64) r.a_.L, .d kB r.b_.Ret, .d (kI .i64) r.b_.V, .d (kI .i64) r.b_.L, .d kB r.r_.Ret, .d (kI .i64) r.r_.V, .d (kI .i64) r.r_.L, .d (kI .i64) r.below_, .d (kI .i64) r.one_.x0_, .d (kI .i64) r.one_.x1_, .d (kI .i64) r.one_.x2_]] := by
  refine fnIntroS Tryd.func69 rfl (by kernel_rfl) fun X H0 w0 pv => ?_
  unfold step_machine_pushes.f at h
  refine rgD hm (cp (oMv tm) (s1 rfl) <| cp (oMv tm) (s1 rfl) <| cp (oNilP tm) (s1 rfl) <| cp (oFldP o92_2 tm) (s1 rfl) <| cp (oFldP o48_2 tm) (s1 rfl) <| cr (oLdK (n := 0) (k := 10) rfl rfl (by kernel_rfl) t3 tm) (s1 rfl) <| cp (oNilP tm) (s1 rfl) <| cp (oFldP o92_7 tm) (s1 rfl) <| cp (oIdxA 0 0 rfl u90 z3 rfl tm (cI (by decide))) (s1 rfl) <| cwn (oStK (n := 0) (k := 21) rfl rfl rfl (by kernel_rfl) z3 tm tm) (s2 rfl rfl) <| .nil) (by kernel_rfl) (by kernel_rfl) ?_
  obtain rfl := so h
  exact pSn [0] rfl rfl (.inr rfl) rfl rfl (.nil)

theorem step_machine_atom.ok {a0 : step_machine} {a1 : Int} {z : Pn ⊕ (step_machine × api_Slot)} (h : step_machine_atom.f a0 a1 = some z) : FnZ Tryd.prog 90 [.p 70000 0, .d ((kI .i64).sig a1)] [.box 70000 92 [.d (kL kS) a0.l_.Names, .d (kL (kI .u32)) a0.l_.Up, .d (kI .i64) a0.s_.Pc.V, .d (kI .i64) a0.s_.Pc.L, .d (kL (kR f_api_Instr)) a0.s_.Code, .d (kL (kR f_api_Atom)) a0.s_.Mem, .d (kL (kR f_api_Slot)) a0.s_.Stack, .d (kL (kR f_api_Atom)) a0.s_.Out, .d (kI .i64) a0.x_.Op, .d (kI .i64) a0.x_.N, .d (kI .i64) a0.x_.L, .d kB a0.a_.Ret, .d (kI .i64) a0.a_.V, .d (kI .i64) a0.a_.L, .d kB a0.b_.Ret, .d (kI .i64) a0.b_.V, .d (kI .i64) a0.b_.L, .d kB a0.r_.Ret, .d (kI .i64) a0.r_.V, .d (kI .i64) a0.r_.L, .d (kI .i64) a0.below_, .d (kI .i64) a0.one_.x0_, .d (kI .i64) a0.one_.x1_, .d (kI .i64) a0.one_.x2_]] [70000] 86 (fun (r : step_machine × api_Slot) => .d ((kR f_api_Slot).sig r.2)) (fun (r : step_machine × api_Slot) => [.box 70000 92 [.d (kL kS) r.1.l_.Names, .d (kL (kI .u32)) r.1.l_.Up, .d (kI .i64) r.1.s_.Pc.V, .d (kI .i64) r.1.s_.Pc.L, .d (kL (kR f_api_Instr)) r.1.s_.Code, .d (kL (kR f_api_Atom)) r.1.s_.Mem, .d (kL (kR f_api_Slot)) r.1.s_.Stack, .d (kL (kR f_api_Atom)) r.1.s_.Out, .d (kI .i64) r.1.x_.Op, .d (kI .i64) r.1.x_.N, .d (kI .i64) r.1.x_.L, .d kB r.1.a_.Ret, .d (kI .i64) r.1.a_.V, .d (kI .i64) r.1.a_.L, .d kB r.1.b_.Ret, .d (kI .i64) r.1.b_.V, .d (kI .i64) r.1.b_.L, .d kB r.1.r_.Ret, .d (kI .i64) r.1.r_.V, .d (kI .i64) r.1.r_.L, .d (kI .i64) r.1.below_, .d (kI .i64) r.1.one_.x0_, .d (kI .i64) r.1.one_.x1_, .d (kI .i64) r.1.one_.x2_]]) z := by
  refine fnIntroZ Tryd.func90 rfl (by kernel_rfl) fun X H0 w0 pv => ?_
  unfold step_machine_atom.f at h
  refine wSeq ?_
  refine rg (cw (oAlloc (id := 4) (ls := [.d kB false, .d (kI .i64) 0, .d (kI .i64) 0]) ze68 (fun g => ⟨[(.bool false)], _, rfl, zB g.H, ⟨[(.int .i64 0)], _, rfl, zI_i64 g.H, ⟨[(.int .i64 0)], _, rfl, zI_i64 g.H, rfl⟩⟩⟩)) trivial <| .nil) (by kernel_rfl) ?_
  refine pSeq ?_
  refine wSeq ?_
  refine rg (cp (oMv tm) (s1 rfl) <| cp (oNilP tm) (s1 rfl) <| cp (oFldP o92_1 tm) (s1 rfl) <| cp (oFldP o35_3 tm) (s1 rfl) <| cr (oLdK (n := 1) (k := 6) rfl rfl (by kernel_rfl) t33 tm) (s1 rfl) <| cp (oLenL u33 tm) (s1 rfl) <| cp (oSub tm (cI (by decide))) (s1 rfl) <| cp (oMv tm) (s1 rfl) <| cp (oSub tm tm) (s2 rfl rfl) <| cp (oAs tm) (s1 rfl) <| .nil) (by kernel_rfl) ?_
  refine pSeq ?_
  obtain ⟨o1, h, hk1⟩ := bd h
  refine wJ0 (.inr () = o1) ([(0, .p 70000 0), (4, .p 4 0), (5, .d ((kI .i64).sig (IntKind.i64.wrap ((IntKind.i64.wrap ((a0.s_.Stack.length : Int) - 1)) - a1))))]) ([.box 4 68 [.d kB false, .d (kI .i64) 0, .d (kI .i64) 0], .box 70000 92 [.d (kL kS) a0.l_.Names, .d (kL (kI .u32)) a0.l_.Up, .d (kI .i64) a0.s_.Pc.V, .d (kI .i64) a0.s_.Pc.L, .d (kL (kR f_api_Instr)) a0.s_.Code, .d (kL (kR f_api_Atom)) a0.s_.Mem, .d (kL (kR f_api_Slot)) a0.s_.Stack, .d (kL (kR f_api_Atom)) a0.s_.Out, .d (kI .i64) a0.x_.Op, .d (kI .i64) a0.x_.N, .d (kI .i64) a0.x_.L, .d kB a0.a_.Ret, .d (kI .i64) a0.a_.V, .d (kI .i64) a0.a_.L, .d kB a0.b_.Ret, .d (kI .i64) a0.b_.V, .d (kI .i64) a0.b_.L, .d kB a0.r_.Ret, .d (kI .i64) a0.r_.V, .d (kI .i64) a0.r_.L, .d (kI .i64) a0.below_, .d (kI .i64) a0.one_.x0_, .d (kI .i64) a0.one_.x1_, .d (kI .i64) a0.one_.x2_]]) ?_ ?_
  · rcases ic h with ⟨hp9, h⟩ | ⟨hp9, h⟩
    · obtain ⟨y10, hy10, h⟩ := bd h
      refine wT0 ?_
      refine wTk 0 14 (cp (oMv tm) (s1 rfl) <| cp (oGe rfl tm (cI (by decide))) (s1 rfl) <| cp (oMv tm) (s1 rfl) <| cgB (decide_eq_true hp9) rfl rfl (oMv tm) (s1 rfl) <| cgB (decide_eq_true hp9) rfl rfl (oNilP tm) (s1 rfl) <| cgB (decide_eq_true hp9) rfl rfl (oFldP o92_1 tm) (s1 rfl) <| cgB (decide_eq_true hp9) rfl rfl (oFldP o35_3 tm) (s1 rfl) <| crgB (decide_eq_true hp9) rfl rfl (oLdK (n := 1) (k := 6) rfl rfl (by kernel_rfl) t33 tm) (s1 rfl) <| cgB (decide_eq_true hp9) rfl rfl (oMv tm) (s1 rfl) <| cgB (decide_eq_true hp9) rfl rfl (oIdx u33 z68 hy10 tm tm) (s2 rfl rfl) <| cgB (decide_eq_true hp9) rfl rfl (oFld (fs := f_api_Slot) (k := 0) rfl o68_0 tm) (s1 rfl) <| cgB (decide_eq_true hp9) rfl rfl (oLd t4 tm) (s1 rfl) <| cgB (decide_eq_true hp9) rfl rfl (oNot tm) (s1 rfl) <| cp (oPkT (decide_eq_true hp9) tm tm) (s2 rfl rfl) <| .nil) (by kernel_rfl) rfl ?_
      obtain ⟨z11, hz11, h⟩ := bd h
      rcases z11 with p12 | y13
      · refine wTx (Γp := []) 14 rfl (oCallX (rest := [.box 4 68 [.d kB false, .d (kI .i64) 0, .d (kI .i64) 0], .box 70000 92 [.d (kL kS) a0.l_.Names, .d (kL (kI .u32)) a0.l_.Up, .d (kI .i64) a0.s_.Pc.V, .d (kI .i64) a0.s_.Pc.L, .d (kL (kR f_api_Instr)) a0.s_.Code, .d (kL (kR f_api_Atom)) a0.s_.Mem, .d (kL (kR f_api_Slot)) a0.s_.Stack, .d (kL (kR f_api_Atom)) a0.s_.Out, .d (kI .i64) a0.x_.Op, .d (kI .i64) a0.x_.N, .d (kI .i64) a0.x_.L, .d kB a0.a_.Ret, .d (kI .i64) a0.a_.V, .d (kI .i64) a0.a_.L, .d kB a0.b_.Ret, .d (kI .i64) a0.b_.V, .d (kI .i64) a0.b_.L, .d kB a0.r_.Ret, .d (kI .i64) a0.r_.V, .d (kI .i64) a0.r_.L, .d (kI .i64) a0.below_, .d (kI .i64) a0.one_.x0_, .d (kI .i64) a0.one_.x1_, .d (kI .i64) a0.one_.x2_]]) [] [] [0, 1] rfl (step_need.okP hz11) b45 (oE1 tm oE0) rfl rfl) rfl rfl (s1 rfl) trivial ?_
        refine pThenP ?_
        obtain rfl := so h
        replace h := hk1
        obtain rfl := so h
        exact pX
      · refine wTe 14 (cm (oCallS (rest := [.box 4 68 [.d kB false, .d (kI .i64) 0, .d (kI .i64) 0], .box 70000 92 [.d (kL kS) a0.l_.Names, .d (kL (kI .u32)) a0.l_.Up, .d (kI .i64) a0.s_.Pc.V, .d (kI .i64) a0.s_.Pc.L, .d (kL (kR f_api_Instr)) a0.s_.Code, .d (kL (kR f_api_Atom)) a0.s_.Mem, .d (kL (kR f_api_Slot)) a0.s_.Stack, .d (kL (kR f_api_Atom)) a0.s_.Out, .d (kI .i64) a0.x_.Op, .d (kI .i64) a0.x_.N, .d (kI .i64) a0.x_.L, .d kB a0.a_.Ret, .d (kI .i64) a0.a_.V, .d (kI .i64) a0.a_.L, .d kB a0.b_.Ret, .d (kI .i64) a0.b_.V, .d (kI .i64) a0.b_.L, .d kB a0.r_.Ret, .d (kI .i64) a0.r_.V, .d (kI .i64) a0.r_.L, .d (kI .i64) a0.below_, .d (kI .i64) a0.one_.x0_, .d (kI .i64) a0.one_.x1_, .d (kI .i64) a0.one_.x2_]]) (R' := [.box 4 68 [.d kB false, .d (kI .i64) 0, .d (kI .i64) 0], .box 70000 92 [.d (kL kS) a0.l_.Names, .d (kL (kI .u32)) a0.l_.Up, .d (kI .i64) a0.s_.Pc.V, .d (kI .i64) a0.s_.Pc.L, .d (kL (kR f_api_Instr)) a0.s_.Code, .d (kL (kR f_api_Atom)) a0.s_.Mem, .d (kL (kR f_api_Slot)) a0.s_.Stack, .d (kL (kR f_api_Atom)) a0.s_.Out, .d (kI .i64) a0.x_.Op, .d (kI .i64) a0.x_.N, .d (kI .i64) a0.x_.L, .d kB a0.a_.Ret, .d (kI .i64) a0.a_.V, .d (kI .i64) a0.a_.L, .d kB a0.b_.Ret, .d (kI .i64) a0.b_.V, .d (kI .i64) a0.b_.L, .d kB a0.r_.Ret, .d (kI .i64) a0.r_.V, .d (kI .i64) a0.r_.L, .d (kI .i64) a0.below_, .d (kI .i64) a0.one_.x0_, .d (kI .i64) a0.one_.x1_, .d (kI .i64) a0.one_.x2_]]) (out' := .d (tup [])) [] [] [] [0, 1] [0, 1] rfl (step_need.okR hz11) b45 (oE1 tm oE0) rfl rfl rfl rfl rfl rfl rfl rfl) (s1 rfl) <| .nil) (by kernel_rfl) ?_
        exact pJ0 (so h) ⟨rfl, rfl, rfl, trivial⟩ rfl
    · refine wT0 ?_
      refine wTk 0 14 (cp (oMv tm) (s1 rfl) <| cp (oGe rfl tm (cI (by decide))) (s1 rfl) <| cp (oMv tm) (s1 rfl) <| csB (decide_eq_false hp9) rfl rfl <| csB (decide_eq_false hp9) rfl rfl <| csB (decide_eq_false hp9) rfl rfl <| csB (decide_eq_false hp9) rfl rfl <| csB (decide_eq_false hp9) rfl rfl <| csB (decide_eq_false hp9) rfl rfl <| csB (decide_eq_false hp9) rfl rfl <| csB (decide_eq_false hp9) rfl rfl <| csB (decide_eq_false hp9) rfl rfl <| csB (decide_eq_false hp9) rfl rfl <| cp (oPkF (decide_eq_false hp9) tm cB) (s1 rfl) <| .nil) (by kernel_rfl) rfl ?_
      obtain ⟨z14, hz14, h⟩ := bd h
      rcases z14 with p15 | y16
      · refine wTx (Γp := []) 14 rfl (oCallX (rest := [.box 4 68 [.d kB false, .d (kI .i64) 0, .d (kI .i64) 0], .box 70000 92 [.d (kL kS) a0.l_.Names, .d (kL (kI .u32)) a0.l_.Up, .d (kI .i64) a0.s_.Pc.V, .d (kI .i64) a0.s_.Pc.L, .d (kL (kR f_api_Instr)) a0.s_.Code, .d (kL (kR f_api_Atom)) a0.s_.Mem, .d (kL (kR f_api_Slot)) a0.s_.Stack, .d (kL (kR f_api_Atom)) a0.s_.Out, .d (kI .i64) a0.x_.Op, .d (kI .i64) a0.x_.N, .d (kI .i64) a0.x_.L, .d kB a0.a_.Ret, .d (kI .i64) a0.a_.V, .d (kI .i64) a0.a_.L, .d kB a0.b_.Ret, .d (kI .i64) a0.b_.V, .d (kI .i64) a0.b_.L, .d kB a0.r_.Ret, .d (kI .i64) a0.r_.V, .d (kI .i64) a0.r_.L, .d (kI .i64) a0.below_, .d (kI .i64) a0.one_.x0_, .d (kI .i64) a0.one_.x1_, .d (kI .i64) a0.one_.x2_]]) [] [] [0, 1] rfl (step_need.okP hz14) b45 (oE1 tm oE0) rfl rfl) rfl rfl (s1 rfl) trivial ?_
        refine pThenP ?_
        obtain rfl := so h
        replace h := hk1
        obtain rfl := so h
        exact pX
      · refine wTe 14 (cm (oCallS (rest := [.box 4 68 [.d kB false, .d (kI .i64) 0, .d (kI .i64) 0], .box 70000 92 [.d (kL kS) a0.l_.Names, .d (kL (kI .u32)) a0.l_.Up, .d (kI .i64) a0.s_.Pc.V, .d (kI .i64) a0.s_.Pc.L, .d (kL (kR f_api_Instr)) a0.s_.Code, .d (kL (kR f_api_Atom)) a0.s_.Mem, .d (kL (kR f_api_Slot)) a0.s_.Stack, .d (kL (kR f_api_Atom)) a0.s_.Out, .d (kI .i64) a0.x_.Op, .d (kI .i64) a0.x_.N, .d (kI .i64) a0.x_.L, .d kB a0.a_.Ret, .d (kI .i64) a0.a_.V, .d (kI .i64) a0.a_.L, .d kB a0.b_.Ret, .d (kI .i64) a0.b_.V, .d (kI .i64) a0.b_.L, .d kB a0.r_.Ret, .d (kI .i64) a0.r_.V, .d (kI .i64) a0.r_.L, .d (kI .i64) a0.below_, .d (kI .i64) a0.one_.x0_, .d (kI .i64) a0.one_.x1_, .d (kI .i64) a0.one_.x2_]]) (R' := [.box 4 68 [.d kB false, .d (kI .i64) 0, .d (kI .i64) 0], .box 70000 92 [.d (kL kS) a0.l_.Names, .d (kL (kI .u32)) a0.l_.Up, .d (kI .i64) a0.s_.Pc.V, .d (kI .i64) a0.s_.Pc.L, .d (kL (kR f_api_Instr)) a0.s_.Code, .d (kL (kR f_api_Atom)) a0.s_.Mem, .d (kL (kR f_api_Slot)) a0.s_.Stack, .d (kL (kR f_api_Atom)) a0.s_.Out, .d (kI .i64) a0.x_.Op, .d (kI .i64) a0.x_.N, .d (kI .i64) a0.x_.L, .d kB a0.a_.Ret, .d (kI .i64) a0.a_.V, .d (kI .i64) a0.a_.L, .d kB a0.b_.Ret, .d (kI .i64) a0.b_.V, .d (kI .i64) a0.b_.L, .d kB a0.r_.Ret, .d (kI .i64) a0.r_.V, .d (kI .i64) a0.r_.L, .d (kI .i64) a0.below_, .d (kI .i64) a0.one_.x0_, .d (kI .i64) a0.one_.x1_, .d (kI .i64) a0.one_.x2_]]) (out' := .d (tup [])) [] [] [] [0, 1] [0, 1] rfl (step_need.okR hz14) b45 (oE1 tm oE0) rfl rfl rfl rfl rfl rfl rfl rfl) (s1 rfl) <| .nil) (by kernel_rfl) ?_
        exact pJ0 (so h) ⟨rfl, rfl, rfl, trivial⟩ rfl
  · rintro rfl
    replace h := hk1
    refine wSeq ?_
    obtain ⟨y17, hy17, h⟩ := bd h
    refine rg (cp (oMv tm) (s1 rfl) <| cp (oNilP tm) (s1 rfl) <| cp (oFldP o92_1 tm) (s1 rfl) <| cp (oFldP o35_3 tm) (s1 rfl) <| cr (oLdK (n := 1) (k := 6) rfl rfl (by kernel_rfl) t33 tm) (s1 rfl) <| cp (oMv tm) (s1 rfl) <| cp (oIdx u33 z68 hy17 tm tm) (s2 rfl rfl) <| cp (oLd t68 tm) (s1 rfl) <| cwn (oStA (n := 0) (fs := f_api_Slot) rfl rfl z68 tm tm) (s2 rfl rfl) <| .nil) (by kernel_rfl) ?_
    refine pSeq ?_
    refine wRet ?_
    obtain rfl := so h
    refine pZ ?_
    exact pS1 [1] rfl rfl (.inl rfl) rfl (.box (n := 0) (fs := f_api_Slot) (u := ⟨y17.Ret, y17.V, y17.L⟩) rfl rfl ⟨rfl, rfl, rfl, trivial⟩ t68 <| .nil)
theorem step_machine_atom.okR {a0 : step_machine} {a1 : Int} {r : step_machine × api_Slot} (h : step_machine_atom.f a0 a1 = some (.inr r)) : FnS Tryd.prog 90 [.p 70000 0, .d ((kI .i64).sig a1)] [.box 70000 92 [.d (kL kS) a0.l_.Names, .d (kL (kI .u32)) a0.l_.Up, .d (kI .i64) a0.s_.Pc.V, .d (kI .i64) a0.s_.Pc.L, .d (kL (kR f_api_Instr)) a0.s_.Code, .d (kL (kR f_api_Atom)) a0.s_.Mem, .d (kL (kR f_api_Slot)) a0.s_.Stack, .d (kL (kR f_api_Atom)) a0.s_.Out, .d (kI .i64) a0.x_.Op, .d (kI .i64) a0.x_.N, .d (kI .i64) a0.x_.L, .d kB a0.a_.Ret, .d (kI .i64) a0.a_.V, .d (kI .i64) a0.a_.L, .d kB a0.b_.Ret, .d (kI .i64) a0.b_.V, .d (kI .i64) a0.b_.L, .d kB a0.r_.Ret, .d (kI .i64) a0.r_.V, .d (kI .i64) a0.r_.L, .d (kI .i64) a0.below_, .d (kI .i64) a0.one_.x0_, .d (kI .i64) a0.one_.x1_, .d (kI .i64) a0.one_.x2_]] [70000] (.d ((kR f_api_Slot).sig r.2)) [.box 70000 92 [.d (kL kS) r.1.l_.Names, .d (kL (kI .u32)) r.1.l_.Up, .d (kI .i64) r.1.s_.Pc.V, .d (kI .i64) r.1.s_.Pc.L, .d (kL (kR f_api_Instr)) r.1.s_.Code, .d (kL (kR f_api_Atom)) r.1.s_.Mem, .d (kL (kR f_api_Slot)) r.1.s_.Stack, .d (kL (kR f_api_Atom)) r.1.s_.Out, .d (kI .i64) r.1.x_.Op, .d (kI .i64) r.1.x_.N, .d (kI .i64) r.1.x_.L, .d kB r.1.a_.Ret, .d (kI .i64) r.1.a_.V, .d (kI .i64) r.1.a_.L, .d kB r.1.b_.Ret, .d (kI .i64) r.1.b_.V, .d (kI .i64) r.1.b_.L, .d kB r.1.r_.Ret, .d (kI .i64) r.1.r_.V, .d (kI .i64) r.1.r_.L, .d (kI .i64) r.1.below_, .d (kI .i64) r.1.one_.x0_, .d (kI .i64) r.1.one_.x1_, .d (kI .i64) r.1.one_.x2_]] := step_machine_atom.ok h
theorem step_machine_atom.okP {a0 : step_machine} {a1 : Int} {n : Pn} (h : step_machine_atom.f a0 a1 = some (.inl n)) : FnX Tryd.prog 90 [.p 70000 0, .d ((kI .i64).sig a1)] [.box 70000 92 [.d (kL kS) a0.l_.Names, .d (kL (kI .u32)) a0.l_.Up, .d (kI .i64) a0.s_.Pc.V, .d (kI .i64) a0.s_.Pc.L, .d (kL (kR f_api_Instr)) a0.s_.Code, .d (kL (kR f_api_Atom)) a0.s_.Mem, .d (kL (kR f_api_Slot)) a0.s_.Stack, .d (kL (kR f_api_Atom)) a0.s_.Out, .d (kI .i64) a0.x_.Op, .d (kI .i64) a0.x_.N, .d (kI .i64) a0.x_.L, .d kB a0.a_.Ret, .d (kI .i64) a0.a_.V, .d (kI .i64) a0.a_.L, .d kB a0.b_.Ret, .d (kI .i64) a0.b_.V, .d (kI .i64) a0.b_.L, .d kB a0.r_.Ret, .d (kI .i64) a0.r_.V, .d (kI .i64) a0.r_.L, .d (kI .i64) a0.below_, .d (kI .i64) a0.one_.x0_, .d (kI .i64) a0.one_.x1_, .d (kI .i64) a0.one_.x2_]] (pvv 86 n) := step_machine_atom.ok h

theorem step_machine_first.ok {a0 : step_machine} {z : Pn ⊕ step_machine} (h : step_machine_first.f a0 = some z) : FnZ Tryd.prog 70 [.p 70000 0] [.box 70000 92 [.d (kL kS) a0.l_.Names, .d (kL (kI .u32)) a0.l_.Up, .d (kI .i64) a0.s_.Pc.V, .d (kI .i64) a0.s_.Pc.L, .d (kL (kR f_api_Instr)) a0.s_.Code, .d (kL (kR f_api_Atom)) a0.s_.Mem, .d (kL (kR f_api_Slot)) a0.s_.Stack, .d (kL (kR f_api_Atom)) a0.s_.Out, .d (kI .i64) a0.x_.Op, .d (kI .i64) a0.x_.N, .d (kI .i64) a0.x_.L, .d kB a0.a_.Ret, .d (kI .i64) a0.a_.V, .d (kI .i64) a0.a_.L, .d kB a0.b_.Ret, .d (kI .i64) a0.b_.V, .d (kI .i64) a0.b_.L, .d kB a0.r_.Ret, .d (kI .i64) a0.r_.V, .d (kI .i64) a0.r_.L, .d (kI .i64) a0.below_, .d (kI .i64) a0.one_.x0_, .d (kI .i64) a0.one_.x1_, .d (kI .i64) a0.one_.x2_]] [70000] 86 (fun (r : step_machine) => .d (tup [])) (fun (r : step_machine) => [.box 70000 92 [.d (kL kS) r.l_.Names, .d (kL (kI .u32)) r.l_.Up, .d (kI .i64) r.s_.Pc.V, .d (kI .i64) r.s_.Pc.L, .d (kL (kR f_api_Instr)) r.s_.Code, .d (kL (kR f_api_Atom)) r.s_.Mem, .d (kL (kR f_api_Slot)) r.s_.Stack, .d (kL (kR f_api_Atom)) r.s_.Out, .d (kI .i64) r.x_.Op, .d (kI .i64) r.x_.N, .d (kI .i64) r.x_.L, .d kB r.a_.Ret, .d (kI .i64) r.a_.V, .d (kI .i64) r.a_.L, .d kB r.b_.Ret, .d (kI .i64) r.b_.V, .d (kI .i64) r.b_.L, .d kB r.r_.Ret, .d (kI .i64) r.r_.V, .d (kI .i64) r.r_.L, .d (kI .i64) r.below_, .d (kI .i64) r.one_.x0_, .d (kI .i64) r.one_.x1_, .d (kI .i64) r.one_.x2_]]) z := by
  refine fnIntroZ Tryd.func70 rfl (by kernel_rfl) fun X H0 w0 pv => ?_
  unfold step_machine_first.f at h
  refine wSeq ?_
  refine wT0 ?_
  refine wTk 0 2 (cp (oMv tm) (s1 rfl) <| cp (oMv tm) (s1 rfl) <| .nil) (by kernel_rfl) rfl ?_
  obtain ⟨z1, hz1, h⟩ := bd h
  rcases z1 with p2 | y3
  · refine wTx (Γp := []) 2 rfl (oCallX (rest := []) [(70000, 70000)] [0] [] rfl (step_machine_atom.okP hz1) b90 (oE1 tm (oE1 (cI (by decide)) oE0)) rfl rfl) rfl rfl (s1 rfl) trivial ?_
    refine pThenP ?_
    obtain rfl := so h
    exact pX
  · refine wTe 2 (cm (oCallS (rest := []) (R' := [.box 70000 92 [.d (kL kS) y3.1.l_.Names, .d (kL (kI .u32)) y3.1.l_.Up, .d (kI .i64) y3.1.s_.Pc.V, .d (kI .i64) y3.1.s_.Pc.L, .d (kL (kR f_api_Instr)) y3.1.s_.Code, .d (kL (kR f_api_Atom)) y3.1.s_.Mem, .d (kL (kR f_api_Slot)) y3.1.s_.Stack, .d (kL (kR f_api_Atom)) y3.1.s_.Out, .d (kI .i64) y3.1.x_.Op, .d (kI .i64) y3.1.x_.N, .d (kI .i64) y3.1.x_.L, .d kB y3.1.a_.Ret, .d (kI .i64) y3.1.a_.V, .d (kI .i64) y3.1.a_.L, .d kB y3.1.b_.Ret, .d (kI .i64) y3.1.b_.V, .d (kI .i64) y3.1.b_.L, .d kB y3.1.r_.Ret, .d (kI .i64) y3.1.r_.V, .d (kI .i64) y3.1.r_.L, .d (kI .i64) y3.1.below_, .d (kI .i64) y3.1.one_.x0_, .d (kI .i64) y3.1.one_.x1_, .d (kI .i64) y3.1.one_.x2_]]) (out' := .d ((kR f_api_Slot).sig y3.2)) [(70000, 70000)] [] [0] [] [0] rfl (step_machine_atom.okR hz1) b90 (oE1 tm (oE1 (cI (by decide)) oE0)) rfl rfl rfl rfl rfl rfl rfl rfl) (s1 rfl) <| cp (oNilP tm) (s1 rfl) <| cp (oFldP o92_3 tm) (s1 rfl) <| cwn (oStPK (n := 0) (k := 11) (m := 3) (d := (kR f_api_Slot)) (u := y3.2) (lfS (lfC lf1 (lfC lf1 (lfC lf1 lfN)))) rfl rfl (by kernel_rfl) z68 tm tm) (s2 rfl rfl) <| .nil) (by kernel_rfl) ?_
    refine pSeq ?_
    refine wSeq ?_
    refine rg (cp (oMv tm) (s1 rfl) <| cp (oMv tm) (s1 rfl) <| cp (oNilP tm) (s1 rfl) <| cp (oFldP o92_1 tm) (s1 rfl) <| cp (oFldP o35_3 tm) (s1 rfl) <| cr (oLdK (n := 0) (k := 6) rfl rfl (by kernel_rfl) t33 tm) (s1 rfl) <| cp (oLenL u33 tm) (s1 rfl) <| cp (oSub tm (cI (by decide))) (s1 rfl) <| cp (oNilP tm) (s1 rfl) <| cp (oFldP o92_6 tm) (s1 rfl) <| cwn (oStK (n := 0) (k := 20) rfl rfl rfl (by kernel_rfl) z3 tm tm) (s2 rfl rfl) <| .nil) (by kernel_rfl) ?_
    refine pSeq ?_
    refine rgD hm (cp (oMv tm) (s1 rfl) <| cp (oMv tm) (s1 rfl) <| cp (oNilP tm) (s1 rfl) <| cp (oFldP o92_3 tm) (s1 rfl) <| cp (oFldP o68_2 tm) (s1 rfl) <| cr (oLdK (n := 0) (k := 13) rfl rfl (by kernel_rfl) t3 tm) (s1 rfl) <| cp (oNilP tm) (s1 rfl) <| cp (oFldP o92_7 tm) (s1 rfl) <| cp (oIdxA 0 0 rfl u90 z3 rfl tm (cI (by decide))) (s1 rfl) <| cwn (oStK (n := 0) (k := 21) rfl rfl rfl (by kernel_rfl) z3 tm tm) (s2 rfl rfl) <| .nil) (by kernel_rfl) (by kernel_rfl) ?_
    obtain rfl := so h
    refine pZ ?_
    exact pSn [0] rfl rfl (.inr rfl) rfl rfl (.nil)
theorem step_machine_first.okR {a0 : step_machine} {r : step_machine} (h : step_machine_first.f a0 = some (.inr r)) : FnS Tryd.prog 70 [.p 70000 0] [.box 70000 92 [.d (kL kS) a0.l_.Names, .d (kL (kI .u32)) a0.l_.Up, .d (kI .i64) a0.s_.Pc.V, .d (kI .i64) a0.s_.Pc.L, .d (kL (kR f_api_Instr)) a0.s_.Code, .d (kL (kR f_api_Atom)) a0.s_.Mem, .d (kL (kR f_api_Slot)) a0.s_.Stack, .d (kL (kR f_api_Atom)) a0.s_.Out, .d (kI .i64) a0.x_.Op, .d (kI .i64) a0.x_.N, .d (kI .i64) a0.x_.L, .d kB a0.a_.Ret, .d (kI .i64) a0.a_.V, .d (kI .i64) a0.a_.L, .d kB a0.b_.Ret, .d (kI .i64) a0.b_.V, .d (kI .i64) a0.b_.L, .d kB a0.r_.Ret, .d (kI .i64) a0.r_.V, .d (kI .i64) a0.r_.L, .d (kI .i64) a0.below_, .d (kI .i64) a0.one_.x0_, .d (kI .i64) a0.one_.x1_, .d (kI .i64) a0.one_.x2_]] [70000] (.d (tup [])) [.box 70000 92 [.d (kL kS) r.l_.Names, .d (kL (kI .u32)) r.l_.Up, .d (kI .i64) r.s_.Pc.V, .d (kI .i64) r.s_.Pc.L, .d (kL (kR f_api_Instr)) r.s_.Code, .d (kL (kR f_api_Atom)) r.s_.Mem, .d (kL (kR f_api_Slot)) r.s_.Stack, .d (kL (kR f_api_Atom)) r.s_.Out, .d (kI .i64) r.x_.Op, .d (kI .i64) r.x_.N, .d (kI .i64) r.x_.L, .d kB r.a_.Ret, .d (kI .i64) r.a_.V, .d (kI .i64) r.a_.L, .d kB r.b_.Ret, .d (kI .i64) r.b_.V, .d (kI .i64) r.b_.L, .d kB r.r_.Ret, .d (kI .i64) r.r_.V, .d (kI .i64) r.r_.L, .d (kI .i64) r.below_, .d (kI .i64) r.one_.x0_, .d (kI .i64) r.one_.x1_, .d (kI .i64) r.one_.x2_]] := step_machine_first.ok h
theorem step_machine_first.okP {a0 : step_machine} {n : Pn} (h : step_machine_first.f a0 = some (.inl n)) : FnX Tryd.prog 70 [.p 70000 0] [.box 70000 92 [.d (kL kS) a0.l_.Names, .d (kL (kI .u32)) a0.l_.Up, .d (kI .i64) a0.s_.Pc.V, .d (kI .i64) a0.s_.Pc.L, .d (kL (kR f_api_Instr)) a0.s_.Code, .d (kL (kR f_api_Atom)) a0.s_.Mem, .d (kL (kR f_api_Slot)) a0.s_.Stack, .d (kL (kR f_api_Atom)) a0.s_.Out, .d (kI .i64) a0.x_.Op, .d (kI .i64) a0.x_.N, .d (kI .i64) a0.x_.L, .d kB a0.a_.Ret, .d (kI .i64) a0.a_.V, .d (kI .i64) a0.a_.L, .d kB a0.b_.Ret, .d (kI .i64) a0.b_.V, .d (kI .i64) a0.b_.L, .d kB a0.r_.Ret, .d (kI .i64) a0.r_.V, .d (kI .i64) a0.r_.L, .d (kI .i64) a0.below_, .d (kI .i64) a0.one_.x0_, .d (kI .i64) a0.one_.x1_, .d (kI .i64) a0.one_.x2_]] (pvv 86 n) := step_machine_first.ok h

theorem step_machine_both.ok {a0 : step_machine} {z : Pn ⊕ step_machine} (h : step_machine_both.f a0 = some z) : FnZ Tryd.prog 71 [.p 70000 0] [.box 70000 92 [.d (kL kS) a0.l_.Names, .d (kL (kI .u32)) a0.l_.Up, .d (kI .i64) a0.s_.Pc.V, .d (kI .i64) a0.s_.Pc.L, .d (kL (kR f_api_Instr)) a0.s_.Code, .d (kL (kR f_api_Atom)) a0.s_.Mem, .d (kL (kR f_api_Slot)) a0.s_.Stack, .d (kL (kR f_api_Atom)) a0.s_.Out, .d (kI .i64) a0.x_.Op, .d (kI .i64) a0.x_.N, .d (kI .i64) a0.x_.L, .d kB a0.a_.Ret, .d (kI .i64) a0.a_.V, .d (kI .i64) a0.a_.L, .d kB a0.b_.Ret, .d (kI .i64) a0.b_.V, .d (kI .i64) a0.b_.L, .d kB a0.r_.Ret, .d (kI .i64) a0.r_.V, .d (kI .i64) a0.r_.L, .d (kI .i64) a0.below_, .d (kI .i64) a0.one_.x0_, .d (kI .i64) a0.one_.x1_, .d (kI .i64) a0.one_.x2_]] [70000] 86 (fun (r : step_machine) => .d (tup [])) (fun (r : step_machine) => [.box 70000 92 [.d (kL kS) r.l_.Names, .d (kL (kI .u32)) r.l_.Up, .d (kI .i64) r.s_.Pc.V, .d (kI .i64) r.s_.Pc.L, .d (kL (kR f_api_Instr)) r.s_.Code, .d (kL (kR f_api_Atom)) r.s_.Mem, .d (kL (kR f_api_Slot)) r.s_.Stack, .d (kL (kR f_api_Atom)) r.s_.Out, .d (kI .i64) r.x_.Op, .d (kI .i64) r.x_.N, .d (kI .i64) r.x_.L, .d kB r.a_.Ret, .d (kI .i64) r.a_.V, .d (kI .i64) r.a_.L, .d kB r.b_.Ret, .d (kI .i64) r.b_.V, .d (kI .i64) r.b_.L, .d kB r.r_.Ret, .d (kI .i64) r.r_.V, .d (kI .i64) r.r_.L, .d (kI .i64) r.below_, .d (kI .i64) r.one_.x0_, .d (kI .i64) r.one_.x1_, .d (kI .i64) r.one_.x2_]]) z := by
  refine fnIntroZ Tryd.func71 rfl (by kernel_rfl) fun X H0 w0 pv => ?_
  unfold step_machine_both.f at h
  refine wSeq ?_
  refine wT0 ?_
  refine wTk 0 1 (cp (oMv tm) (s1 rfl) <| .nil) (by kernel_rfl) rfl ?_
  obtain ⟨z1, hz1, h⟩ := bd h
  rcases z1 with p2 | y3
  · refine wTx (Γp := []) 1 rfl (oCallX (rest := []) [(70000, 70000)] [0] [] rfl (step_machine_first.okP hz1) b70 (oE1 tm oE0) rfl rfl) rfl rfl (s1 rfl) trivial ?_
    refine pThenP ?_
    obtain rfl := so h
    exact pX
  · refine wTe 1 (cm (oCallS (rest := []) (R' := [.box 70000 92 [.d (kL kS) y3.l_.Names, .d (kL (kI .u32)) y3.l_.Up, .d (kI .i64) y3.s_.Pc.V, .d (kI .i64) y3.s_.Pc.L, .d (kL (kR f_api_Instr)) y3.s_.Code, .d (kL (kR f_api_Atom)) y3.s_.Mem, .d (kL (kR f_api_Slot)) y3.s_.Stack, .d (kL (kR f_api_Atom)) y3.s_.Out, .d (kI .i64) y3.x_.Op, .d (kI .i64) y3.x_.N, .d (kI .i64) y3.x_.L, .d kB y3.a_.Ret, .d (kI .i64) y3.a_.V, .d (kI .i64) y3.a_.L, .d kB y3.b_.Ret, .d (kI .i64) y3.b_.V, .d (kI .i64) y3.b_.L, .d kB y3.r_.Ret, .d (kI .i64) y3.r_.V, .d (kI .i64) y3.r_.L, .d (kI .i64) y3.below_, .d (kI .i64) y3.one_.x0_, .d (kI .i64) y3.one_.x1_, .d (kI .i64) y3.one_.x2_]]) (out' := .d (tup [])) [(70000, 70000)] [] [0] [] [0] rfl (step_machine_first.okR hz1) b70 (oE1 tm oE0) rfl rfl rfl rfl rfl rfl rfl rfl) (s1 rfl) <| .nil) (by kernel_rfl) ?_
    refine pSeq ?_
    refine wSeq ?_
    refine wT0 ?_
    refine wTk 0 2 (cp (oMv tm) (s1 rfl) <| cp (oMv tm) (s1 rfl) <| .nil) (by kernel_rfl) rfl ?_
    obtain ⟨z4, hz4, h⟩ := bd h
    rcases z4 with p5 | y6
    · refine wTx (Γp := []) 2 rfl (oCallX (rest := []) [(70000, 70000)] [0] [] rfl (step_machine_atom.okP hz4) b90 (oE1 tm (oE1 (cI (by decide)) oE0)) rfl rfl) rfl rfl (s1 rfl) trivial ?_
      refine pThenP ?_
      obtain rfl := so h
      exact pX
    · refine wTe 2 (cm (oCallS (rest := []) (R' := [.box 70000 92 [.d (kL kS) y6.1.l_.Names, .d (kL (kI .u32)) y6.1.l_.Up, .d (kI .i64) y6.1.s_.Pc.V, .d (kI .i64) y6.1.s_.Pc.L, .d (kL (kR f_api_Instr)) y6.1.s_.Code, .d (kL (kR f_api_Atom)) y6.1.s_.Mem, .d (kL (kR f_api_Slot)) y6.1.s_.Stack, .d (kL (kR f_api_Atom)) y6.1.s_.Out, .d (kI .i64) y6.1.x_.Op, .d (kI .i64) y6.1.x_.N, .d (kI .i64) y6.1.x_.L, .d kB y6.1.a_.Ret, .d (kI .i64) y6.1.a_.V, .d (kI .i64) y6.1.a_.L, .d kB y6.1.b_.Ret, .d (kI .i64) y6.1.b_.V, .d (kI .i64) y6.1.b_.L, .d kB y6.1.r_.Ret, .d (kI .i64) y6.1.r_.V, .d (kI .i64) y6.1.r_.L, .d (kI .i64) y6.1.below_, .d (kI .i64) y6.1.one_.x0_, .d (kI .i64) y6.1.one_.x1_, .d (kI .i64) y6.1.one_.x2_]]) (out' := .d ((kR f_api_Slot).sig y6.2)) [(70000, 70000)] [] [0] [] [0] rfl (step_machine_atom.okR hz4) b90 (oE1 tm (oE1 (cI (by decide)) oE0)) rfl rfl rfl rfl rfl rfl rfl rfl) (s1 rfl) <| cp (oNilP tm) (s1 rfl) <| cp (oFldP o92_4 tm) (s1 rfl) <| cwn (oStPK (n := 0) (k := 14) (m := 3) (d := (kR f_api_Slot)) (u := y6.2) (lfS (lfC lf1 (lfC lf1 (lfC lf1 lfN)))) rfl rfl (by kernel_rfl) z68 tm tm) (s2 rfl rfl) <| .nil) (by kernel_rfl) ?_
      refine pSeq ?_
      refine wSeq ?_
      refine rg (cp (oMv tm) (s1 rfl) <| cp (oNilP tm) (s1 rfl) <| cp (oFldP o92_6 tm) (s1 rfl) <| cr (oLdK (n := 0) (k := 20) rfl rfl (by kernel_rfl) t3 tm) (s1 rfl) <| cp (oSub tm (cI (by decide))) (s1 rfl) <| cp (oNilP tm) (s1 rfl) <| cp (oFldP o92_6 tm) (s1 rfl) <| cwn (oStK (n := 0) (k := 20) rfl rfl rfl (by kernel_rfl) z3 tm tm) (s2 rfl rfl) <| .nil) (by kernel_rfl) ?_
      refine pSeq ?_
      refine rgD hm (cp (oMv tm) (s1 rfl) <| cp (oMv tm) (s1 rfl) <| cp (oNilP tm) (s1 rfl) <| cp (oFldP o92_4 tm) (s1 rfl) <| cp (oFldP o68_2 tm) (s1 rfl) <| cr (oLdK (n := 0) (k := 16) rfl rfl (by kernel_rfl) t3 tm) (s1 rfl) <| cp (oNilP tm) (s1 rfl) <| cp (oFldP o92_7 tm) (s1 rfl) <| cp (oIdxA 1 1 rfl u90 z3 rfl tm (cI (by decide))) (s1 rfl) <| cwn (oStK (n := 0) (k := 22) rfl rfl rfl (by kernel_rfl) z3 tm tm) (s2 rfl rfl) <| .nil) (by kernel_rfl) (by kernel_rfl) ?_
      obtain rfl := so h
      refine pZ ?_
      exact pSn [0] rfl rfl (.inr rfl) rfl rfl (.nil)
theorem step_machine_both.okR {a0 : step_machine} {r : step_machine} (h : step_machine_both.f a0 = some (.inr r)) : FnS Tryd.prog 71 [.p 70000 0] [.box 70000 92 [.d (kL kS) a0.l_.Names, .d (kL (kI .u32)) a0.l_.Up, .d (kI .i64) a0.s_.Pc.V, .d (kI .i64) a0.s_.Pc.L, .d (kL (kR f_api_Instr)) a0.s_.Code, .d (kL (kR f_api_Atom)) a0.s_.Mem, .d (kL (kR f_api_Slot)) a0.s_.Stack, .d (kL (kR f_api_Atom)) a0.s_.Out, .d (kI .i64) a0.x_.Op, .d (kI .i64) a0.x_.N, .d (kI .i64) a0.x_.L, .d kB a0.a_.Ret, .d (kI .i64) a0.a_.V, .d (kI .i64) a0.a_.L, .d kB a0.b_.Ret, .d (kI .i64) a0.b_.V, .d (kI .i64) a0.b_.L, .d kB a0.r_.Ret, .d (kI .i64) a0.r_.V, .d (kI .i64) a0.r_.L, .d (kI .i64) a0.below_, .d (kI .i64) a0.one_.x0_, .d (kI .i64) a0.one_.x1_, .d (kI .i64) a0.one_.x2_]] [70000] (.d (tup [])) [.box 70000 92 [.d (kL kS) r.l_.Names, .d (kL (kI .u32)) r.l_.Up, .d (kI .i64) r.s_.Pc.V, .d (kI .i64) r.s_.Pc.L, .d (kL (kR f_api_Instr)) r.s_.Code, .d (kL (kR f_api_Atom)) r.s_.Mem, .d (kL (kR f_api_Slot)) r.s_.Stack, .d (kL (kR f_api_Atom)) r.s_.Out, .d (kI .i64) r.x_.Op, .d (kI .i64) r.x_.N, .d (kI .i64) r.x_.L, .d kB r.a_.Ret, .d (kI .i64) r.a_.V, .d (kI .i64) r.a_.L, .d kB r.b_.Ret, .d (kI .i64) r.b_.V, .d (kI .i64) r.b_.L, .d kB r.r_.Ret, .d (kI .i64) r.r_.V, .d (kI .i64) r.r_.L, .d (kI .i64) r.below_, .d (kI .i64) r.one_.x0_, .d (kI .i64) r.one_.x1_, .d (kI .i64) r.one_.x2_]] := step_machine_both.ok h
theorem step_machine_both.okP {a0 : step_machine} {n : Pn} (h : step_machine_both.f a0 = some (.inl n)) : FnX Tryd.prog 71 [.p 70000 0] [.box 70000 92 [.d (kL kS) a0.l_.Names, .d (kL (kI .u32)) a0.l_.Up, .d (kI .i64) a0.s_.Pc.V, .d (kI .i64) a0.s_.Pc.L, .d (kL (kR f_api_Instr)) a0.s_.Code, .d (kL (kR f_api_Atom)) a0.s_.Mem, .d (kL (kR f_api_Slot)) a0.s_.Stack, .d (kL (kR f_api_Atom)) a0.s_.Out, .d (kI .i64) a0.x_.Op, .d (kI .i64) a0.x_.N, .d (kI .i64) a0.x_.L, .d kB a0.a_.Ret, .d (kI .i64) a0.a_.V, .d (kI .i64) a0.a_.L, .d kB a0.b_.Ret, .d (kI .i64) a0.b_.V, .d (kI .i64) a0.b_.L, .d kB a0.r_.Ret, .d (kI .i64) a0.r_.V, .d (kI .i64) a0.r_.L, .d (kI .i64) a0.below_, .d (kI .i64) a0.one_.x0_, .d (kI .i64) a0.one_.x1_, .d (kI .i64) a0.one_.x2_]] (pvv 86 n) := step_machine_both.ok h

theorem step_machine_cell.ok {a0 : step_machine} {z : Pn ⊕ (step_machine × Int)} (h : step_machine_cell.f a0 = some z) : FnZ Tryd.prog 91 [.p 70000 0] [.box 70000 92 [.d (kL kS) a0.l_.Names, .d (kL (kI .u32)) a0.l_.Up, .d (kI .i64) a0.s_.Pc.V, .d (kI .i64) a0.s_.Pc.L, .d (kL (kR f_api_Instr)) a0.s_.Code, .d (kL (kR f_api_Atom)) a0.s_.Mem, .d (kL (kR f_api_Slot)) a0.s_.Stack, .d (kL (kR f_api_Atom)) a0.s_.Out, .d (kI .i64) a0.x_.Op, .d (kI .i64) a0.x_.N, .d (kI .i64) a0.x_.L, .d kB a0.a_.Ret, .d (kI .i64) a0.a_.V, .d (kI .i64) a0.a_.L, .d kB a0.b_.Ret, .d (kI .i64) a0.b_.V, .d (kI .i64) a0.b_.L, .d kB a0.r_.Ret, .d (kI .i64) a0.r_.V, .d (kI .i64) a0.r_.L, .d (kI .i64) a0.below_, .d (kI .i64) a0.one_.x0_, .d (kI .i64) a0.one_.x1_, .d (kI .i64) a0.one_.x2_]] [70000] 86 (fun (r : step_machine × Int) => .d ((kI .i64).sig r.2)) (fun (r : step_machine × Int) => [.box 70000 92 [.d (kL kS) r.1.l_.Names, .d (kL (kI .u32)) r.1.l_.Up, .d (kI .i64) r.1.s_.Pc.V, .d (kI .i64) r.1.s_.Pc.L, .d (kL (kR f_api_Instr)) r.1.s_.Code, .d (kL (kR f_api_Atom)) r.1.s_.Mem, .d (kL (kR f_api_Slot)) r.1.s_.Stack, .d (kL (kR f_api_Atom)) r.1.s_.Out, .d (kI .i64) r.1.x_.Op, .d (kI .i64) r.1.x_.N, .d (kI .i64) r.1.x_.L, .d kB r.1.a_.Ret, .d (kI .i64) r.1.a_.V, .d (kI .i64) r.1.a_.L, .d kB r.1.b_.Ret, .d (kI .i64) r.1.b_.V, .d (kI .i64) r.1.b_.L, .d kB r.1.r_.Ret, .d (kI .i64) r.1.r_.V, .d (kI .i64) r.1.r_.L, .d (kI .i64) r.1.below_, .d (kI .i64) r.1.one_.x0_, .d (kI .i64) r.1.one_.x1_, .d (kI .i64) r.1.one_.x2_]]) z := by
  refine fnIntroZ Tryd.func91 rfl (by kernel_rfl) fun X H0 w0 pv => ?_
  unfold step_machine_cell.f at h
  refine wSeq ?_
  refine rg (cp (oAs (cI (by decide))) trivial <| .nil) (by kernel_rfl) ?_
  refine pSeq ?_
  obtain ⟨o1, h, hk1⟩ := bd h
  refine wJ0 (.inr () = o1) ([(0, .p 70000 0)]) ([.box 70000 92 [.d (kL kS) a0.l_.Names, .d (kL (kI .u32)) a0.l_.Up, .d (kI .i64) a0.s_.Pc.V, .d (kI .i64) a0.s_.Pc.L, .d (kL (kR f_api_Instr)) a0.s_.Code, .d (kL (kR f_api_Atom)) a0.s_.Mem, .d (kL (kR f_api_Slot)) a0.s_.Stack, .d (kL (kR f_api_Atom)) a0.s_.Out, .d (kI .i64) a0.x_.Op, .d (kI .i64) a0.x_.N, .d (kI .i64) a0.x_.L, .d kB a0.a_.Ret, .d (kI .i64) a0.a_.V, .d (kI .i64) a0.a_.L, .d kB a0.b_.Ret, .d (kI .i64) a0.b_.V, .d (kI .i64) a0.b_.L, .d kB a0.r_.Ret, .d (kI .i64) a0.r_.V, .d (kI .i64) a0.r_.L, .d (kI .i64) a0.below_, .d (kI .i64) a0.one_.x0_, .d (kI .i64) a0.one_.x1_, .d (kI .i64) a0.one_.x2_]]) ?_ ?_
  · rcases ic h with ⟨hp8, h⟩ | ⟨hp8, h⟩
    · obtain ⟨z9, hz9, h⟩ := bd h
      rcases z9 with p10 | y11
      · refine rgXD (Γp := []) hm (cp (oMv tm) (s1 rfl) <| cp (oNilP tm) (s1 rfl) <| cp (oFldP o92_3 tm) (s1 rfl) <| cp (oFldP o68_1 tm) (s1 rfl) <| cr (oLdK (n := 0) (k := 12) rfl rfl (by kernel_rfl) t3 tm) (s1 rfl) <| cp (oGe rfl tm (cI (by decide))) (s1 rfl) <| cp (oMv tm) (s1 rfl) <| cgB (decide_eq_true hp8) rfl rfl (oMv tm) (s1 rfl) <| cgB (decide_eq_true hp8) rfl rfl (oNilP tm) (s1 rfl) <| cgB (decide_eq_true hp8) rfl rfl (oFldP o92_3 tm) (s1 rfl) <| cgB (decide_eq_true hp8) rfl rfl (oFldP o68_1 tm) (s1 rfl) <| crgB (decide_eq_true hp8) rfl rfl (oLdK (n := 0) (k := 12) rfl rfl (by kernel_rfl) t3 tm) (s1 rfl) <| cgB (decide_eq_true hp8) rfl rfl (oMv tm) (s1 rfl) <| cgB (decide_eq_true hp8) rfl rfl (oNilP tm) (s1 rfl) <| cgB (decide_eq_true hp8) rfl rfl (oFldP o92_1 tm) (s1 rfl) <| cgB (decide_eq_true hp8) rfl rfl (oFldP o35_2 tm) (s1 rfl) <| crgB (decide_eq_true hp8) rfl rfl (oLdK (n := 0) (k := 5) rfl rfl (by kernel_rfl) t32 tm) (s1 rfl) <| cgB (decide_eq_true hp8) rfl rfl (oLenL u32 tm) (s1 rfl) <| cgB (decide_eq_true hp8) rfl rfl (oLt rfl tm tm) (s2 rfl rfl) <| cp (oPkT (decide_eq_true hp8) tm tm) (s2 rfl rfl) <| cb (oCallX (rest := [.box 70000 92 [.d (kL kS) a0.l_.Names, .d (kL (kI .u32)) a0.l_.Up, .d (kI .i64) a0.s_.Pc.V, .d (kI .i64) a0.s_.Pc.L, .d (kL (kR f_api_Instr)) a0.s_.Code, .d (kL (kR f_api_Atom)) a0.s_.Mem, .d (kL (kR f_api_Slot)) a0.s_.Stack, .d (kL (kR f_api_Atom)) a0.s_.Out, .d (kI .i64) a0.x_.Op, .d (kI .i64) a0.x_.N, .d (kI .i64) a0.x_.L, .d kB a0.a_.Ret, .d (kI .i64) a0.a_.V, .d (kI .i64) a0.a_.L, .d kB a0.b_.Ret, .d (kI .i64) a0.b_.V, .d (kI .i64) a0.b_.L, .d kB a0.r_.Ret, .d (kI .i64) a0.r_.V, .d (kI .i64) a0.r_.L, .d (kI .i64) a0.below_, .d (kI .i64) a0.one_.x0_, .d (kI .i64) a0.one_.x1_, .d (kI .i64) a0.one_.x2_]]) [] [] [0] rfl (step_need.okP hz9) b45 (oE1 tm oE0) rfl rfl) (s1 rfl) <| .nil) (by kernel_rfl) (by kernel_rfl) trivial ?_
        refine pThenP ?_
        obtain rfl := so h
        replace h := hk1
        obtain rfl := so h
        exact pX
      · refine rgD hm (cp (oMv tm) (s1 rfl) <| cp (oNilP tm) (s1 rfl) <| cp (oFldP o92_3 tm) (s1 rfl) <| cp (oFldP o68_1 tm) (s1 rfl) <| cr (oLdK (n := 0) (k := 12) rfl rfl (by kernel_rfl) t3 tm) (s1 rfl) <| cp (oGe rfl tm (cI (by decide))) (s1 rfl) <| cp (oMv tm) (s1 rfl) <| cgB (decide_eq_true hp8) rfl rfl (oMv tm) (s1 rfl) <| cgB (decide_eq_true hp8) rfl rfl (oNilP tm) (s1 rfl) <| cgB (decide_eq_true hp8) rfl rfl (oFldP o92_3 tm) (s1 rfl) <| cgB (decide_eq_true hp8) rfl rfl (oFldP o68_1 tm) (s1 rfl) <| crgB (decide_eq_true hp8) rfl rfl (oLdK (n := 0) (k := 12) rfl rfl (by kernel_rfl) t3 tm) (s1 rfl) <| cgB (decide_eq_true hp8) rfl rfl (oMv tm) (s1 rfl) <| cgB (decide_eq_true hp8) rfl rfl (oNilP tm) (s1 rfl) <| cgB (decide_eq_true hp8) rfl rfl (oFldP o92_1 tm) (s1 rfl) <| cgB (decide_eq_true hp8) rfl rfl (oFldP o35_2 tm) (s1 rfl) <| crgB (decide_eq_true hp8) rfl rfl (oLdK (n := 0) (k := 5) rfl rfl (by kernel_rfl) t32 tm) (s1 rfl) <| cgB (decide_eq_true hp8) rfl rfl (oLenL u32 tm) (s1 rfl) <| cgB (decide_eq_true hp8) rfl rfl (oLt rfl tm tm) (s2 rfl rfl) <| cp (oPkT (decide_eq_true hp8) tm tm) (s2 rfl rfl) <| cm (oCallS (rest := [.box 70000 92 [.d (kL kS) a0.l_.Names, .d (kL (kI .u32)) a0.l_.Up, .d (kI .i64) a0.s_.Pc.V, .d (kI .i64) a0.s_.Pc.L, .d (kL (kR f_api_Instr)) a0.s_.Code, .d (kL (kR f_api_Atom)) a0.s_.Mem, .d (kL (kR f_api_Slot)) a0.s_.Stack, .d (kL (kR f_api_Atom)) a0.s_.Out, .d (kI .i64) a0.x_.Op, .d (kI .i64) a0.x_.N, .d (kI .i64) a0.x_.L, .d kB a0.a_.Ret, .d (kI .i64) a0.a_.V, .d (kI .i64) a0.a_.L, .d kB a0.b_.Ret, .d (kI .i64) a0.b_.V, .d (kI .i64) a0.b_.L, .d kB a0.r_.Ret, .d (kI .i64) a0.r_.V, .d (kI .i64) a0.r_.L, .d (kI .i64) a0.below_, .d (kI .i64) a0.one_.x0_, .d (kI .i64) a0.one_.x1_, .d (kI .i64) a0.one_.x2_]]) (R' := [.box 70000 92 [.d (kL kS) a0.l_.Names, .d (kL (kI .u32)) a0.l_.Up, .d (kI .i64) a0.s_.Pc.V, .d (kI .i64) a0.s_.Pc.L, .d (kL (kR f_api_Instr)) a0.s_.Code, .d (kL (kR f_api_Atom)) a0.s_.Mem, .d (kL (kR f_api_Slot)) a0.s_.Stack, .d (kL (kR f_api_Atom)) a0.s_.Out, .d (kI .i64) a0.x_.Op, .d (kI .i64) a0.x_.N, .d (kI .i64) a0.x_.L, .d kB a0.a_.Ret, .d (kI .i64) a0.a_.V, .d (kI .i64) a0.a_.L, .d kB a0.b_.Ret, .d (kI .i64) a0.b_.V, .d (kI .i64) a0.b_.L, .d kB a0.r_.Ret, .d (kI .i64) a0.r_.V, .d (kI .i64) a0.r_.L, .d (kI .i64) a0.below_, .d (kI .i64) a0.one_.x0_, .d (kI .i64) a0.one_.x1_, .d (kI .i64) a0.one_.x2_]]) (out' := .d (tup [])) [] [] [] [0] [0] rfl (step_need.okR hz9) b45 (oE1 tm oE0) rfl rfl rfl rfl rfl rfl rfl rfl) (s1 rfl) <| .nil) (by kernel_rfl) (by kernel_rfl) ?_
        exact pJ0 (so h) ⟨rfl, trivial⟩ rfl
    · obtain ⟨z12, hz12, h⟩ := bd h
      rcases z12 with p13 | y14
      · refine rgXD (Γp := []) hm (cp (oMv tm) (s1 rfl) <| cp (oNilP tm) (s1 rfl) <| cp (oFldP o92_3 tm) (s1 rfl) <| cp (oFldP o68_1 tm) (s1 rfl) <| cr (oLdK (n := 0) (k := 12) rfl rfl (by kernel_rfl) t3 tm) (s1 rfl) <| cp (oGe rfl tm (cI (by decide))) (s1 rfl) <| cp (oMv tm) (s1 rfl) <| csB (decide_eq_false hp8) rfl rfl <| csB (decide_eq_false hp8) rfl rfl <| csB (decide_eq_false hp8) rfl rfl <| csB (decide_eq_false hp8) rfl rfl <| csB (decide_eq_false hp8) rfl rfl <| csB (decide_eq_false hp8) rfl rfl <| csB (decide_eq_false hp8) rfl rfl <| csB (decide_eq_false hp8) rfl rfl <| csB (decide_eq_false hp8) rfl rfl <| csB (decide_eq_false hp8) rfl rfl <| csB (decide_eq_false hp8) rfl rfl <| csB (decide_eq_false hp8) rfl rfl <| cp (oPkF (decide_eq_false hp8) tm cB) (s1 rfl) <| cb (oCallX (rest := [.box 70000 92 [.d (kL kS) a0.l_.Names, .d (kL (kI .u32)) a0.l_.Up, .d (kI .i64) a0.s_.Pc.V, .d (kI .i64) a0.s_.Pc.L, .d (kL (kR f_api_Instr)) a0.s_.Code, .d (kL (kR f_api_Atom)) a0.s_.Mem, .d (kL (kR f_api_Slot)) a0.s_.Stack, .d (kL (kR f_api_Atom)) a0.s_.Out, .d (kI .i64) a0.x_.Op, .d (kI .i64) a0.x_.N, .d (kI .i64) a0.x_.L, .d kB a0.a_.Ret, .d (kI .i64) a0.a_.V, .d (kI .i64) a0.a_.L, .d kB a0.b_.Ret, .d (kI .i64) a0.b_.V, .d (kI .i64) a0.b_.L, .d kB a0.r_.Ret, .d (kI .i64) a0.r_.V, .d (kI .i64) a0.r_.L, .d (kI .i64) a0.below_, .d (kI .i64) a0.one_.x0_, .d (kI .i64) a0.one_.x1_, .d (kI .i64) a0.one_.x2_]]) [] [] [0] rfl (step_need.okP hz12) b45 (oE1 tm oE0) rfl rfl) (s1 rfl) <| .nil) (by kernel_rfl) (by kernel_rfl) trivial ?_
        refine pThenP ?_
        obtain rfl := so h
        replace h := hk1
        obtain rfl := so h
        exact pX
      · refine rgD hm (cp (oMv tm) (s1 rfl) <| cp (oNilP tm) (s1 rfl) <| cp (oFldP o92_3 tm) (s1 rfl) <| cp (oFldP o68_1 tm) (s1 rfl) <| cr (oLdK (n := 0) (k := 12) rfl rfl (by kernel_rfl) t3 tm) (s1 rfl) <| cp (oGe rfl tm (cI (by decide))) (s1 rfl) <| cp (oMv tm) (s1 rfl) <| csB (decide_eq_false hp8) rfl rfl <| csB (decide_eq_false hp8) rfl rfl <| csB (decide_eq_false hp8) rfl rfl <| csB (decide_eq_false hp8) rfl rfl <| csB (decide_eq_false hp8) rfl rfl <| csB (decide_eq_false hp8) rfl rfl <| csB (decide_eq_false hp8) rfl rfl <| csB (decide_eq_false hp8) rfl rfl <| csB (decide_eq_false hp8) rfl rfl <| csB (decide_eq_false hp8) rfl rfl <| csB (decide_eq_false hp8) rfl rfl <| csB (decide_eq_false hp8) rfl rfl <| cp (oPkF (decide_eq_false hp8) tm cB) (s1 rfl) <| cm (oCallS (rest := [.box 70000 92 [.d (kL kS) a0.l_.Names, .d (kL (kI .u32)) a0.l_.Up, .d (kI .i64) a0.s_.Pc.V, .d (kI .i64) a0.s_.Pc.L, .d (kL (kR f_api_Instr)) a0.s_.Code, .d (kL (kR f_api_Atom)) a0.s_.Mem, .d (kL (kR f_api_Slot)) a0.s_.Stack, .d (kL (kR f_api_Atom)) a0.s_.Out, .d (kI .i64) a0.x_.Op, .d (kI .i64) a0.x_.N, .d (kI .i64) a0.x_.L, .d kB a0.a_.Ret, .d (kI .i64) a0.a_.V, .d (kI .i64) a0.a_.L, .d kB a0.b_.Ret, .d (kI .i64) a0.b_.V, .d (kI .i64) a0.b_.L, .d kB a0.r_.Ret, .d (kI .i64) a0.r_.V, .d (kI .i64) a0.r_.L, .d (kI .i64) a0.below_, .d (kI .i64) a0.one_.x0_, .d (kI .i64) a0.one_.x1_, .d (kI .i64) a0.one_.x2_]]) (R' := [.box 70000 92 [.d (kL kS) a0.l_.Names, .d (kL (kI .u32)) a0.l_.Up, .d (kI .i64) a0.s_.Pc.V, .d (kI .i64) a0.s_.Pc.L, .d (kL (kR f_api_Instr)) a0.s_.Code, .d (kL (kR f_api_Atom)) a0.s_.Mem, .d (kL (kR f_api_Slot)) a0.s_.Stack, .d (kL (kR f_api_Atom)) a0.s_.Out, .d (kI .i64) a0.x_.Op, .d (kI .i64) a0.x_.N, .d (kI .i64) a0.x_.L, .d kB a0.a_.Ret, .d (kI .i64) a0.a_.V, .d (kI .i64) a0.a_.L, .d kB a0.b_.Ret, .d (kI .i64) a0.b_.V, .d (kI .i64) a0.b_.L, .d kB a0.r_.Ret, .d (kI .i64) a0.r_.V, .d (kI .i64) a0.r_.L, .d (kI .i64) a0.below_, .d (kI .i64) a0.one_.x0_, .d (kI .i64) a0.one_.x1_, .d (kI .i64) a0.one_.x2_]]) (out' := .d (tup [])) [] [] [] [0] [0] rfl (step_need.okR hz12) b45 (oE1 tm oE0) rfl rfl rfl rfl rfl rfl rfl rfl) (s1 rfl) <| .nil) (by kernel_rfl) (by kernel_rfl) ?_
        exact pJ0 (so h) ⟨rfl, trivial⟩ rfl
  · rintro rfl
    replace h := hk1
    refine wSeq ?_
    refine rg (cp (oMv tm) (s1 rfl) <| cp (oNilP tm) (s1 rfl) <| cp (oFldP o92_3 tm) (s1 rfl) <| cp (oFldP o68_1 tm) (s1 rfl) <| cr (oLdK (n := 0) (k := 12) rfl rfl (by kernel_rfl) t3 tm) (s1 rfl) <| cp (oAs tm) (s1 rfl) <| .nil) (by kernel_rfl) ?_
    refine pSeq ?_
    refine wRet ?_
    obtain rfl := so h
    refine pZ ?_
    exact pS1 [0] rfl rfl (.inl rfl) rfl (.tmp rfl <| .nil)
theorem step_machine_cell.okR {a0 : step_machine} {r : step_machine × Int} (h : step_machine_cell.f a0 = some (.inr r)) : FnS Tryd.prog 91 [.p 70000 0] [.box 70000 92 [.d (kL kS) a0.l_.Names, .d (kL (kI .u32)) a0.l_.Up, .d (kI .i64) a0.s_.Pc.V, .d (kI .i64) a0.s_.Pc.L, .d (kL (kR f_api_Instr)) a0.s_.Code, .d (kL (kR f_api_Atom)) a0.s_.Mem, .d (kL (kR f_api_Slot)) a0.s_.Stack, .d (kL (kR f_api_Atom)) a0.s_.Out, .d (kI .i64) a0.x_.Op, .d (kI .i64) a0.x_.N, .d (kI .i64) a0.x_.L, .d kB a0.a_.Ret, .d (kI .i64) a0.a_.V, .d (kI .i64) a0.a_.L, .d kB a0.b_.Ret, .d (kI .i64) a0.b_.V, .d (kI .i64) a0.b_.L, .d kB a0.r_.Ret, .d (kI .i64) a0.r_.V, .d (kI .i64) a0.r_.L, .d (kI .i64) a0.below_, .d (kI .i64) a0.one_.x0_, .d (kI .i64) a0.one_.x1_, .d (kI .i64) a0.one_.x2_]] [70000] (.d ((kI .i64).sig r.2)) [.box 70000 92 [.d (kL kS) r.1.l_.Names, .d (kL (kI .u32)) r.1.l_.Up, .d (kI .i64) r.1.s_.Pc.V, .d (kI .i64) r.1.s_.Pc.L, .d (kL (kR f_api_Instr)) r.1.s_.Code, .d (kL (kR f_api_Atom)) r.1.s_.Mem, .d (kL (kR f_api_Slot)) r.1.s_.Stack, .d (kL (kR f_api_Atom)) r.1.s_.Out, .d (kI .i64) r.1.x_.Op, .d (kI .i64) r.1.x_.N, .d (kI .i64) r.1.x_.L, .d kB r.1.a_.Ret, .d (kI .i64) r.1.a_.V, .d (kI .i64) r.1.a_.L, .d kB r.1.b_.Ret, .d (kI .i64) r.1.b_.V, .d (kI .i64) r.1.b_.L, .d kB r.1.r_.Ret, .d (kI .i64) r.1.r_.V, .d (kI .i64) r.1.r_.L, .d (kI .i64) r.1.below_, .d (kI .i64) r.1.one_.x0_, .d (kI .i64) r.1.one_.x1_, .d (kI .i64) r.1.one_.x2_]] := step_machine_cell.ok h
theorem step_machine_cell.okP {a0 : step_machine} {n : Pn} (h : step_machine_cell.f a0 = some (.inl n)) : FnX Tryd.prog 91 [.p 70000 0] [.box 70000 92 [.d (kL kS) a0.l_.Names, .d (kL (kI .u32)) a0.l_.Up, .d (kI .i64) a0.s_.Pc.V, .d (kI .i64) a0.s_.Pc.L, .d (kL (kR f_api_Instr)) a0.s_.Code, .d (kL (kR f_api_Atom)) a0.s_.Mem, .d (kL (kR f_api_Slot)) a0.s_.Stack, .d (kL (kR f_api_Atom)) a0.s_.Out, .d (kI .i64) a0.x_.Op, .d (kI .i64) a0.x_.N, .d (kI .i64) a0.x_.L, .d kB a0.a_.Ret, .d (kI .i64) a0.a_.V, .d (kI .i64) a0.a_.L, .d kB a0.b_.Ret, .d (kI .i64) a0.b_.V, .d (kI .i64) a0.b_.L, .d kB a0.r_.Ret, .d (kI .i64) a0.r_.V, .d (kI .i64) a0.r_.L, .d (kI .i64) a0.below_, .d (kI .i64) a0.one_.x0_, .d (kI .i64) a0.one_.x1_, .d (kI .i64) a0.one_.x2_]] (pvv 86 n) := step_machine_cell.ok h

theorem step_machine_loads.ok {a0 : step_machine} {z : Pn ⊕ step_machine} (h : step_machine_loads.f a0 = some z) : FnZ Tryd.prog 72 [.p 70000 0] [.box 70000 92 [.d (kL kS) a0.l_.Names, .d (kL (kI .u32)) a0.l_.Up, .d (kI .i64) a0.s_.Pc.V, .d (kI .i64) a0.s_.Pc.L, .d (kL (kR f_api_Instr)) a0.s_.Code, .d (kL (kR f_api_Atom)) a0.s_.Mem, .d (kL (kR f_api_Slot)) a0.s_.Stack, .d (kL (kR f_api_Atom)) a0.s_.Out, .d (kI .i64) a0.x_.Op, .d (kI .i64) a0.x_.N, .d (kI .i64) a0.x_.L, .d kB a0.a_.Ret, .d (kI .i64) a0.a_.V, .d (kI .i64) a0.a_.L, .d kB a0.b_.Ret, .d (kI .i64) a0.b_.V, .d (kI .i64) a0.b_.L, .d kB a0.r_.Ret, .d (kI .i64) a0.r_.V, .d (kI .i64) a0.r_.L, .d (kI .i64) a0.below_, .d (kI .i64) a0.one_.x0_, .d (kI .i64) a0.one_.x1_, .d (kI .i64) a0.one_.x2_]] [70000] 86 (fun (r : step_machine) => .d (tup [])) (fun (r : step_machine) => [.box 70000 92 [.d (kL kS) r.l_.Names, .d (kL (kI .u32)) r.l_.Up, .d (kI .i64) r.s_.Pc.V, .d (kI .i64) r.s_.Pc.L, .d (kL (kR f_api_Instr)) r.s_.Code, .d (kL (kR f_api_Atom)) r.s_.Mem, .d (kL (kR f_api_Slot)) r.s_.Stack, .d (kL (kR f_api_Atom)) r.s_.Out, .d (kI .i64) r.x_.Op, .d (kI .i64) r.x_.N, .d (kI .i64) r.x_.L, .d kB r.a_.Ret, .d (kI .i64) r.a_.V, .d (kI .i64) r.a_.L, .d kB r.b_.Ret, .d (kI .i64) r.b_.V, .d (kI .i64) r.b_.L, .d kB r.r_.Ret, .d (kI .i64) r.r_.V, .d (kI .i64) r.r_.L, .d (kI .i64) r.below_, .d (kI .i64) r.one_.x0_, .d (kI .i64) r.one_.x1_, .d (kI .i64) r.one_.x2_]]) z := by
  refine fnIntroZ Tryd.func72 rfl (by kernel_rfl) fun X H0 w0 pv => ?_
  unfold step_machine_loads.f at h
  refine wSeq ?_
  refine wT0 ?_
  refine wTk 0 1 (cp (oMv tm) (s1 rfl) <| .nil) (by kernel_rfl) rfl ?_
  obtain ⟨z1, hz1, h⟩ := bd h
  rcases z1 with p2 | y3
  · refine wTx (Γp := []) 1 rfl (oCallX (rest := []) [(70000, 70000)] [0] [] rfl (step_machine_first.okP hz1) b70 (oE1 tm oE0) rfl rfl) rfl rfl (s1 rfl) trivial ?_
    refine pThenP ?_
    obtain rfl := so h
    exact pX
  · refine wTe 1 (cm (oCallS (rest := []) (R' := [.box 70000 92 [.d (kL kS) y3.l_.Names, .d (kL (kI .u32)) y3.l_.Up, .d (kI .i64) y3.s_.Pc.V, .d (kI .i64) y3.s_.Pc.L, .d (kL (kR f_api_Instr)) y3.s_.Code, .d (kL (kR f_api_Atom)) y3.s_.Mem, .d (kL (kR f_api_Slot)) y3.s_.Stack, .d (kL (kR f_api_Atom)) y3.s_.Out, .d (kI .i64) y3.x_.Op, .d (kI .i64) y3.x_.N, .d (kI .i64) y3.x_.L, .d kB y3.a_.Ret, .d (kI .i64) y3.a_.V, .d (kI .i64) y3.a_.L, .d kB y3.b_.Ret, .d (kI .i64) y3.b_.V, .d (kI .i64) y3.b_.L, .d kB y3.r_.Ret, .d (kI .i64) y3.r_.V, .d (kI .i64) y3.r_.L, .d (kI .i64) y3.below_, .d (kI .i64) y3.one_.x0_, .d (kI .i64) y3.one_.x1_, .d (kI .i64) y3.one_.x2_]]) (out' := .d (tup [])) [(70000, 70000)] [] [0] [] [0] rfl (step_machine_first.okR hz1) b70 (oE1 tm oE0) rfl rfl rfl rfl rfl rfl rfl rfl) (s1 rfl) <| .nil) (by kernel_rfl) ?_
    refine pSeq ?_
    refine wSeq ?_
    refine wT0 ?_
    refine wTk 0 1 (cp (oMv tm) (s1 rfl) <| .nil) (by kernel_rfl) rfl ?_
    obtain ⟨z4, hz4, h⟩ := bd h
    rcases z4 with p5 | y6
    · refine wTx (Γp := []) 1 rfl (oCallX (rest := []) [(70000, 70000)] [0] [] rfl (step_machine_cell.okP hz4) b91 (oE1 tm oE0) rfl rfl) rfl rfl (s1 rfl) trivial ?_
      refine pThenP ?_
      obtain rfl := so h
      exact pX
    · refine wTe 1 (cm (oCallS (rest := []) (R' := [.box 70000 92 [.d (kL kS) y6.1.l_.Names, .d (kL (kI .u32)) y6.1.l_.Up, .d (kI .i64) y6.1.s_.Pc.V, .d (kI .i64) y6.1.s_.Pc.L, .d (kL (kR f_api_Instr)) y6.1.s_.Code, .d (kL (kR f_api_Atom)) y6.1.s_.Mem, .d (kL (kR f_api_Slot)) y6.1.s_.Stack, .d (kL (kR f_api_Atom)) y6.1.s_.Out, .d (kI .i64) y6.1.x_.Op, .d (kI .i64) y6.1.x_.N, .d (kI .i64) y6.1.x_.L, .d kB y6.1.a_.Ret, .d (kI .i64) y6.1.a_.V, .d (kI .i64) y6.1.a_.L, .d kB y6.1.b_.Ret, .d (kI .i64) y6.1.b_.V, .d (kI .i64) y6.1.b_.L, .d kB y6.1.r_.Ret, .d (kI .i64) y6.1.r_.V, .d (kI .i64) y6.1.r_.L, .d (kI .i64) y6.1.below_, .d (kI .i64) y6.1.one_.x0_, .d (kI .i64) y6.1.one_.x1_, .d (kI .i64) y6.1.one_.x2_]]) (out' := .d ((kI .i64).sig y6.2)) [(70000, 70000)] [] [0] [] [0] rfl (step_machine_cell.okR hz4) b91 (oE1 tm oE0) rfl rfl rfl rfl rfl rfl rfl rfl) (s1 rfl) <| cp (oAs tm) (s1 rfl) <| .nil) (by kernel_rfl) ?_
      refine pSeq ?_
      obtain ⟨y7, hy7, h⟩ := bd h
      refine rgD hm (cp (oMv tm) (s1 rfl) <| cp (oMv tm) (s1 rfl) <| cp (oNilP tm) (s1 rfl) <| cp (oFldP o92_1 tm) (s1 rfl) <| cp (oFldP o35_2 tm) (s1 rfl) <| cr (oLdK (n := 0) (k := 5) rfl rfl (by kernel_rfl) t32 tm) (s1 rfl) <| cp (oMv tm) (s1 rfl) <| cp (oIdx u32 z30 hy7 tm tm) (s2 rfl rfl) <| cp (oFld (fs := f_api_Atom) (k := 1) rfl o30_1 tm) (s1 rfl) <| cp (oLd t3 tm) (s1 rfl) <| cp (oNilP tm) (s1 rfl) <| cp (oFldP o92_7 tm) (s1 rfl) <| cp (oIdxA 1 1 rfl u90 z3 rfl tm (cI (by decide))) (s1 rfl) <| cwn (oStK (n := 0) (k := 22) rfl rfl rfl (by kernel_rfl) z3 tm tm) (s2 rfl rfl) <| .nil) (by kernel_rfl) (by kernel_rfl) ?_
      obtain rfl := so h
      refine pZ ?_
      exact pSn [0] rfl rfl (.inr rfl) rfl rfl (.nil)
theorem step_machine_loads.okR {a0 : step_machine} {r : step_machine} (h : step_machine_loads.f a0 = some (.inr r)) : FnS Tryd.prog 72 [.p 70000 0] [.box 70000 92 [.d (kL kS) a0.l_.Names, .d (kL (kI .u32)) a0.l_.Up, .d (kI .i64) a0.s_.Pc.V, .d (kI .i64) a0.s_.Pc.L, .d (kL (kR f_api_Instr)) a0.s_.Code, .d (kL (kR f_api_Atom)) a0.s_.Mem, .d (kL (kR f_api_Slot)) a0.s_.Stack, .d (kL (kR f_api_Atom)) a0.s_.Out, .d (kI .i64) a0.x_.Op, .d (kI .i64) a0.x_.N, .d (kI .i64) a0.x_.L, .d kB a0.a_.Ret, .d (kI .i64) a0.a_.V, .d (kI .i64) a0.a_.L, .d kB a0.b_.Ret, .d (kI .i64) a0.b_.V, .d (kI .i64) a0.b_.L, .d kB a0.r_.Ret, .d (kI .i64) a0.r_.V, .d (kI .i64) a0.r_.L, .d (kI .i64) a0.below_, .d (kI .i64) a0.one_.x0_, .d (kI .i64) a0.one_.x1_, .d (kI .i64) a0.one_.x2_]] [70000] (.d (tup [])) [.box 70000 92 [.d (kL kS) r.l_.Names, .d (kL (kI .u32)) r.l_.Up, .d (kI .i64) r.s_.Pc.V, .d (kI .i64) r.s_.Pc.L, .d (kL (kR f_api_Instr)) r.s_.Code, .d (kL (kR f_api_Atom)) r.s_.Mem, .d (kL (kR f_api_Slot)) r.s_.Stack, .d (kL (kR f_api_Atom)) r.s_.Out, .d (kI .i64) r.x_.Op, .d (kI .i64) r.x_.N, .d (kI .i64) r.x_.L, .d kB r.a_.Ret, .d (kI .i64) r.a_.V, .d (kI .i64) r.a_.L, .d kB r.b_.Ret, .d (kI .i64) r.b_.V, .d (kI .i64) r.b_.L, .d kB r.r_.Ret, .d (kI .i64) r.r_.V, .d (kI .i64) r.r_.L, .d (kI .i64) r.below_, .d (kI .i64) r.one_.x0_, .d (kI .i64) r.one_.x1_, .d (kI .i64) r.one_.x2_]] := step_machine_loads.ok h
theorem step_machine_loads.okP {a0 : step_machine} {n : Pn} (h : step_machine_loads.f a0 = some (.inl n)) : FnX Tryd.prog 72 [.p 70000 0] [.box 70000 92 [.d (kL kS) a0.l_.Names, .d (kL (kI .u32)) a0.l_.Up, .d (kI .i64) a0.s_.Pc.V, .d (kI .i64) a0.s_.Pc.L, .d (kL (kR f_api_Instr)) a0.s_.Code, .d (kL (kR f_api_Atom)) a0.s_.Mem, .d (kL (kR f_api_Slot)) a0.s_.Stack, .d (kL (kR f_api_Atom)) a0.s_.Out, .d (kI .i64) a0.x_.Op, .d (kI .i64) a0.x_.N, .d (kI .i64) a0.x_.L, .d kB a0.a_.Ret, .d (kI .i64) a0.a_.V, .d (kI .i64) a0.a_.L, .d kB a0.b_.Ret, .d (kI .i64) a0.b_.V, .d (kI .i64) a0.b_.L, .d kB a0.r_.Ret, .d (kI .i64) a0.r_.V, .d (kI .i64) a0.r_.L, .d (kI .i64) a0.below_, .d (kI .i64) a0.one_.x0_, .d (kI .i64) a0.one_.x1_, .d (kI .i64) a0.one_.x2_]] (pvv 86 n) := step_machine_loads.ok h

theorem step_machine_stores.ok {a0 : step_machine} {z : Pn ⊕ step_machine} (h : step_machine_stores.f a0 = some z) : FnZ Tryd.prog 73 [.p 70000 0] [.box 70000 92 [.d (kL kS) a0.l_.Names, .d (kL (kI .u32)) a0.l_.Up, .d (kI .i64) a0.s_.Pc.V, .d (kI .i64) a0.s_.Pc.L, .d (kL (kR f_api_Instr)) a0.s_.Code, .d (kL (kR f_api_Atom)) a0.s_.Mem, .d (kL (kR f_api_Slot)) a0.s_.Stack, .d (kL (kR f_api_Atom)) a0.s_.Out, .d (kI .i64) a0.x_.Op, .d (kI .i64) a0.x_.N, .d (kI .i64) a0.x_.L, .d kB a0.a_.Ret, .d (kI .i64) a0.a_.V, .d (kI .i64) a0.a_.L, .d kB a0.b_.Ret, .d (kI .i64) a0.b_.V, .d (kI .i64) a0.b_.L, .d kB a0.r_.Ret, .d (kI .i64) a0.r_.V, .d (kI .i64) a0.r_.L, .d (kI .i64) a0.below_, .d (kI .i64) a0.one_.x0_, .d (kI .i64) a0.one_.x1_, .d (kI .i64) a0.one_.x2_]] [70000] 86 (fun (r : step_machine) => .d (tup [])) (fun (r : step_machine) => [.box 70000 92 [.d (kL kS) r.l_.Names, .d (kL (kI .u32)) r.l_.Up, .d (kI .i64) r.s_.Pc.V, .d (kI .i64) r.s_.Pc.L, .d (kL (kR f_api_Instr)) r.s_.Code, .d (kL (kR f_api_Atom)) r.s_.Mem, .d (kL (kR f_api_Slot)) r.s_.Stack, .d (kL (kR f_api_Atom)) r.s_.Out, .d (kI .i64) r.x_.Op, .d (kI .i64) r.x_.N, .d (kI .i64) r.x_.L, .d kB r.a_.Ret, .d (kI .i64) r.a_.V, .d (kI .i64) r.a_.L, .d kB r.b_.Ret, .d (kI .i64) r.b_.V, .d (kI .i64) r.b_.L, .d kB r.r_.Ret, .d (kI .i64) r.r_.V, .d (kI .i64) r.r_.L, .d (kI .i64) r.below_, .d (kI .i64) r.one_.x0_, .d (kI .i64) r.one_.x1_, .d (kI .i64) r.one_.x2_]]) z := by
  refine fnIntroZ Tryd.func73 rfl (by kernel_rfl) fun X H0 w0 pv => ?_
  unfold step_machine_stores.f at h
  refine wSeq ?_
  refine wT0 ?_
  refine wTk 0 1 (cp (oMv tm) (s1 rfl) <| .nil) (by kernel_rfl) rfl ?_
  obtain ⟨z1, hz1, h⟩ := bd h
  rcases z1 with p2 | y3
  · refine wTx (Γp := []) 1 rfl (oCallX (rest := []) [(70000, 70000)] [0] [] rfl (step_machine_both.okP hz1) b71 (oE1 tm oE0) rfl rfl) rfl rfl (s1 rfl) trivial ?_
    refine pThenP ?_
    obtain rfl := so h
    exact pX
  · refine wTe 1 (cm (oCallS (rest := []) (R' := [.box 70000 92 [.d (kL kS) y3.l_.Names, .d (kL (kI .u32)) y3.l_.Up, .d (kI .i64) y3.s_.Pc.V, .d (kI .i64) y3.s_.Pc.L, .d (kL (kR f_api_Instr)) y3.s_.Code, .d (kL (kR f_api_Atom)) y3.s_.Mem, .d (kL (kR f_api_Slot)) y3.s_.Stack, .d (kL (kR f_api_Atom)) y3.s_.Out, .d (kI .i64) y3.x_.Op, .d (kI .i64) y3.x_.N, .d (kI .i64) y3.x_.L, .d kB y3.a_.Ret, .d (kI .i64) y3.a_.V, .d (kI .i64) y3.a_.L, .d kB y3.b_.Ret, .d (kI .i64) y3.b_.V, .d (kI .i64) y3.b_.L, .d kB y3.r_.Ret, .d (kI .i64) y3.r_.V, .d (kI .i64) y3.r_.L, .d (kI .i64) y3.below_, .d (kI .i64) y3.one_.x0_, .d (kI .i64) y3.one_.x1_, .d (kI .i64) y3.one_.x2_]]) (out' := .d (tup [])) [(70000, 70000)] [] [0] [] [0] rfl (step_machine_both.okR hz1) b71 (oE1 tm oE0) rfl rfl rfl rfl rfl rfl rfl rfl) (s1 rfl) <| .nil) (by kernel_rfl) ?_
    refine pSeq ?_
    refine wSeq ?_
    refine wT0 ?_
    refine wTk 0 1 (cp (oMv tm) (s1 rfl) <| .nil) (by kernel_rfl) rfl ?_
    obtain ⟨z4, hz4, h⟩ := bd h
    rcases z4 with p5 | y6
    · refine wTx (Γp := []) 1 rfl (oCallX (rest := []) [(70000, 70000)] [0] [] rfl (step_machine_cell.okP hz4) b91 (oE1 tm oE0) rfl rfl) rfl rfl (s1 rfl) trivial ?_
      refine pThenP ?_
      obtain rfl := so h
      exact pX
    · refine wTe 1 (cm (oCallS (rest := []) (R' := [.box 70000 92 [.d (kL kS) y6.1.l_.Names, .d (kL (kI .u32)) y6.1.l_.Up, .d (kI .i64) y6.1.s_.Pc.V, .d (kI .i64) y6.1.s_.Pc.L, .d (kL (kR f_api_Instr)) y6.1.s_.Code, .d (kL (kR f_api_Atom)) y6.1.s_.Mem, .d (kL (kR f_api_Slot)) y6.1.s_.Stack, .d (kL (kR f_api_Atom)) y6.1.s_.Out, .d (kI .i64) y6.1.x_.Op, .d (kI .i64) y6.1.x_.N, .d (kI .i64) y6.1.x_.L, .d kB y6.1.a_.Ret, .d (kI .i64) y6.1.a_.V, .d (kI .i64) y6.1.a_.L, .d kB y6.1.b_.Ret, .d (kI .i64) y6.1.b_.V, .d (kI .i64) y6.1.b_.L, .d kB y6.1.r_.Ret, .d (kI .i64) y6.1.r_.V, .d (kI .i64) y6.1.r_.L, .d (kI .i64) y6.1.below_, .d (kI .i64) y6.1.one_.x0_, .d (kI .i64) y6.1.one_.x1_, .d (kI .i64) y6.1.one_.x2_]]) (out' := .d ((kI .i64).sig y6.2)) [(70000, 70000)] [] [0] [] [0] rfl (step_machine_cell.okR hz4) b91 (oE1 tm oE0) rfl rfl rfl rfl rfl rfl rfl rfl) (s1 rfl) <| cp (oAs tm) (s1 rfl) <| .nil) (by kernel_rfl) ?_
      refine pSeq ?_
      obtain ⟨y7, hy7, h⟩ := bd h
      refine rgD hm (cp (oMv tm) (s1 rfl) <| cp (oMv tm) (s1 rfl) <| cp (oNilP tm) (s1 rfl) <| cp (oFldP o92_1 tm) (s1 rfl) <| cp (oFldP o35_2 tm) (s1 rfl) <| cr (oLdK (n := 0) (k := 5) rfl rfl (by kernel_rfl) t32 tm) (s1 rfl) <| cp (oMv tm) (s1 rfl) <| cp (oIdx u32 z30 hy7 tm tm) (s2 rfl rfl) <| cp (oFld (fs := f_api_Atom) (k := 1) rfl o30_1 tm) (s1 rfl) <| cp (oLd t3 tm) (s1 rfl) <| cp (oNilP tm) (s1 rfl) <| cp (oFldP o92_7 tm) (s1 rfl) <| cp (oIdxA 2 2 rfl u90 z3 rfl tm (cI (by decide))) (s1 rfl) <| cwn (oStK (n := 0) (k := 23) rfl rfl rfl (by kernel_rfl) z3 tm tm) (s2 rfl rfl) <| .nil) (by kernel_rfl) (by kernel_rfl) ?_
      obtain rfl := so h
      refine pZ ?_
      exact pSn [0] rfl rfl (.inr rfl) rfl rfl (.nil)
theorem step_machine_stores.okR {a0 : step_machine} {r : step_machine} (h : step_machine_stores.f a0 = some (.inr r)) : FnS Tryd.prog 73 [.p 70000 0] [.box 70000 92 [.d (kL kS) a0.l_.Names, .d (kL (kI .u32)) a0.l_.Up, .d (kI .i64) a0.s_.Pc.V, .d (kI .i64) a0.s_.Pc.L, .d (kL (kR f_api_Instr)) a0.s_.Code, .d (kL (kR f_api_Atom)) a0.s_.Mem, .d (kL (kR f_api_Slot)) a0.s_.Stack, .d (kL (kR f_api_Atom)) a0.s_.Out, .d (kI .i64) a0.x_.Op, .d (kI .i64) a0.x_.N, .d (kI .i64) a0.x_.L, .d kB a0.a_.Ret, .d (kI .i64) a0.a_.V, .d (kI .i64) a0.a_.L, .d kB a0.b_.Ret, .d (kI .i64) a0.b_.V, .d (kI .i64) a0.b_.L, .d kB a0.r_.Ret, .d (kI .i64) a0.r_.V, .d (kI .i64) a0.r_.L, .d (kI .i64) a0.below_, .d (kI .i64) a0.one_.x0_, .d (kI .i64) a0.one_.x1_, .d (kI .i64) a0.one_.x2_]] [70000] (.d (tup [])) [.box 70000 92 [.d (kL kS) r.l_.Names, .d (kL (kI .u32)) r.l_.Up, .d (kI .i64) r.s_.Pc.V, .d (kI .i64) r.s_.Pc.L, .d (kL (kR f_api_Instr)) r.s_.Code, .d (kL (kR f_api_Atom)) r.s_.Mem, .d (kL (kR f_api_Slot)) r.s_.Stack, .d (kL (kR f_api_Atom)) r.s_.Out, .d (kI .i64) r.x_.Op, .d (kI .i64) r.x_.N, .d (kI .i64) r.x_.L, .d kB r.a_.Ret, .d (kI .i64) r.a_.V, .d (kI .i64) r.a_.L, .d kB r.b_.Ret, .d (kI .i64) r.b_.V, .d (kI .i64) r.b_.L, .d kB r.r_.Ret, .d (kI .i64) r.r_.V, .d (kI .i64) r.r_.L, .d (kI .i64) r.below_, .d (kI .i64) r.one_.x0_, .d (kI .i64) r.one_.x1_, .d (kI .i64) r.one_.x2_]] := step_machine_stores.ok h
theorem step_machine_stores.okP {a0 : step_machine} {n : Pn} (h : step_machine_stores.f a0 = some (.inl n)) : FnX Tryd.prog 73 [.p 70000 0] [.box 70000 92 [.d (kL kS) a0.l_.Names, .d (kL (kI .u32)) a0.l_.Up, .d (kI .i64) a0.s_.Pc.V, .d (kI .i64) a0.s_.Pc.L, .d (kL (kR f_api_Instr)) a0.s_.Code, .d (kL (kR f_api_Atom)) a0.s_.Mem, .d (kL (kR f_api_Slot)) a0.s_.Stack, .d (kL (kR f_api_Atom)) a0.s_.Out, .d (kI .i64) a0.x_.Op, .d (kI .i64) a0.x_.N, .d (kI .i64) a0.x_.L, .d kB a0.a_.Ret, .d (kI .i64) a0.a_.V, .d (kI .i64) a0.a_.L, .d kB a0.b_.Ret, .d (kI .i64) a0.b_.V, .d (kI .i64) a0.b_.L, .d kB a0.r_.Ret, .d (kI .i64) a0.r_.V, .d (kI .i64) a0.r_.L, .d (kI .i64) a0.below_, .d (kI .i64) a0.one_.x0_, .d (kI .i64) a0.one_.x1_, .d (kI .i64) a0.one_.x2_]] (pvv 86 n) := step_machine_stores.ok h

theorem step_machine_goes.ok {a0 : step_machine} {z : Pn ⊕ step_machine} (h : step_machine_goes.f a0 = some z) : FnZ Tryd.prog 74 [.p 70000 0] [.box 70000 92 [.d (kL kS) a0.l_.Names, .d (kL (kI .u32)) a0.l_.Up, .d (kI .i64) a0.s_.Pc.V, .d (kI .i64) a0.s_.Pc.L, .d (kL (kR f_api_Instr)) a0.s_.Code, .d (kL (kR f_api_Atom)) a0.s_.Mem, .d (kL (kR f_api_Slot)) a0.s_.Stack, .d (kL (kR f_api_Atom)) a0.s_.Out, .d (kI .i64) a0.x_.Op, .d (kI .i64) a0.x_.N, .d (kI .i64) a0.x_.L, .d kB a0.a_.Ret, .d (kI .i64) a0.a_.V, .d (kI .i64) a0.a_.L, .d kB a0.b_.Ret, .d (kI .i64) a0.b_.V, .d (kI .i64) a0.b_.L, .d kB a0.r_.Ret, .d (kI .i64) a0.r_.V, .d (kI .i64) a0.r_.L, .d (kI .i64) a0.below_, .d (kI .i64) a0.one_.x0_, .d (kI .i64) a0.one_.x1_, .d (kI .i64) a0.one_.x2_]] [70000] 86 (fun (r : step_machine) => .d (tup [])) (fun (r : step_machine) => [.box 70000 92 [.d (kL kS) r.l_.Names, .d (kL (kI .u32)) r.l_.Up, .d (kI .i64) r.s_.Pc.V, .d (kI .i64) r.s_.Pc.L, .d (kL (kR f_api_Instr)) r.s_.Code, .d (kL (kR f_api_Atom)) r.s_.Mem, .d (kL (kR f_api_Slot)) r.s_.Stack, .d (kL (kR f_api_Atom)) r.s_.Out, .d (kI .i64) r.x_.Op, .d (kI .i64) r.x_.N, .d (kI .i64) r.x_.L, .d kB r.a_.Ret, .d (kI .i64) r.a_.V, .d (kI .i64) r.a_.L, .d kB r.b_.Ret, .d (kI .i64) r.b_.V, .d (kI .i64) r.b_.L, .d kB r.r_.Ret, .d (kI .i64) r.r_.V, .d (kI .i64) r.r_.L, .d (kI .i64) r.below_, .d (kI .i64) r.one_.x0_, .d (kI .i64) r.one_.x1_, .d (kI .i64) r.one_.x2_]]) z := by
  refine fnIntroZ Tryd.func74 rfl (by kernel_rfl) fun X H0 w0 pv => ?_
  unfold step_machine_goes.f at h
  refine wSeq ?_
  refine wT0 ?_
  refine wTk 0 1 (cp (oMv tm) (s1 rfl) <| .nil) (by kernel_rfl) rfl ?_
  obtain ⟨z1, hz1, h⟩ := bd h
  rcases z1 with p2 | y3
  · refine wTx (Γp := []) 1 rfl (oCallX (rest := []) [(70000, 70000)] [0] [] rfl (step_machine_first.okP hz1) b70 (oE1 tm oE0) rfl rfl) rfl rfl (s1 rfl) trivial ?_
    refine pThenP ?_
    obtain rfl := so h
    exact pX
  · refine wTe 1 (cm (oCallS (rest := []) (R' := [.box 70000 92 [.d (kL kS) y3.l_.Names, .d (kL (kI .u32)) y3.l_.Up, .d (kI .i64) y3.s_.Pc.V, .d (kI .i64) y3.s_.Pc.L, .d (kL (kR f_api_Instr)) y3.s_.Code, .d (kL (kR f_api_Atom)) y3.s_.Mem, .d (kL (kR f_api_Slot)) y3.s_.Stack, .d (kL (kR f_api_Atom)) y3.s_.Out, .d (kI .i64) y3.x_.Op, .d (kI .i64) y3.x_.N, .d (kI .i64) y3.x_.L, .d kB y3.a_.Ret, .d (kI .i64) y3.a_.V, .d (kI .i64) y3.a_.L, .d kB y3.b_.Ret, .d (kI .i64) y3.b_.V, .d (kI .i64) y3.b_.L, .d kB y3.r_.Ret, .d (kI .i64) y3.r_.V, .d (kI .i64) y3.r_.L, .d (kI .i64) y3.below_, .d (kI .i64) y3.one_.x0_, .d (kI .i64) y3.one_.x1_, .d (kI .i64) y3.one_.x2_]]) (out' := .d (tup [])) [(70000, 70000)] [] [0] [] [0] rfl (step_machine_first.okR hz1) b70 (oE1 tm oE0) rfl rfl rfl rfl rfl rfl rfl rfl) (s1 rfl) <| .nil) (by kernel_rfl) ?_
    refine pSeq ?_
    obtain ⟨o1, h, hk1⟩ := bd h
    refine wK0 (.inr () = o1) ([]) ([.box 70000 92 [.d (kL kS) y3.l_.Names, .d (kL (kI .u32)) y3.l_.Up, .d (kI .i64) y3.s_.Pc.V, .d (kI .i64) y3.s_.Pc.L, .d (kL (kR f_api_Instr)) y3.s_.Code, .d (kL (kR f_api_Atom)) y3.s_.Mem, .d (kL (kR f_api_Slot)) y3.s_.Stack, .d (kL (kR f_api_Atom)) y3.s_.Out, .d (kI .i64) y3.x_.Op, .d (kI .i64) y3.x_.N, .d (kI .i64) y3.x_.L, .d kB y3.a_.Ret, .d (kI .i64) y3.a_.V, .d (kI .i64) y3.a_.L, .d kB y3.b_.Ret, .d (kI .i64) y3.b_.V, .d (kI .i64) y3.b_.L, .d kB y3.r_.Ret, .d (kI .i64) y3.r_.V, .d (kI .i64) y3.r_.L, .d (kI .i64) y3.below_, .d (kI .i64) y3.one_.x0_, .d (kI .i64) y3.one_.x1_, .d (kI .i64) y3.one_.x2_]]) ?_ ?_
    · rcases ic h with ⟨hp11, h⟩ | ⟨hp11, h⟩
      · refine wT0 ?_
        refine wTk 0 14 (cp (oMv tm) (s1 rfl) <| cp (oNilP tm) (s1 rfl) <| cp (oFldP o92_3 tm) (s1 rfl) <| cp (oFldP o68_1 tm) (s1 rfl) <| cr (oLdK (n := 0) (k := 12) rfl rfl (by kernel_rfl) t3 tm) (s1 rfl) <| cp (oGe rfl tm (cI (by decide))) (s1 rfl) <| cp (oMv tm) (s1 rfl) <| cgB (decide_eq_true hp11) rfl rfl (oMv tm) (s1 rfl) <| cgB (decide_eq_true hp11) rfl rfl (oNilP tm) (s1 rfl) <| cgB (decide_eq_true hp11) rfl rfl (oFldP o92_3 tm) (s1 rfl) <| cgB (decide_eq_true hp11) rfl rfl (oFldP o68_1 tm) (s1 rfl) <| crgB (decide_eq_true hp11) rfl rfl (oLdK (n := 0) (k := 12) rfl rfl (by kernel_rfl) t3 tm) (s1 rfl) <| cgB (decide_eq_true hp11) rfl rfl (oLe rfl tm (cI (by decide))) (s1 rfl) <| cp (oPkT (decide_eq_true hp11) tm tm) (s2 rfl rfl) <| .nil) (by kernel_rfl) rfl ?_
        obtain ⟨z12, hz12, h⟩ := bd h
        rcases z12 with p13 | y14
        · refine wTx (Γp := []) 14 rfl (oCallX (rest := [.box 70000 92 [.d (kL kS) y3.l_.Names, .d (kL (kI .u32)) y3.l_.Up, .d (kI .i64) y3.s_.Pc.V, .d (kI .i64) y3.s_.Pc.L, .d (kL (kR f_api_Instr)) y3.s_.Code, .d (kL (kR f_api_Atom)) y3.s_.Mem, .d (kL (kR f_api_Slot)) y3.s_.Stack, .d (kL (kR f_api_Atom)) y3.s_.Out, .d (kI .i64) y3.x_.Op, .d (kI .i64) y3.x_.N, .d (kI .i64) y3.x_.L, .d kB y3.a_.Ret, .d (kI .i64) y3.a_.V, .d (kI .i64) y3.a_.L, .d kB y3.b_.Ret, .d (kI .i64) y3.b_.V, .d (kI .i64) y3.b_.L, .d kB y3.r_.Ret, .d (kI .i64) y3.r_.V, .d (kI .i64) y3.r_.L, .d (kI .i64) y3.below_, .d (kI .i64) y3.one_.x0_, .d (kI .i64) y3.one_.x1_, .d (kI .i64) y3.one_.x2_]]) [] [] [0] rfl (step_need.okP hz12) b45 (oE1 tm oE0) rfl rfl) rfl rfl (s1 rfl) trivial ?_
          refine pThenP ?_
          obtain rfl := so h
          replace h := hk1
          obtain rfl := so h
          exact pX
        · refine wTe 14 (cm (oCallS (rest := [.box 70000 92 [.d (kL kS) y3.l_.Names, .d (kL (kI .u32)) y3.l_.Up, .d (kI .i64) y3.s_.Pc.V, .d (kI .i64) y3.s_.Pc.L, .d (kL (kR f_api_Instr)) y3.s_.Code, .d (kL (kR f_api_Atom)) y3.s_.Mem, .d (kL (kR f_api_Slot)) y3.s_.Stack, .d (kL (kR f_api_Atom)) y3.s_.Out, .d (kI .i64) y3.x_.Op, .d (kI .i64) y3.x_.N, .d (kI .i64) y3.x_.L, .d kB y3.a_.Ret, .d (kI .i64) y3.a_.V, .d (kI .i64) y3.a_.L, .d kB y3.b_.Ret, .d (kI .i64) y3.b_.V, .d (kI .i64) y3.b_.L, .d kB y3.r_.Ret, .d (kI .i64) y3.r_.V, .d (kI .i64) y3.r_.L, .d (kI .i64) y3.below_, .d (kI .i64) y3.one_.x0_, .d (kI .i64) y3.one_.x1_, .d (kI .i64) y3.one_.x2_]]) (R' := [.box 70000 92 [.d (kL kS) y3.l_.Names, .d (kL (kI .u32)) y3.l_.Up, .d (kI .i64) y3.s_.Pc.V, .d (kI .i64) y3.s_.Pc.L, .d (kL (kR f_api_Instr)) y3.s_.Code, .d (kL (kR f_api_Atom)) y3.s_.Mem, .d (kL (kR f_api_Slot)) y3.s_.Stack, .d (kL (kR f_api_Atom)) y3.s_.Out, .d (kI .i64) y3.x_.Op, .d (kI .i64) y3.x_.N, .d (kI .i64) y3.x_.L, .d kB y3.a_.Ret, .d (kI .i64) y3.a_.V, .d (kI .i64) y3.a_.L, .d kB y3.b_.Ret, .d (kI .i64) y3.b_.V, .d (kI .i64) y3.b_.L, .d kB y3.r_.Ret, .d (kI .i64) y3.r_.V, .d (kI .i64) y3.r_.L, .d (kI .i64) y3.below_, .d (kI .i64) y3.one_.x0_, .d (kI .i64) y3.one_.x1_, .d (kI .i64) y3.one_.x2_]]) (out' := .d (tup [])) [] [] [] [0] [0] rfl (step_need.okR hz12) b45 (oE1 tm oE0) rfl rfl rfl rfl rfl rfl rfl rfl) (s1 rfl) <| .nil) (by kernel_rfl) ?_
          exact pJ0 (so h) trivial rfl
      · refine wT0 ?_
        refine wTk 0 14 (cp (oMv tm) (s1 rfl) <| cp (oNilP tm) (s1 rfl) <| cp (oFldP o92_3 tm) (s1 rfl) <| cp (oFldP o68_1 tm) (s1 rfl) <| cr (oLdK (n := 0) (k := 12) rfl rfl (by kernel_rfl) t3 tm) (s1 rfl) <| cp (oGe rfl tm (cI (by decide))) (s1 rfl) <| cp (oMv tm) (s1 rfl) <| csB (decide_eq_false hp11) rfl rfl <| csB (decide_eq_false hp11) rfl rfl <| csB (decide_eq_false hp11) rfl rfl <| csB (decide_eq_false hp11) rfl rfl <| csB (decide_eq_false hp11) rfl rfl <| csB (decide_eq_false hp11) rfl rfl <| cp (oPkF (decide_eq_false hp11) tm cB) (s1 rfl) <| .nil) (by kernel_rfl) rfl ?_
        obtain ⟨z15, hz15, h⟩ := bd h
        rcases z15 with p16 | y17
        · refine wTx (Γp := []) 14 rfl (oCallX (rest := [.box 70000 92 [.d (kL kS) y3.l_.Names, .d (kL (kI .u32)) y3.l_.Up, .d (kI .i64) y3.s_.Pc.V, .d (kI .i64) y3.s_.Pc.L, .d (kL (kR f_api_Instr)) y3.s_.Code, .d (kL (kR f_api_Atom)) y3.s_.Mem, .d (kL (kR f_api_Slot)) y3.s_.Stack, .d (kL (kR f_api_Atom)) y3.s_.Out, .d (kI .i64) y3.x_.Op, .d (kI .i64) y3.x_.N, .d (kI .i64) y3.x_.L, .d kB y3.a_.Ret, .d (kI .i64) y3.a_.V, .d (kI .i64) y3.a_.L, .d kB y3.b_.Ret, .d (kI .i64) y3.b_.V, .d (kI .i64) y3.b_.L, .d kB y3.r_.Ret, .d (kI .i64) y3.r_.V, .d (kI .i64) y3.r_.L, .d (kI .i64) y3.below_, .d (kI .i64) y3.one_.x0_, .d (kI .i64) y3.one_.x1_, .d (kI .i64) y3.one_.x2_]]) [] [] [0] rfl (step_need.okP hz15) b45 (oE1 tm oE0) rfl rfl) rfl rfl (s1 rfl) trivial ?_
          refine pThenP ?_
          obtain rfl := so h
          replace h := hk1
          obtain rfl := so h
          exact pX
        · refine wTe 14 (cm (oCallS (rest := [.box 70000 92 [.d (kL kS) y3.l_.Names, .d (kL (kI .u32)) y3.l_.Up, .d (kI .i64) y3.s_.Pc.V, .d (kI .i64) y3.s_.Pc.L, .d (kL (kR f_api_Instr)) y3.s_.Code, .d (kL (kR f_api_Atom)) y3.s_.Mem, .d (kL (kR f_api_Slot)) y3.s_.Stack, .d (kL (kR f_api_Atom)) y3.s_.Out, .d (kI .i64) y3.x_.Op, .d (kI .i64) y3.x_.N, .d (kI .i64) y3.x_.L, .d kB y3.a_.Ret, .d (kI .i64) y3.a_.V, .d (kI .i64) y3.a_.L, .d kB y3.b_.Ret, .d (kI .i64) y3.b_.V, .d (kI .i64) y3.b_.L, .d kB y3.r_.Ret, .d (kI .i64) y3.r_.V, .d (kI .i64) y3.r_.L, .d (kI .i64) y3.below_, .d (kI .i64) y3.one_.x0_, .d (kI .i64) y3.one_.x1_, .d (kI .i64) y3.one_.x2_]]) (R' := [.box 70000 92 [.d (kL kS) y3.l_.Names, .d (kL (kI .u32)) y3.l_.Up, .d (kI .i64) y3.s_.Pc.V, .d (kI .i64) y3.s_.Pc.L, .d (kL (kR f_api_Instr)) y3.s_.Code, .d (kL (kR f_api_Atom)) y3.s_.Mem, .d (kL (kR f_api_Slot)) y3.s_.Stack, .d (kL (kR f_api_Atom)) y3.s_.Out, .d (kI .i64) y3.x_.Op, .d (kI .i64) y3.x_.N, .d (kI .i64) y3.x_.L, .d kB y3.a_.Ret, .d (kI .i64) y3.a_.V, .d (kI .i64) y3.a_.L, .d kB y3.b_.Ret, .d (kI .i64) y3.b_.V, .d (kI .i64) y3.b_.L, .d kB y3.r_.Ret, .d (kI .i64) y3.r_.V, .d (kI .i64) y3.r_.L, .d (kI .i64) y3.below_, .d (kI .i64) y3.one_.x0_, .d (kI .i64) y3.one_.x1_, .d (kI .i64) y3.one_.x2_]]) (out' := .d (tup [])) [] [] [] [0] [0] rfl (step_need.okR hz15) b45 (oE1 tm oE0) rfl rfl rfl rfl rfl rfl rfl rfl) (s1 rfl) <| .nil) (by kernel_rfl) ?_
          exact pJ0 (so h) trivial rfl
    · rintro rfl
      replace h := hk1
      obtain rfl := so h
      refine pZ ?_
      exact pSn [0] rfl rfl (.inr rfl) rfl rfl (.nil)
theorem step_machine_goes.okR {a0 : step_machine} {r : step_machine} (h : step_machine_goes.f a0 = some (.inr r)) : FnS Tryd.prog 74 [.p 70000 0] [.box 70000 92 [.d (kL kS) a0.l_.Names, .d (kL (kI .u32)) a0.l_.Up, .d (kI .i64) a0.s_.Pc.V, .d (kI .i64) a0.s_.Pc.L, .d (kL (kR f_api_Instr)) a0.s_.Code, .d (kL (kR f_api_Atom)) a0.s_.Mem, .d (kL (kR f_api_Slot)) a0.s_.Stack, .d (kL (kR f_api_Atom)) a0.s_.Out, .d (kI .i64) a0.x_.Op, .d (kI .i64) a0.x_.N, .d (kI .i64) a0.x_.L, .d kB a0.a_.Ret, .d (kI .i64) a0.a_.V, .d (kI .i64) a0.a_.L, .d kB a0.b_.Ret, .d (kI .i64) a0.b_.V, .d (kI .i64) a0.b_.L, .d kB a0.r_.Ret, .d (kI .i64) a0.r_.V, .d (kI .i64) a0.r_.L, .d (kI .i64) a0.below_, .d (kI .i64) a0.one_.x0_, .d (kI .i64) a0.one_.x1_, .d (kI .i64) a0.one_.x2_]] [70000] (.d (tup [])) [.box 70000 92 [.d (kL kS) r.l_.Names, .d (kL (kI .u32)) r.l_.Up, .d (kI .i64) r.s_.Pc.V, .d (kI .i64) r.s_.Pc.L, .d (kL (kR f_api_Instr)) r.s_.Code, .d (kL (kR f_api_Atom)) r.s_.Mem, .d (kL (kR f_api_Slot)) r.s_.Stack, .d (kL (kR f_api_Atom)) r.s_.Out, .d (kI .i64) r.x_.Op, .d (kI .i64) r.x_.N, .d (kI .i64) r.x_.L, .d kB r.a_.Ret, .d (kI .i64) r.a_.V, .d (kI .i64) r.a_.L, .d kB r.b_.Ret, .d (kI .i64) r.b_.V, .d (kI .i64) r.b_.L, .d kB r.r_.Ret, .d (kI .i64) r.r_.V, .d (kI .i64) r.r_.L, .d (kI .i64) r.below_, .d (kI .i64) r.one_.x0_, .d (kI .i64) r.one_.x1_, .d (kI .i64) r.one_.x2_]] := step_machine_goes.ok h
theorem step_machine_goes.okP {a0 : step_machine} {n : Pn} (h : step_machine_goes.f a0 = some (.inl n)) : FnX Tryd.prog 74 [.p 70000 0] [.box 70000 92 [.d (kL kS) a0.l_.Names, .d (kL (kI .u32)) a0.l_.Up, .d (kI .i64) a0.s_.Pc.V, .d (kI .i64) a0.s_.Pc.L, .d (kL (kR f_api_Instr)) a0.s_.Code, .d (kL (kR f_api_Atom)) a0.s_.Mem, .d (kL (kR f_api_Slot)) a0.s_.Stack, .d (kL (kR f_api_Atom)) a0.s_.Out, .d (kI .i64) a0.x_.Op, .d (kI .i64) a0.x_.N, .d (kI .i64) a0.x_.L, .d kB a0.a_.Ret, .d (kI .i64) a0.a_.V, .d (kI .i64) a0.a_.L, .d kB a0.b_.Ret, .d (kI .i64) a0.b_.V, .d (kI .i64) a0.b_.L, .d kB a0.r_.Ret, .d (kI .i64) a0.r_.V, .d (kI .i64) a0.r_.L, .d (kI .i64) a0.below_, .d (kI .i64) a0.one_.x0_, .d (kI .i64) a0.one_.x1_, .d (kI .i64) a0.one_.x2_]] (pvv 86 n) := step_machine_goes.ok h

theorem step_machine_calls.ok {a0 : step_machine} {z : Pn ⊕ step_machine} (h : step_machine_calls.f a0 = some z) : FnZ Tryd.prog 75 [.p 70000 0] [.box 70000 92 [.d (kL kS) a0.l_.Names, .d (kL (kI .u32)) a0.l_.Up, .d (kI .i64) a0.s_.Pc.V, .d (kI .i64) a0.s_.Pc.L, .d (kL (kR f_api_Instr)) a0.s_.Code, .d (kL (kR f_api_Atom)) a0.s_.Mem, .d (kL (kR f_api_Slot)) a0.s_.Stack, .d (kL (kR f_api_Atom)) a0.s_.Out, .d (kI .i64) a0.x_.Op, .d (kI .i64) a0.x_.N, .d (kI .i64) a0.x_.L, .d kB a0.a_.Ret, .d (kI .i64) a0.a_.V, .d (kI .i64) a0.a_.L, .d kB a0.b_.Ret, .d (kI .i64) a0.b_.V, .d (kI .i64) a0.b_.L, .d kB a0.r_.Ret, .d (kI .i64) a0.r_.V, .d (kI .i64) a0.r_.L, .d (kI .i64) a0.below_, .d (kI .i64) a0.one_.x0_, .d (kI .i64) a0.one_.x1_, .d (kI .i64) a0.one_.x2_]] [70000] 86 (fun (r : step_machine) => .d (tup [])) (fun (r : step_machine) => [.box 70000 92 [.d (kL kS) r.l_.Names, .d (kL (kI .u32)) r.l_.Up, .d (kI .i64) r.s_.Pc.V, .d (kI .i64) r.s_.Pc.L, .d (kL (kR f_api_Instr)) r.s_.Code, .d (kL (kR f_api_Atom)) r.s_.Mem, .d (kL (kR f_api_Slot)) r.s_.Stack, .d (kL (kR f_api_Atom)) r.s_.Out, .d (kI .i64) r.x_.Op, .d (kI .i64) r.x_.N, .d (kI .i64) r.x_.L, .d kB r.a_.Ret, .d (kI .i64) r.a_.V, .d (kI .i64) r.a_.L, .d kB r.b_.Ret, .d (kI .i64) r.b_.V, .d (kI .i64) r.b_.L, .d kB r.r_.Ret, .d (kI .i64) r.r_.V, .d (kI .i64) r.r_.L, .d (kI .i64) r.below_, .d (kI .i64) r.one_.x0_, .d (kI .i64) r.one_.x1_, .d (kI .i64) r.one_.x2_]]) z := by
  refine fnIntroZ Tryd.func75 rfl (by kernel_rfl) fun X H0 w0 pv => ?_
  unfold step_machine_calls.f at h
  refine wSeq ?_
  refine wT0 ?_
  refine wTk 0 1 (cp (oMv tm) (s1 rfl) <| .nil) (by kernel_rfl) rfl ?_
  obtain ⟨z1, hz1, h⟩ := bd h
  rcases z1 with p2 | y3
  · refine wTx (Γp := []) 1 rfl (oCallX (rest := []) [(70000, 70000)] [0] [] rfl (step_machine_goes.okP hz1) b74 (oE1 tm oE0) rfl rfl) rfl rfl (s1 rfl) trivial ?_
    refine pThenP ?_
    obtain rfl := so h
    exact pX
  · refine wTe 1 (cm (oCallS (rest := []) (R' := [.box 70000 92 [.d (kL kS) y3.l_.Names, .d (kL (kI .u32)) y3.l_.Up, .d (kI .i64) y3.s_.Pc.V, .d (kI .i64) y3.s_.Pc.L, .d (kL (kR f_api_Instr)) y3.s_.Code, .d (kL (kR f_api_Atom)) y3.s_.Mem, .d (kL (kR f_api_Slot)) y3.s_.Stack, .d (kL (kR f_api_Atom)) y3.s_.Out, .d (kI .i64) y3.x_.Op, .d (kI .i64) y3.x_.N, .d (kI .i64) y3.x_.L, .d kB y3.a_.Ret, .d (kI .i64) y3.a_.V, .d (kI .i64) y3.a_.L, .d kB y3.b_.Ret, .d (kI .i64) y3.b_.V, .d (kI .i64) y3.b_.L, .d kB y3.r_.Ret, .d (kI .i64) y3.r_.V, .d (kI .i64) y3.r_.L, .d (kI .i64) y3.below_, .d (kI .i64) y3.one_.x0_, .d (kI .i64) y3.one_.x1_, .d (kI .i64) y3.one_.x2_]]) (out' := .d (tup [])) [(70000, 70000)] [] [0] [] [0] rfl (step_machine_goes.okR hz1) b74 (oE1 tm oE0) rfl rfl rfl rfl rfl rfl rfl rfl) (s1 rfl) <| .nil) (by kernel_rfl) ?_
    refine pSeq ?_
    refine wSeq ?_
    refine rg (cp (oMv tm) (s1 rfl) <| cp (oNilP tm) (s1 rfl) <| cp (oFldP o92_2 tm) (s1 rfl) <| cp (oFldP o48_1 tm) (s1 rfl) <| cr (oLdK (n := 0) (k := 9) rfl rfl (by kernel_rfl) t3 tm) (s1 rfl) <| cp (oMv (cI (by decide))) trivial <| .nil) (by kernel_rfl) ?_
    refine pSeq ?_
    obtain ⟨o1, h, hk1⟩ := bd h
    refine wK1 (fun x14 => .inr x14 = o1) (fun x14 => []) (fun x14 => [.box 70000 92 [.d (kL kS) x14.l_.Names, .d (kL (kI .u32)) x14.l_.Up, .d (kI .i64) x14.s_.Pc.V, .d (kI .i64) x14.s_.Pc.L, .d (kL (kR f_api_Instr)) x14.s_.Code, .d (kL (kR f_api_Atom)) x14.s_.Mem, .d (kL (kR f_api_Slot)) x14.s_.Stack, .d (kL (kR f_api_Atom)) x14.s_.Out, .d (kI .i64) x14.x_.Op, .d (kI .i64) x14.x_.N, .d (kI .i64) x14.x_.L, .d kB x14.a_.Ret, .d (kI .i64) x14.a_.V, .d (kI .i64) x14.a_.L, .d kB x14.b_.Ret, .d (kI .i64) x14.b_.V, .d (kI .i64) x14.b_.L, .d kB x14.r_.Ret, .d (kI .i64) x14.r_.V, .d (kI .i64) x14.r_.L, .d (kI .i64) x14.below_, .d (kI .i64) x14.one_.x0_, .d (kI .i64) x14.one_.x1_, .d (kI .i64) x14.one_.x2_]]) ?_ ?_
    · refine wBlock (wLoop ?_)
      refine lW (pc2 o1 (fun v12 v13 => [(0, .p 70000 0), (9, .d ((kI .i64).sig y3.x_.N)), (10, .d ((kI .i64).sig v13))]) (fun v12 v13 => [.box 70000 92 [.d (kL kS) v12.l_.Names, .d (kL (kI .u32)) v12.l_.Up, .d (kI .i64) v12.s_.Pc.V, .d (kI .i64) v12.s_.Pc.L, .d (kL (kR f_api_Instr)) v12.s_.Code, .d (kL (kR f_api_Atom)) v12.s_.Mem, .d (kL (kR f_api_Slot)) v12.s_.Stack, .d (kL (kR f_api_Atom)) v12.s_.Out, .d (kI .i64) v12.x_.Op, .d (kI .i64) v12.x_.N, .d (kI .i64) v12.x_.L, .d kB v12.a_.Ret, .d (kI .i64) v12.a_.V, .d (kI .i64) v12.a_.L, .d kB v12.b_.Ret, .d (kI .i64) v12.b_.V, .d (kI .i64) v12.b_.L, .d kB v12.r_.Ret, .d (kI .i64) v12.r_.V, .d (kI .i64) v12.r_.L, .d (kI .i64) v12.below_, .d (kI .i64) v12.one_.x0_, .d (kI .i64) v12.one_.x1_, .d (kI .i64) v12.one_.x2_]]) (step_machine_calls.l0.partial_correctness y3) ?_ _ _ h) ⟨rfl, rfl, rfl, trivial⟩ rfl
      clear h
      intro f' ih v12 v13 h
      refine wSeq ?_
      refine rg (cp (oLt rfl tm tm) (s2 rfl rfl) <| .nil) (by kernel_rfl) ?_
      refine pSeq ?_
      refine wSeq ?_
      rcases ic h with ⟨hp15, h⟩ | ⟨hp15, h⟩
      · refine wCT hp15 tm (s1 rfl) ?_
        refine wSkip ?_
        refine pSeq ?_
        refine wSeq ?_
        refine wBlock ?_
        refine wSeq ?_
        refine rg (cp (oMv tm) (s1 rfl) <| cp (oAs tm) (s1 rfl) <| .nil) (by kernel_rfl) ?_
        refine pSeq ?_
        refine wT0 ?_
        refine wTk 0 3 (cp (oMv tm) (s1 rfl) <| cp (oMv tm) (s1 rfl) <| cp (oAdd (cI (by decide)) tm) (s1 rfl) <| .nil) (by kernel_rfl) rfl ?_
        obtain ⟨z16, hz16, h⟩ := bd h
        rcases z16 with p17 | y18
        · refine wTx (Γp := []) 3 rfl (oCallX (rest := []) [(70000, 70000)] [0] [] rfl (step_machine_atom.okP hz16) b90 (oE1 tm (oE1 tm oE0)) rfl rfl) rfl rfl (s2 rfl rfl) trivial ?_
          refine pBlkP ?_
          refine pThenP ?_
          refine pThenP ?_
          refine pBlkP ?_
          refine pThenP ?_
          obtain rfl := so h
          replace h := hk1
          obtain rfl := so h
          exact pX
        · refine wTe 3 (cm (oCallS (rest := []) (R' := [.box 70000 92 [.d (kL kS) y18.1.l_.Names, .d (kL (kI .u32)) y18.1.l_.Up, .d (kI .i64) y18.1.s_.Pc.V, .d (kI .i64) y18.1.s_.Pc.L, .d (kL (kR f_api_Instr)) y18.1.s_.Code, .d (kL (kR f_api_Atom)) y18.1.s_.Mem, .d (kL (kR f_api_Slot)) y18.1.s_.Stack, .d (kL (kR f_api_Atom)) y18.1.s_.Out, .d (kI .i64) y18.1.x_.Op, .d (kI .i64) y18.1.x_.N, .d (kI .i64) y18.1.x_.L, .d kB y18.1.a_.Ret, .d (kI .i64) y18.1.a_.V, .d (kI .i64) y18.1.a_.L, .d kB y18.1.b_.Ret, .d (kI .i64) y18.1.b_.V, .d (kI .i64) y18.1.b_.L, .d kB y18.1.r_.Ret, .d (kI .i64) y18.1.r_.V, .d (kI .i64) y18.1.r_.L, .d (kI .i64) y18.1.below_, .d (kI .i64) y18.1.one_.x0_, .d (kI .i64) y18.1.one_.x1_, .d (kI .i64) y18.1.one_.x2_]]) (out' := .d ((kR f_api_Slot).sig y18.2)) [(70000, 70000)] [] [0] [] [0] rfl (step_machine_atom.okR hz16) b90 (oE1 tm (oE1 tm oE0)) rfl rfl rfl rfl rfl rfl rfl rfl) (s2 rfl rfl) <| .nil) (by kernel_rfl) ?_
          refine pBlkN ?_
          refine pSeq ?_
          refine rg (cp (oAdd tm (cI (by decide))) (s1 rfl) <| cp (oMv tm) (s1 rfl) <| .nil) (by kernel_rfl) ?_
          exact pLoop (lW (ih _ _ h) ⟨rfl, rfl, rfl, trivial⟩ rfl)
      · refine wCF hp15 tm (s1 rfl) ?_
        refine wExit ?_
        refine pThenX ?_
        refine pThenX ?_
        refine pBlkX ?_
        exact pJ1 _ (so h) trivial rfl
    · rintro x14 rfl
      replace h := hk1
      obtain rfl := so h
      refine pZ ?_
      exact pSn [0] rfl rfl (.inr rfl) rfl rfl (.nil)
theorem step_machine_calls.okR {a0 : step_machine} {r : step_machine} (h : step_machine_calls.f a0 = some (.inr r)) : FnS Tryd.prog 75 [.p 70000 0] [.box 70000 92 [.d (kL kS) a0.l_.Names, .d (kL (kI .u32)) a0.l_.Up, .d (kI .i64) a0.s_.Pc.V, .d (kI .i64) a0.s_.Pc.L, .d (kL (kR f_api_Instr)) a0.s_.Code, .d (kL (kR f_api_Atom)) a0.s_.Mem, .d (kL (kR f_api_Slot)) a0.s_.Stack, .d (kL (kR f_api_Atom)) a0.s_.Out, .d (kI .i64) a0.x_.Op, .d (kI .i64) a0.x_.N, .d (kI .i64) a0.x_.L, .d kB a0.a_.Ret, .d (kI .i64) a0.a_.V, .d (kI .i64) a0.a_.L, .d kB a0.b_.Ret, .d (kI .i64) a0.b_.V, .d (kI .i64) a0.b_.L, .d kB a0.r_.Ret, .d (kI .i64) a0.r_.V, .d (kI .i64) a0.r_.L, .d (kI .i64) a0.below_, .d (kI .i64) a0.one_.x0_, .d (kI .i64) a0.one_.x1_, .d (kI .i64) a0.one_.x2_]] [70000] (.d (tup [])) [.box 70000 92 [.d (kL kS) r.l_.Names, .d (kL (kI .u32)) r.l_.Up, .d (kI .i64) r.s_.Pc.V, .d (kI .i64) r.s_.Pc.L, .d (kL (kR f_api_Instr)) r.s_.Code, .d (kL (kR f_api_Atom)) r.s_.Mem, .d (kL (kR f_api_Slot)) r.s_.Stack, .d (kL (kR f_api_Atom)) r.s_.Out, .d (kI .i64) r.x_.Op, .d (kI .i64) r.x_.N, .d (kI .i64) r.x_.L, .d kB r.a_.Ret, .d (kI .i64) r.a_.V, .d (kI .i64) r.a_.L, .d kB r.b_.Ret, .d (kI .i64) r.b_.V, .d (kI .i64) r.b_.L, .d kB r.r_.Ret, .d (kI .i64) r.r_.V, .d (kI .i64) r.r_.L, .d (kI .i64) r.below_, .d (kI .i64) r.one_.x0_, .d (kI .i64) r.one_.x1_, .d (kI .i64) r.one_.x2_]] := step_machine_calls.ok h
theorem step_machine_calls.okP {a0 : step_machine} {n : Pn} (h : step_machine_calls.f a0 = some (.inl n)) : FnX Tryd.prog 75 [.p 70000 0] [.box 70000 92 [.d (kL kS) a0.l_.Names, .d (kL (kI .u32)) a0.l_.Up, .d (kI .i64) a0.s_.Pc.V, .d (kI .i64) a0.s_.Pc.L, .d (kL (kR f_api_Instr)) a0.s_.Code, .d (kL (kR f_api_Atom)) a0.s_.Mem, .d (kL (kR f_api_Slot)) a0.s_.Stack, .d (kL (kR f_api_Atom)) a0.s_.Out, .d (kI .i64) a0.x_.Op, .d (kI .i64) a0.x_.N, .d (kI .i64) a0.x_.L, .d kB a0.a_.Ret, .d (kI .i64) a0.a_.V, .d (kI .i64) a0.a_.L, .d kB a0.b_.Ret, .d (kI .i64) a0.b_.V, .d (kI .i64) a0.b_.L, .d kB a0.r_.Ret, .d (kI .i64) a0.r_.V, .d (kI .i64) a0.r_.L, .d (kI .i64) a0.below_, .d (kI .i64) a0.one_.x0_, .d (kI .i64) a0.one_.x1_, .d (kI .i64) a0.one_.x2_]] (pvv 86 n) := step_machine_calls.ok h

theorem step_machine_returns.ok {a0 : step_machine} {z : Pn ⊕ step_machine} (h : step_machine_returns.f a0 = some z) : FnZ Tryd.prog 76 [.p 70000 0] [.box 70000 92 [.d (kL kS) a0.l_.Names, .d (kL (kI .u32)) a0.l_.Up, .d (kI .i64) a0.s_.Pc.V, .d (kI .i64) a0.s_.Pc.L, .d (kL (kR f_api_Instr)) a0.s_.Code, .d (kL (kR f_api_Atom)) a0.s_.Mem, .d (kL (kR f_api_Slot)) a0.s_.Stack, .d (kL (kR f_api_Atom)) a0.s_.Out, .d (kI .i64) a0.x_.Op, .d (kI .i64) a0.x_.N, .d (kI .i64) a0.x_.L, .d kB a0.a_.Ret, .d (kI .i64) a0.a_.V, .d (kI .i64) a0.a_.L, .d kB a0.b_.Ret, .d (kI .i64) a0.b_.V, .d (kI .i64) a0.b_.L, .d kB a0.r_.Ret, .d (kI .i64) a0.r_.V, .d (kI .i64) a0.r_.L, .d (kI .i64) a0.below_, .d (kI .i64) a0.one_.x0_, .d (kI .i64) a0.one_.x1_, .d (kI .i64) a0.one_.x2_]] [70000] 86 (fun (r : step_machine) => .d (tup [])) (fun (r : step_machine) => [.box 70000 92 [.d (kL kS) r.l_.Names, .d (kL (kI .u32)) r.l_.Up, .d (kI .i64) r.s_.Pc.V, .d (kI .i64) r.s_.Pc.L, .d (kL (kR f_api_Instr)) r.s_.Code, .d (kL (kR f_api_Atom)) r.s_.Mem, .d (kL (kR f_api_Slot)) r.s_.Stack, .d (kL (kR f_api_Atom)) r.s_.Out, .d (kI .i64) r.x_.Op, .d (kI .i64) r.x_.N, .d (kI .i64) r.x_.L, .d kB r.a_.Ret, .d (kI .i64) r.a_.V, .d (kI .i64) r.a_.L, .d kB r.b_.Ret, .d (kI .i64) r.b_.V, .d (kI .i64) r.b_.L, .d kB r.r_.Ret, .d (kI .i64) r.r_.V, .d (kI .i64) r.r_.L, .d (kI .i64) r.below_, .d (kI .i64) r.one_.x0_, .d (kI .i64) r.one_.x1_, .d (kI .i64) r.one_.x2_]]) z := by
  refine fnIntroZ Tryd.func76 rfl (by kernel_rfl) fun X H0 w0 pv => ?_
  unfold step_machine_returns.f at h
  refine wSeq ?_
  refine rg (cp (oMv tm) (s1 rfl) <| cp (oMv tm) (s1 rfl) <| cp (oNilP tm) (s1 rfl) <| cp (oFldP o92_1 tm) (s1 rfl) <| cp (oFldP o35_3 tm) (s1 rfl) <| cr (oLdK (n := 0) (k := 6) rfl rfl (by kernel_rfl) t33 tm) (s1 rfl) <| cp (oLenL u33 tm) (s1 rfl) <| cp (oNilP tm) (s1 rfl) <| cp (oFldP o92_6 tm) (s1 rfl) <| cwn (oStK (n := 0) (k := 20) rfl rfl rfl (by kernel_rfl) z3 tm tm) (s2 rfl rfl) <| .nil) (by kernel_rfl) ?_
  refine pSeq ?_
  refine wSeq ?_
  refine wSeq ?_
  refine rg (cp (oMv tm) (s1 rfl) <| cp (oNilP tm) (s1 rfl) <| cp (oFldP o92_2 tm) (s1 rfl) <| cp (oFldP o48_1 tm) (s1 rfl) <| cr (oLdK (n := 0) (k := 9) rfl rfl (by kernel_rfl) t3 tm) (s1 rfl) <| cp (oEq rfl tm (cI (by decide))) (s1 rfl) <| .nil) (by kernel_rfl) ?_
  refine pSeq ?_
  rcases ic h with ⟨hp1, h⟩ | ⟨hp1, h⟩
  · refine wCT hp1 tm (s1 rfl) ?_
    refine wT0 ?_
    refine wTk 0 1 (cp (oMv tm) (s1 rfl) <| .nil) (by kernel_rfl) rfl ?_
    obtain ⟨z2, hz2, h⟩ := bd h
    rcases z2 with p3 | y4
    · refine wTx (Γp := []) 1 rfl (oCallX (rest := []) [(70000, 70000)] [0] [] rfl (step_machine_first.okP hz2) b70 (oE1 tm oE0) rfl rfl) rfl rfl (s1 rfl) trivial ?_
      refine pThenP ?_
      obtain rfl := so h
      exact pX
    · refine wTe 1 (cm (oCallS (rest := []) (R' := [.box 70000 92 [.d (kL kS) y4.l_.Names, .d (kL (kI .u32)) y4.l_.Up, .d (kI .i64) y4.s_.Pc.V, .d (kI .i64) y4.s_.Pc.L, .d (kL (kR f_api_Instr)) y4.s_.Code, .d (kL (kR f_api_Atom)) y4.s_.Mem, .d (kL (kR f_api_Slot)) y4.s_.Stack, .d (kL (kR f_api_Atom)) y4.s_.Out, .d (kI .i64) y4.x_.Op, .d (kI .i64) y4.x_.N, .d (kI .i64) y4.x_.L, .d kB y4.a_.Ret, .d (kI .i64) y4.a_.V, .d (kI .i64) y4.a_.L, .d kB y4.b_.Ret, .d (kI .i64) y4.b_.V, .d (kI .i64) y4.b_.L, .d kB y4.r_.Ret, .d (kI .i64) y4.r_.V, .d (kI .i64) y4.r_.L, .d (kI .i64) y4.below_, .d (kI .i64) y4.one_.x0_, .d (kI .i64) y4.one_.x1_, .d (kI .i64) y4.one_.x2_]]) (out' := .d (tup [])) [(70000, 70000)] [] [0] [] [0] rfl (step_machine_first.okR hz2) b70 (oE1 tm oE0) rfl rfl rfl rfl rfl rfl rfl rfl) (s1 rfl) <| .nil) (by kernel_rfl) ?_
      refine pSeq ?_
      obtain ⟨o1, h, hk1⟩ := bd h
      refine wJ1 (fun x18 => x18 = o1) (fun x18 => [(0, .p 70000 0)]) (fun x18 => [.box 70000 92 [.d (kL kS) y4.l_.Names, .d (kL (kI .u32)) y4.l_.Up, .d (kI .i64) y4.s_.Pc.V, .d (kI .i64) y4.s_.Pc.L, .d (kL (kR f_api_Instr)) y4.s_.Code, .d (kL (kR f_api_Atom)) y4.s_.Mem, .d (kL (kR f_api_Slot)) y4.s_.Stack, .d (kL (kR f_api_Atom)) y4.s_.Out, .d (kI .i64) y4.x_.Op, .d (kI .i64) y4.x_.N, .d (kI .i64) y4.x_.L, .d kB y4.a_.Ret, .d (kI .i64) y4.a_.V, .d (kI .i64) y4.a_.L, .d kB y4.b_.Ret, .d (kI .i64) y4.b_.V, .d (kI .i64) y4.b_.L, .d kB y4.r_.Ret, .d (kI .i64) y4.r_.V, .d (kI .i64) y4.r_.L, .d (kI .i64) x18, .d (kI .i64) y4.one_.x0_, .d (kI .i64) y4.one_.x1_, .d (kI .i64) y4.one_.x2_]]) ?_ ?_
      · refine wBlock (wLoop ?_)
        refine lW (pc1 o1 (fun v17 => [(0, .p 70000 0)]) (fun v17 => [.box 70000 92 [.d (kL kS) y4.l_.Names, .d (kL (kI .u32)) y4.l_.Up, .d (kI .i64) y4.s_.Pc.V, .d (kI .i64) y4.s_.Pc.L, .d (kL (kR f_api_Instr)) y4.s_.Code, .d (kL (kR f_api_Atom)) y4.s_.Mem, .d (kL (kR f_api_Slot)) y4.s_.Stack, .d (kL (kR f_api_Atom)) y4.s_.Out, .d (kI .i64) y4.x_.Op, .d (kI .i64) y4.x_.N, .d (kI .i64) y4.x_.L, .d kB y4.a_.Ret, .d (kI .i64) y4.a_.V, .d (kI .i64) y4.a_.L, .d kB y4.b_.Ret, .d (kI .i64) y4.b_.V, .d (kI .i64) y4.b_.L, .d kB y4.r_.Ret, .d (kI .i64) y4.r_.V, .d (kI .i64) y4.r_.L, .d (kI .i64) v17, .d (kI .i64) y4.one_.x0_, .d (kI .i64) y4.one_.x1_, .d (kI .i64) y4.one_.x2_]]) (step_machine_returns.l0.partial_correctness y4) ?_ _ h) ⟨rfl, trivial⟩ rfl
        clear h
        intro f' ih v17 h
        refine wSeq ?_
        obtain ⟨o2, h, hk2⟩ := bd h
        refine wJ1 (fun x21 => x21 = o2) (fun x21 => [(0, .p 70000 0), (39, .d (kB.sig x21))]) (fun x21 => [.box 70000 92 [.d (kL kS) y4.l_.Names, .d (kL (kI .u32)) y4.l_.Up, .d (kI .i64) y4.s_.Pc.V, .d (kI .i64) y4.s_.Pc.L, .d (kL (kR f_api_Instr)) y4.s_.Code, .d (kL (kR f_api_Atom)) y4.s_.Mem, .d (kL (kR f_api_Slot)) y4.s_.Stack, .d (kL (kR f_api_Atom)) y4.s_.Out, .d (kI .i64) y4.x_.Op, .d (kI .i64) y4.x_.N, .d (kI .i64) y4.x_.L, .d kB y4.a_.Ret, .d (kI .i64) y4.a_.V, .d (kI .i64) y4.a_.L, .d kB y4.b_.Ret, .d (kI .i64) y4.b_.V, .d (kI .i64) y4.b_.L, .d kB y4.r_.Ret, .d (kI .i64) y4.r_.V, .d (kI .i64) y4.r_.L, .d (kI .i64) v17, .d (kI .i64) y4.one_.x0_, .d (kI .i64) y4.one_.x1_, .d (kI .i64) y4.one_.x2_]]) ?_ ?_
        · rcases ic h with ⟨hp22, h⟩ | ⟨hp22, h⟩
          · obtain ⟨y23, hy23, h⟩ := bd h
            refine rgD hm (cp (oMv tm) (s1 rfl) <| cp (oNilP tm) (s1 rfl) <| cp (oFldP o92_6 tm) (s1 rfl) <| cr (oLdK (n := 0) (k := 20) rfl rfl (by kernel_rfl) t3 tm) (s1 rfl) <| cp (oGt rfl tm (cI (by decide))) (s1 rfl) <| cp (oMv tm) (s1 rfl) <| cgB (decide_eq_true hp22) rfl rfl (oMv tm) (s1 rfl) <| cgB (decide_eq_true hp22) rfl rfl (oNilP tm) (s1 rfl) <| cgB (decide_eq_true hp22) rfl rfl (oFldP o92_1 tm) (s1 rfl) <| cgB (decide_eq_true hp22) rfl rfl (oFldP o35_3 tm) (s1 rfl) <| crgB (decide_eq_true hp22) rfl rfl (oLdK (n := 0) (k := 6) rfl rfl (by kernel_rfl) t33 tm) (s1 rfl) <| cgB (decide_eq_true hp22) rfl rfl (oMv tm) (s1 rfl) <| cgB (decide_eq_true hp22) rfl rfl (oNilP tm) (s1 rfl) <| cgB (decide_eq_true hp22) rfl rfl (oFldP o92_6 tm) (s1 rfl) <| crgB (decide_eq_true hp22) rfl rfl (oLdK (n := 0) (k := 20) rfl rfl (by kernel_rfl) t3 tm) (s1 rfl) <| cgB (decide_eq_true hp22) rfl rfl (oSub tm (cI (by decide))) (s1 rfl) <| cgB (decide_eq_true hp22) rfl rfl (oIdx u33 z68 hy23 tm tm) (s2 rfl rfl) <| cgB (decide_eq_true hp22) rfl rfl (oFld (fs := f_api_Slot) (k := 0) rfl o68_0 tm) (s1 rfl) <| cgB (decide_eq_true hp22) rfl rfl (oLd t4 tm) (s1 rfl) <| cgB (decide_eq_true hp22) rfl rfl (oNot tm) (s1 rfl) <| cp (oPkT (decide_eq_true hp22) tm tm) (s2 rfl rfl) <| .nil) (by kernel_rfl) (by kernel_rfl) ?_
            exact pJ1 _ (so h) ⟨rfl, rfl, trivial⟩ rfl
          · refine rgD hm (cp (oMv tm) (s1 rfl) <| cp (oNilP tm) (s1 rfl) <| cp (oFldP o92_6 tm) (s1 rfl) <| cr (oLdK (n := 0) (k := 20) rfl rfl (by kernel_rfl) t3 tm) (s1 rfl) <| cp (oGt rfl tm (cI (by decide))) (s1 rfl) <| cp (oMv tm) (s1 rfl) <| csB (decide_eq_false hp22) rfl rfl <| csB (decide_eq_false hp22) rfl rfl <| csB (decide_eq_false hp22) rfl rfl <| csB (decide_eq_false hp22) rfl rfl <| csB (decide_eq_false hp22) rfl rfl <| csB (decide_eq_false hp22) rfl rfl <| csB (decide_eq_false hp22) rfl rfl <| csB (decide_eq_false hp22) rfl rfl <| csB (decide_eq_false hp22) rfl rfl <| csB (decide_eq_false hp22) rfl rfl <| csB (decide_eq_false hp22) rfl rfl <| csB (decide_eq_false hp22) rfl rfl <| csB (decide_eq_false hp22) rfl rfl <| csB (decide_eq_false hp22) rfl rfl <| cp (oPkF (decide_eq_false hp22) tm cB) (s1 rfl) <| .nil) (by kernel_rfl) (by kernel_rfl) ?_
            exact pJ1 _ (so h) ⟨rfl, rfl, trivial⟩ rfl
        · rintro x21 rfl
          replace h := hk2
          rcases ic h with ⟨hp24, h⟩ | ⟨hp24, h⟩
          · refine wBT hp24 tm (s1 rfl) ?_
            refine wSkip ?_
            refine pSeq ?_
            refine wBlock ?_
            refine rg (cp (oMv tm) (s1 rfl) <| cp (oNilP tm) (s1 rfl) <| cp (oFldP o92_6 tm) (s1 rfl) <| cr (oLdK (n := 0) (k := 20) rfl rfl (by kernel_rfl) t3 tm) (s1 rfl) <| cp (oSub tm (cI (by decide))) (s1 rfl) <| cp (oNilP tm) (s1 rfl) <| cp (oFldP o92_6 tm) (s1 rfl) <| cwn (oStK (n := 0) (k := 20) rfl rfl rfl (by kernel_rfl) z3 tm tm) (s2 rfl rfl) <| .nil) (by kernel_rfl) ?_
            refine pBlkN ?_
            exact pLoop (lW (ih _ h) ⟨rfl, trivial⟩ rfl)
          · refine wBF hp24 tm (s1 rfl) ?_
            refine wExit ?_
            refine pThenX ?_
            refine pThenX ?_
            refine pBlkX ?_
            exact pJ1 _ (so h) ⟨rfl, trivial⟩ rfl
      · rintro x18 rfl
        replace h := hk1
        refine wSeq ?_
        refine wT0 ?_
        refine wTk 0 5 (cp (oMv tm) (s1 rfl) <| cp (oNilP tm) (s1 rfl) <| cp (oFldP o92_6 tm) (s1 rfl) <| cr (oLdK (n := 0) (k := 20) rfl rfl (by kernel_rfl) t3 tm) (s1 rfl) <| cp (oGt rfl tm (cI (by decide))) (s1 rfl) <| .nil) (by kernel_rfl) rfl ?_
        obtain ⟨z25, hz25, h⟩ := bd h
        rcases z25 with p26 | y27
        · refine wTx (Γp := []) 5 rfl (oCallX (rest := [.box 70000 92 [.d (kL kS) y4.l_.Names, .d (kL (kI .u32)) y4.l_.Up, .d (kI .i64) y4.s_.Pc.V, .d (kI .i64) y4.s_.Pc.L, .d (kL (kR f_api_Instr)) y4.s_.Code, .d (kL (kR f_api_Atom)) y4.s_.Mem, .d (kL (kR f_api_Slot)) y4.s_.Stack, .d (kL (kR f_api_Atom)) y4.s_.Out, .d (kI .i64) y4.x_.Op, .d (kI .i64) y4.x_.N, .d (kI .i64) y4.x_.L, .d kB y4.a_.Ret, .d (kI .i64) y4.a_.V, .d (kI .i64) y4.a_.L, .d kB y4.b_.Ret, .d (kI .i64) y4.b_.V, .d (kI .i64) y4.b_.L, .d kB y4.r_.Ret, .d (kI .i64) y4.r_.V, .d (kI .i64) y4.r_.L, .d (kI .i64) x18, .d (kI .i64) y4.one_.x0_, .d (kI .i64) y4.one_.x1_, .d (kI .i64) y4.one_.x2_]]) [] [] [0] rfl (step_need.okP hz25) b45 (oE1 tm oE0) rfl rfl) rfl rfl (s1 rfl) trivial ?_
          refine pThenP ?_
          obtain rfl := so h
          exact pX
        · refine wTe 5 (cm (oCallS (rest := [.box 70000 92 [.d (kL kS) y4.l_.Names, .d (kL (kI .u32)) y4.l_.Up, .d (kI .i64) y4.s_.Pc.V, .d (kI .i64) y4.s_.Pc.L, .d (kL (kR f_api_Instr)) y4.s_.Code, .d (kL (kR f_api_Atom)) y4.s_.Mem, .d (kL (kR f_api_Slot)) y4.s_.Stack, .d (kL (kR f_api_Atom)) y4.s_.Out, .d (kI .i64) y4.x_.Op, .d (kI .i64) y4.x_.N, .d (kI .i64) y4.x_.L, .d kB y4.a_.Ret, .d (kI .i64) y4.a_.V, .d (kI .i64) y4.a_.L, .d kB y4.b_.Ret, .d (kI .i64) y4.b_.V, .d (kI .i64) y4.b_.L, .d kB y4.r_.Ret, .d (kI .i64) y4.r_.V, .d (kI .i64) y4.r_.L, .d (kI .i64) x18, .d (kI .i64) y4.one_.x0_, .d (kI .i64) y4.one_.x1_, .d (kI .i64) y4.one_.x2_]]) (R' := [.box 70000 92 [.d (kL kS) y4.l_.Names, .d (kL (kI .u32)) y4.l_.Up, .d (kI .i64) y4.s_.Pc.V, .d (kI .i64) y4.s_.Pc.L, .d (kL (kR f_api_Instr)) y4.s_.Code, .d (kL (kR f_api_Atom)) y4.s_.Mem, .d (kL (kR f_api_Slot)) y4.s_.Stack, .d (kL (kR f_api_Atom)) y4.s_.Out, .d (kI .i64) y4.x_.Op, .d (kI .i64) y4.x_.N, .d (kI .i64) y4.x_.L, .d kB y4.a_.Ret, .d (kI .i64) y4.a_.V, .d (kI .i64) y4.a_.L, .d kB y4.b_.Ret, .d (kI .i64) y4.b_.V, .d (kI .i64) y4.b_.L, .d kB y4.r_.Ret, .d (kI .i64) y4.r_.V, .d (kI .i64) y4.r_.L, .d (kI .i64) x18, .d (kI .i64) y4.one_.x0_, .d (kI .i64) y4.one_.x1_, .d (kI .i64) y4.one_.x2_]]) (out' := .d (tup [])) [] [] [] [0] [0] rfl (step_need.okR hz25) b45 (oE1 tm oE0) rfl rfl rfl rfl rfl rfl rfl rfl) (s1 rfl) <| .nil) (by kernel_rfl) ?_
          refine pSeq ?_
          refine wSeq ?_
          refine rg (cp (oMv tm) (s1 rfl) <| cp (oNilP tm) (s1 rfl) <| cp (oFldP o92_6 tm) (s1 rfl) <| cr (oLdK (n := 0) (k := 20) rfl rfl (by kernel_rfl) t3 tm) (s1 rfl) <| cp (oSub tm (cI (by decide))) (s1 rfl) <| cp (oNilP tm) (s1 rfl) <| cp (oFldP o92_6 tm) (s1 rfl) <| cwn (oStK (n := 0) (k := 20) rfl rfl rfl (by kernel_rfl) z3 tm tm) (s2 rfl rfl) <| .nil) (by kernel_rfl) ?_
          refine pSeq ?_
          refine wSeq ?_
          obtain ⟨y28, hy28, h⟩ := bd h
          refine rgD hm (cp (oMv tm) (s1 rfl) <| cp (oMv tm) (s1 rfl) <| cp (oNilP tm) (s1 rfl) <| cp (oFldP o92_1 tm) (s1 rfl) <| cp (oFldP o35_3 tm) (s1 rfl) <| cr (oLdK (n := 0) (k := 6) rfl rfl (by kernel_rfl) t33 tm) (s1 rfl) <| cp (oMv tm) (s1 rfl) <| cp (oNilP tm) (s1 rfl) <| cp (oFldP o92_6 tm) (s1 rfl) <| cr (oLdK (n := 0) (k := 20) rfl rfl (by kernel_rfl) t3 tm) (s1 rfl) <| cp (oIdx u33 z68 hy28 tm tm) (s2 rfl rfl) <| cp (oLd t68 tm) (s1 rfl) <| cp (oNilP tm) (s1 rfl) <| cp (oFldP o92_5 tm) (s1 rfl) <| cwn (oStPK (n := 0) (k := 17) (m := 3) (d := (kR f_api_Slot)) (u := y28) (lfS (lfC lf1 (lfC lf1 (lfC lf1 lfN)))) rfl rfl (by kernel_rfl) z68 tm tm) (s2 rfl rfl) <| .nil) (by kernel_rfl) (by kernel_rfl) ?_
          refine pSeq ?_
          refine rgD hm (cp (oMv tm) (s1 rfl) <| cp (oMv tm) (s1 rfl) <| cp (oNilP tm) (s1 rfl) <| cp (oFldP o92_5 tm) (s1 rfl) <| cp (oFldP o68_2 tm) (s1 rfl) <| cr (oLdK (n := 0) (k := 19) rfl rfl (by kernel_rfl) t3 tm) (s1 rfl) <| cp (oNilP tm) (s1 rfl) <| cp (oFldP o92_7 tm) (s1 rfl) <| cp (oIdxA 1 1 rfl u90 z3 rfl tm (cI (by decide))) (s1 rfl) <| cwn (oStK (n := 0) (k := 22) rfl rfl rfl (by kernel_rfl) z3 tm tm) (s2 rfl rfl) <| .nil) (by kernel_rfl) (by kernel_rfl) ?_
          obtain rfl := so h
          refine pZ ?_
          exact pSn [0] rfl rfl (.inr rfl) rfl rfl (.nil)
  · refine wCF hp1 tm (s1 rfl) ?_
    refine wSkip ?_
    refine pSeq ?_
    obtain ⟨o1, h, hk1⟩ := bd h
    refine wJ1 (fun x42 => x42 = o1) (fun x42 => [(0, .p 70000 0)]) (fun x42 => [.box 70000 92 [.d (kL kS) a0.l_.Names, .d (kL (kI .u32)) a0.l_.Up, .d (kI .i64) a0.s_.Pc.V, .d (kI .i64) a0.s_.Pc.L, .d (kL (kR f_api_Instr)) a0.s_.Code, .d (kL (kR f_api_Atom)) a0.s_.Mem, .d (kL (kR f_api_Slot)) a0.s_.Stack, .d (kL (kR f_api_Atom)) a0.s_.Out, .d (kI .i64) a0.x_.Op, .d (kI .i64) a0.x_.N, .d (kI .i64) a0.x_.L, .d kB a0.a_.Ret, .d (kI .i64) a0.a_.V, .d (kI .i64) a0.a_.L, .d kB a0.b_.Ret, .d (kI .i64) a0.b_.V, .d (kI .i64) a0.b_.L, .d kB a0.r_.Ret, .d (kI .i64) a0.r_.V, .d (kI .i64) a0.r_.L, .d (kI .i64) x42, .d (kI .i64) a0.one_.x0_, .d (kI .i64) a0.one_.x1_, .d (kI .i64) a0.one_.x2_]]) ?_ ?_
    · refine wBlock (wLoop ?_)
      refine lW (pc1 o1 (fun v41 => [(0, .p 70000 0)]) (fun v41 => [.box 70000 92 [.d (kL kS) a0.l_.Names, .d (kL (kI .u32)) a0.l_.Up, .d (kI .i64) a0.s_.Pc.V, .d (kI .i64) a0.s_.Pc.L, .d (kL (kR f_api_Instr)) a0.s_.Code, .d (kL (kR f_api_Atom)) a0.s_.Mem, .d (kL (kR f_api_Slot)) a0.s_.Stack, .d (kL (kR f_api_Atom)) a0.s_.Out, .d (kI .i64) a0.x_.Op, .d (kI .i64) a0.x_.N, .d (kI .i64) a0.x_.L, .d kB a0.a_.Ret, .d (kI .i64) a0.a_.V, .d (kI .i64) a0.a_.L, .d kB a0.b_.Ret, .d (kI .i64) a0.b_.V, .d (kI .i64) a0.b_.L, .d kB a0.r_.Ret, .d (kI .i64) a0.r_.V, .d (kI .i64) a0.r_.L, .d (kI .i64) v41, .d (kI .i64) a0.one_.x0_, .d (kI .i64) a0.one_.x1_, .d (kI .i64) a0.one_.x2_]]) (step_machine_returns.l1.partial_correctness a0) ?_ _ h) ⟨rfl, trivial⟩ rfl
      clear h
      intro f' ih v41 h
      refine wSeq ?_
      obtain ⟨o2, h, hk2⟩ := bd h
      refine wJ1 (fun x45 => x45 = o2) (fun x45 => [(0, .p 70000 0), (39, .d (kB.sig x45))]) (fun x45 => [.box 70000 92 [.d (kL kS) a0.l_.Names, .d (kL (kI .u32)) a0.l_.Up, .d (kI .i64) a0.s_.Pc.V, .d (kI .i64) a0.s_.Pc.L, .d (kL (kR f_api_Instr)) a0.s_.Code, .d (kL (kR f_api_Atom)) a0.s_.Mem, .d (kL (kR f_api_Slot)) a0.s_.Stack, .d (kL (kR f_api_Atom)) a0.s_.Out, .d (kI .i64) a0.x_.Op, .d (kI .i64) a0.x_.N, .d (kI .i64) a0.x_.L, .d kB a0.a_.Ret, .d (kI .i64) a0.a_.V, .d (kI .i64) a0.a_.L, .d kB a0.b_.Ret, .d (kI .i64) a0.b_.V, .d (kI .i64) a0.b_.L, .d kB a0.r_.Ret, .d (kI .i64) a0.r_.V, .d (kI .i64) a0.r_.L, .d (kI .i64) v41, .d (kI .i64) a0.one_.x0_, .d (kI .i64) a0.one_.x1_, .d (kI .i64) a0.one_.x2_]]) ?_ ?_
      · rcases ic h with ⟨hp46, h⟩ | ⟨hp46, h⟩
        · obtain ⟨y47, hy47, h⟩ := bd h
          refine rgD hm (cp (oMv tm) (s1 rfl) <| cp (oNilP tm) (s1 rfl) <| cp (oFldP o92_6 tm) (s1 rfl) <| cr (oLdK (n := 0) (k := 20) rfl rfl (by kernel_rfl) t3 tm) (s1 rfl) <| cp (oGt rfl tm (cI (by decide))) (s1 rfl) <| cp (oMv tm) (s1 rfl) <| cgB (decide_eq_true hp46) rfl rfl (oMv tm) (s1 rfl) <| cgB (decide_eq_true hp46) rfl rfl (oNilP tm) (s1 rfl) <| cgB (decide_eq_true hp46) rfl rfl (oFldP o92_1 tm) (s1 rfl) <| cgB (decide_eq_true hp46) rfl rfl (oFldP o35_3 tm) (s1 rfl) <| crgB (decide_eq_true hp46) rfl rfl (oLdK (n := 0) (k := 6) rfl rfl (by kernel_rfl) t33 tm) (s1 rfl) <| cgB (decide_eq_true hp46) rfl rfl (oMv tm) (s1 rfl) <| cgB (decide_eq_true hp46) rfl rfl (oNilP tm) (s1 rfl) <| cgB (decide_eq_true hp46) rfl rfl (oFldP o92_6 tm) (s1 rfl) <| crgB (decide_eq_true hp46) rfl rfl (oLdK (n := 0) (k := 20) rfl rfl (by kernel_rfl) t3 tm) (s1 rfl) <| cgB (decide_eq_true hp46) rfl rfl (oSub tm (cI (by decide))) (s1 rfl) <| cgB (decide_eq_true hp46) rfl rfl (oIdx u33 z68 hy47 tm tm) (s2 rfl rfl) <| cgB (decide_eq_true hp46) rfl rfl (oFld (fs := f_api_Slot) (k := 0) rfl o68_0 tm) (s1 rfl) <| cgB (decide_eq_true hp46) rfl rfl (oLd t4 tm) (s1 rfl) <| cgB (decide_eq_true hp46) rfl rfl (oNot tm) (s1 rfl) <| cp (oPkT (decide_eq_true hp46) tm tm) (s2 rfl rfl) <| .nil) (by kernel_rfl) (by kernel_rfl) ?_
          exact pJ1 _ (so h) ⟨rfl, rfl, trivial⟩ rfl
        · refine rgD hm (cp (oMv tm) (s1 rfl) <| cp (oNilP tm) (s1 rfl) <| cp (oFldP o92_6 tm) (s1 rfl) <| cr (oLdK (n := 0) (k := 20) rfl rfl (by kernel_rfl) t3 tm) (s1 rfl) <| cp (oGt rfl tm (cI (by decide))) (s1 rfl) <| cp (oMv tm) (s1 rfl) <| csB (decide_eq_false hp46) rfl rfl <| csB (decide_eq_false hp46) rfl rfl <| csB (decide_eq_false hp46) rfl rfl <| csB (decide_eq_false hp46) rfl rfl <| csB (decide_eq_false hp46) rfl rfl <| csB (decide_eq_false hp46) rfl rfl <| csB (decide_eq_false hp46) rfl rfl <| csB (decide_eq_false hp46) rfl rfl <| csB (decide_eq_false hp46) rfl rfl <| csB (decide_eq_false hp46) rfl rfl <| csB (decide_eq_false hp46) rfl rfl <| csB (decide_eq_false hp46) rfl rfl <| csB (decide_eq_false hp46) rfl rfl <| csB (decide_eq_false hp46) rfl rfl <| cp (oPkF (decide_eq_false hp46) tm cB) (s1 rfl) <| .nil) (by kernel_rfl) (by kernel_rfl) ?_
          exact pJ1 _ (so h) ⟨rfl, rfl, trivial⟩ rfl
      · rintro x45 rfl
        replace h := hk2
        rcases ic h with ⟨hp48, h⟩ | ⟨hp48, h⟩
        · refine wBT hp48 tm (s1 rfl) ?_
          refine wSkip ?_
          refine pSeq ?_
          refine wBlock ?_
          refine rg (cp (oMv tm) (s1 rfl) <| cp (oNilP tm) (s1 rfl) <| cp (oFldP o92_6 tm) (s1 rfl) <| cr (oLdK (n := 0) (k := 20) rfl rfl (by kernel_rfl) t3 tm) (s1 rfl) <| cp (oSub tm (cI (by decide))) (s1 rfl) <| cp (oNilP tm) (s1 rfl) <| cp (oFldP o92_6 tm) (s1 rfl) <| cwn (oStK (n := 0) (k := 20) rfl rfl rfl (by kernel_rfl) z3 tm tm) (s2 rfl rfl) <| .nil) (by kernel_rfl) ?_
          refine pBlkN ?_
          exact pLoop (lW (ih _ h) ⟨rfl, trivial⟩ rfl)
        · refine wBF hp48 tm (s1 rfl) ?_
          refine wExit ?_
          refine pThenX ?_
          refine pThenX ?_
          refine pBlkX ?_
          exact pJ1 _ (so h) ⟨rfl, trivial⟩ rfl
    · rintro x42 rfl
      replace h := hk1
      refine wSeq ?_
      refine wT0 ?_
      refine wTk 0 5 (cp (oMv tm) (s1 rfl) <| cp (oNilP tm) (s1 rfl) <| cp (oFldP o92_6 tm) (s1 rfl) <| cr (oLdK (n := 0) (k := 20) rfl rfl (by kernel_rfl) t3 tm) (s1 rfl) <| cp (oGt rfl tm (cI (by decide))) (s1 rfl) <| .nil) (by kernel_rfl) rfl ?_
      obtain ⟨z49, hz49, h⟩ := bd h
      rcases z49 with p50 | y51
      · refine wTx (Γp := []) 5 rfl (oCallX (rest := [.box 70000 92 [.d (kL kS) a0.l_.Names, .d (kL (kI .u32)) a0.l_.Up, .d (kI .i64) a0.s_.Pc.V, .d (kI .i64) a0.s_.Pc.L, .d (kL (kR f_api_Instr)) a0.s_.Code, .d (kL (kR f_api_Atom)) a0.s_.Mem, .d (kL (kR f_api_Slot)) a0.s_.Stack, .d (kL (kR f_api_Atom)) a0.s_.Out, .d (kI .i64) a0.x_.Op, .d (kI .i64) a0.x_.N, .d (kI .i64) a0.x_.L, .d kB a0.a_.Ret, .d (kI .i64) a0.a_.V, .d (kI .i64) a0.a_.L, .d kB a0.b_.Ret, .d (kI .i64) a0.b_.V, .d (kI .i64) a0.b_.L, .d kB a0.r_.Ret, .d (kI .i64) a0.r_.V, .d (kI .i64) a0.r_.L, .d (kI .i64) x42, .d (kI .i64) a0.one_.x0_, .d (kI .i64) a0.one_.x1_, .d (kI .i64) a0.one_.x2_]]) [] [] [0] rfl (step_need.okP hz49) b45 (oE1 tm oE0) rfl rfl) rfl rfl (s1 rfl) trivial ?_
        refine pThenP ?_
        obtain rfl := so h
        exact pX
      · refine wTe 5 (cm (oCallS (rest := [.box 70000 92 [.d (kL kS) a0.l_.Names, .d (kL (kI .u32)) a0.l_.Up, .d (kI .i64) a0.s_.Pc.V, .d (kI .i64) a0.s_.Pc.L, .d (kL (kR f_api_Instr)) a0.s_.Code, .d (kL (kR f_api_Atom)) a0.s_.Mem, .d (kL (kR f_api_Slot)) a0.s_.Stack, .d (kL (kR f_api_Atom)) a0.s_.Out, .d (kI .i64) a0.x_.Op, .d (kI .i64) a0.x_.N, .d (kI .i64) a0.x_.L, .d kB a0.a_.Ret, .d (kI .i64) a0.a_.V, .d (kI .i64) a0.a_.L, .d kB a0.b_.Ret, .d (kI .i64) a0.b_.V, .d (kI .i64) a0.b_.L, .d kB a0.r_.Ret, .d (kI .i64) a0.r_.V, .d (kI .i64) a0.r_.L, .d (kI .i64) x42, .d (kI .i64) a0.one_.x0_, .d (kI .i64) a0.one_.x1_, .d (kI .i64) a0.one_.x2_]]) (R' := [.box 70000 92 [.d (kL kS) a0.l_.Names, .d (kL (kI .u32)) a0.l_.Up, .d (kI .i64) a0.s_.Pc.V, .d (kI .i64) a0.s_.Pc.L, .d (kL (kR f_api_Instr)) a0.s_.Code, .d (kL (kR f_api_Atom)) a0.s_.Mem, .d (kL (kR f_api_Slot)) a0.s_.Stack, .d (kL (kR f_api_Atom)) a0.s_.Out, .d (kI .i64) a0.x_.Op, .d (kI .i64) a0.x_.N, .d (kI .i64) a0.x_.L, .d kB a0.a_.Ret, .d (kI .i64) a0.a_.V, .d (kI .i64) a0.a_.L, .d kB a0.b_.Ret, .d (kI .i64) a0.b_.V, .d (kI .i64) a0.b_.L, .d kB a0.r_.Ret, .d (kI .i64) a0.r_.V, .d (kI .i64) a0.r_.L, .d (kI .i64) x42, .d (kI .i64) a0.one_.x0_, .d (kI .i64) a0.one_.x1_, .d (kI .i64) a0.one_.x2_]]) (out' := .d (tup [])) [] [] [] [0] [0] rfl (step_need.okR hz49) b45 (oE1 tm oE0) rfl rfl rfl rfl rfl rfl rfl rfl) (s1 rfl) <| .nil) (by kernel_rfl) ?_
        refine pSeq ?_
        refine wSeq ?_
        refine rg (cp (oMv tm) (s1 rfl) <| cp (oNilP tm) (s1 rfl) <| cp (oFldP o92_6 tm) (s1 rfl) <| cr (oLdK (n := 0) (k := 20) rfl rfl (by kernel_rfl) t3 tm) (s1 rfl) <| cp (oSub tm (cI (by decide))) (s1 rfl) <| cp (oNilP tm) (s1 rfl) <| cp (oFldP o92_6 tm) (s1 rfl) <| cwn (oStK (n := 0) (k := 20) rfl rfl rfl (by kernel_rfl) z3 tm tm) (s2 rfl rfl) <| .nil) (by kernel_rfl) ?_
        refine pSeq ?_
        refine wSeq ?_
        obtain ⟨y52, hy52, h⟩ := bd h
        refine rgD hm (cp (oMv tm) (s1 rfl) <| cp (oMv tm) (s1 rfl) <| cp (oNilP tm) (s1 rfl) <| cp (oFldP o92_1 tm) (s1 rfl) <| cp (oFldP o35_3 tm) (s1 rfl) <| cr (oLdK (n := 0) (k := 6) rfl rfl (by kernel_rfl) t33 tm) (s1 rfl) <| cp (oMv tm) (s1 rfl) <| cp (oNilP tm) (s1 rfl) <| cp (oFldP o92_6 tm) (s1 rfl) <| cr (oLdK (n := 0) (k := 20) rfl rfl (by kernel_rfl) t3 tm) (s1 rfl) <| cp (oIdx u33 z68 hy52 tm tm) (s2 rfl rfl) <| cp (oLd t68 tm) (s1 rfl) <| cp (oNilP tm) (s1 rfl) <| cp (oFldP o92_5 tm) (s1 rfl) <| cwn (oStPK (n := 0) (k := 17) (m := 3) (d := (kR f_api_Slot)) (u := y52) (lfS (lfC lf1 (lfC lf1 (lfC lf1 lfN)))) rfl rfl (by kernel_rfl) z68 tm tm) (s2 rfl rfl) <| .nil) (by kernel_rfl) (by kernel_rfl) ?_
        refine pSeq ?_
        refine rgD hm (cp (oMv tm) (s1 rfl) <| cp (oMv tm) (s1 rfl) <| cp (oNilP tm) (s1 rfl) <| cp (oFldP o92_5 tm) (s1 rfl) <| cp (oFldP o68_2 tm) (s1 rfl) <| cr (oLdK (n := 0) (k := 19) rfl rfl (by kernel_rfl) t3 tm) (s1 rfl) <| cp (oNilP tm) (s1 rfl) <| cp (oFldP o92_7 tm) (s1 rfl) <| cp (oIdxA 1 1 rfl u90 z3 rfl tm (cI (by decide))) (s1 rfl) <| cwn (oStK (n := 0) (k := 22) rfl rfl rfl (by kernel_rfl) z3 tm tm) (s2 rfl rfl) <| .nil) (by kernel_rfl) (by kernel_rfl) ?_
        obtain rfl := so h
        refine pZ ?_
        exact pSn [0] rfl rfl (.inr rfl) rfl rfl (.nil)
theorem step_machine_returns.okR {a0 : step_machine} {r : step_machine} (h : step_machine_returns.f a0 = some (.inr r)) : FnS Tryd.prog 76 [.p 70000 0] [.box 70000 92 [.d (kL kS) a0.l_.Names, .d (kL (kI .u32)) a0.l_.Up, .d (kI .i64) a0.s_.Pc.V, .d (kI .i64) a0.s_.Pc.L, .d (kL (kR f_api_Instr)) a0.s_.Code, .d (kL (kR f_api_Atom)) a0.s_.Mem, .d (kL (kR f_api_Slot)) a0.s_.Stack, .d (kL (kR f_api_Atom)) a0.s_.Out, .d (kI .i64) a0.x_.Op, .d (kI .i64) a0.x_.N, .d (kI .i64) a0.x_.L, .d kB a0.a_.Ret, .d (kI .i64) a0.a_.V, .d (kI .i64) a0.a_.L, .d kB a0.b_.Ret, .d (kI .i64) a0.b_.V, .d (kI .i64) a0.b_.L, .d kB a0.r_.Ret, .d (kI .i64) a0.r_.V, .d (kI .i64) a0.r_.L, .d (kI .i64) a0.below_, .d (kI .i64) a0.one_.x0_, .d (kI .i64) a0.one_.x1_, .d (kI .i64) a0.one_.x2_]] [70000] (.d (tup [])) [.box 70000 92 [.d (kL kS) r.l_.Names, .d (kL (kI .u32)) r.l_.Up, .d (kI .i64) r.s_.Pc.V, .d (kI .i64) r.s_.Pc.L, .d (kL (kR f_api_Instr)) r.s_.Code, .d (kL (kR f_api_Atom)) r.s_.Mem, .d (kL (kR f_api_Slot)) r.s_.Stack, .d (kL (kR f_api_Atom)) r.s_.Out, .d (kI .i64) r.x_.Op, .d (kI .i64) r.x_.N, .d (kI .i64) r.x_.L, .d kB r.a_.Ret, .d (kI .i64) r.a_.V, .d (kI .i64) r.a_.L, .d kB r.b_.Ret, .d (kI .i64) r.b_.V, .d (kI .i64) r.b_.L, .d kB r.r_.Ret, .d (kI .i64) r.r_.V, .d (kI .i64) r.r_.L, .d (kI .i64) r.below_, .d (kI .i64) r.one_.x0_, .d (kI .i64) r.one_.x1_, .d (kI .i64) r.one_.x2_]] := step_machine_returns.ok h
theorem step_machine_returns.okP {a0 : step_machine} {n : Pn} (h : step_machine_returns.f a0 = some (.inl n)) : FnX Tryd.prog 76 [.p 70000 0] [.box 70000 92 [.d (kL kS) a0.l_.Names, .d (kL (kI .u32)) a0.l_.Up, .d (kI .i64) a0.s_.Pc.V, .d (kI .i64) a0.s_.Pc.L, .d (kL (kR f_api_Instr)) a0.s_.Code, .d (kL (kR f_api_Atom)) a0.s_.Mem, .d (kL (kR f_api_Slot)) a0.s_.Stack, .d (kL (kR f_api_Atom)) a0.s_.Out, .d (kI .i64) a0.x_.Op, .d (kI .i64) a0.x_.N, .d (kI .i64) a0.x_.L, .d kB a0.a_.Ret, .d (kI .i64) a0.a_.V, .d (kI .i64) a0.a_.L, .d kB a0.b_.Ret, .d (kI .i64) a0.b_.V, .d (kI .i64) a0.b_.L, .d kB a0.r_.Ret, .d (kI .i64) a0.r_.V, .d (kI .i64) a0.r_.L, .d (kI .i64) a0.below_, .d (kI .i64) a0.one_.x0_, .d (kI .i64) a0.one_.x1_, .d (kI .i64) a0.one_.x2_]] (pvv 86 n) := step_machine_returns.ok h

theorem step_machine_needs.ok {a0 : step_machine} {z : Pn ⊕ step_machine} (h : step_machine_needs.f a0 = some z) : FnZ Tryd.prog 47 [.p 70000 0] [.box 70000 92 [.d (kL kS) a0.l_.Names, .d (kL (kI .u32)) a0.l_.Up, .d (kI .i64) a0.s_.Pc.V, .d (kI .i64) a0.s_.Pc.L, .d (kL (kR f_api_Instr)) a0.s_.Code, .d (kL (kR f_api_Atom)) a0.s_.Mem, .d (kL (kR f_api_Slot)) a0.s_.Stack, .d (kL (kR f_api_Atom)) a0.s_.Out, .d (kI .i64) a0.x_.Op, .d (kI .i64) a0.x_.N, .d (kI .i64) a0.x_.L, .d kB a0.a_.Ret, .d (kI .i64) a0.a_.V, .d (kI .i64) a0.a_.L, .d kB a0.b_.Ret, .d (kI .i64) a0.b_.V, .d (kI .i64) a0.b_.L, .d kB a0.r_.Ret, .d (kI .i64) a0.r_.V, .d (kI .i64) a0.r_.L, .d (kI .i64) a0.below_, .d (kI .i64) a0.one_.x0_, .d (kI .i64) a0.one_.x1_, .d (kI .i64) a0.one_.x2_]] [70000] 86 (fun (r : step_machine) => .d (tup [])) (fun (r : step_machine) => [.box 70000 92 [.d (kL kS) r.l_.Names, .d (kL (kI .u32)) r.l_.Up, .d (kI .i64) r.s_.Pc.V, .d (kI .i64) r.s_.Pc.L, .d (kL (kR f_api_Instr)) r.s_.Code, .d (kL (kR f_api_Atom)) r.s_.Mem, .d (kL (kR f_api_Slot)) r.s_.Stack, .d (kL (kR f_api_Atom)) r.s_.Out, .d (kI .i64) r.x_.Op, .d (kI .i64) r.x_.N, .d (kI .i64) r.x_.L, .d kB r.a_.Ret, .d (kI .i64) r.a_.V, .d (kI .i64) r.a_.L, .d kB r.b_.Ret, .d (kI .i64) r.b_.V, .d (kI .i64) r.b_.L, .d kB r.r_.Ret, .d (kI .i64) r.r_.V, .d (kI .i64) r.r_.L, .d (kI .i64) r.below_, .d (kI .i64) r.one_.x0_, .d (kI .i64) r.one_.x1_, .d (kI .i64) r.one_.x2_]]) z := by
  refine fnIntroZ Tryd.func47 rfl (by kernel_rfl) fun X H0 w0 pv => ?_
  unfold step_machine_needs.f at h
  refine wSeq ?_
  refine rg (cp (oMv tm) (s1 rfl) <| cp (oMv tm) (s1 rfl) <| cp (oNilP tm) (s1 rfl) <| cp (oFldP o92_1 tm) (s1 rfl) <| cp (oFldP o35_3 tm) (s1 rfl) <| cr (oLdK (n := 0) (k := 6) rfl rfl (by kernel_rfl) t33 tm) (s1 rfl) <| cp (oLenL u33 tm) (s1 rfl) <| cp (oNilP tm) (s1 rfl) <| cp (oFldP o92_6 tm) (s1 rfl) <| cwn (oStK (n := 0) (k := 20) rfl rfl rfl (by kernel_rfl) z3 tm tm) (s2 rfl rfl) <| .nil) (by kernel_rfl) ?_
  refine pSeq ?_
  refine wPtr (n := 0) 0 rfl rfl (fun b0 => ?_)
  refine wT0 ?_
  refine wTk 0 47 (cw (oMkMap (id := 11) (dk := (kI .i64)) (dv := kV)) trivial <| cp (oMv tm) (s1 rfl) <| cp (oMkBV tm) (s1 rfl) <| cwn (oInsert (n := 0) (dk := (kI .i64)) (dv := kV) rfl u114 mk3 rfl rfl tm (cI (by decide)) tm) (s2 rfl rfl) <| cp (oMv tm) (s1 rfl) <| cp (oMkBV tm) (s1 rfl) <| cwn (oInsert (n := 0) (dk := (kI .i64)) (dv := kV) rfl u114 mk3 rfl rfl tm (cI (by decide)) tm) (s2 rfl rfl) <| cp (oMv tm) (s1 rfl) <| cp (oMkBV tm) (s1 rfl) <| cwn (oInsert (n := 0) (dk := (kI .i64)) (dv := kV) rfl u114 mk3 rfl rfl tm (cI (by decide)) tm) (s2 rfl rfl) <| cp (oMv tm) (s1 rfl) <| cp (oMkBV tm) (s1 rfl) <| cwn (oInsert (n := 0) (dk := (kI .i64)) (dv := kV) rfl u114 mk3 rfl rfl tm (cI (by decide)) tm) (s2 rfl rfl) <| cp (oMv tm) (s1 rfl) <| cp (oMkBV tm) (s1 rfl) <| cwn (oInsert (n := 0) (dk := (kI .i64)) (dv := kV) rfl u114 mk3 rfl rfl tm (cI (by decide)) tm) (s2 rfl rfl) <| cp (oMv tm) (s1 rfl) <| cp (oMkBV tm) (s1 rfl) <| cwn (oInsert (n := 0) (dk := (kI .i64)) (dv := kV) rfl u114 mk3 rfl rfl tm (cI (by decide)) tm) (s2 rfl rfl) <| cp (oMv tm) (s1 rfl) <| cp (oMkBV tm) (s1 rfl) <| cwn (oInsert (n := 0) (dk := (kI .i64)) (dv := kV) rfl u114 mk3 rfl rfl tm (cI (by decide)) tm) (s2 rfl rfl) <| cp (oMv tm) (s1 rfl) <| cp (oMkBV tm) (s1 rfl) <| cwn (oInsert (n := 0) (dk := (kI .i64)) (dv := kV) rfl u114 mk3 rfl rfl tm (cI (by decide)) tm) (s2 rfl rfl) <| cp (oMv tm) (s1 rfl) <| cp (oMkBV tm) (s1 rfl) <| cwn (oInsert (n := 0) (dk := (kI .i64)) (dv := kV) rfl u114 mk3 rfl rfl tm (cI (by decide)) tm) (s2 rfl rfl) <| cp (oMv tm) (s1 rfl) <| cp (oMkBV tm) (s1 rfl) <| cwn (oInsert (n := 0) (dk := (kI .i64)) (dv := kV) rfl u114 mk3 rfl rfl tm (cI (by decide)) tm) (s2 rfl rfl) <| cp (oMv tm) (s1 rfl) <| cp (oMkBV tm) (s1 rfl) <| cwn (oInsert (n := 0) (dk := (kI .i64)) (dv := kV) rfl u114 mk3 rfl rfl tm (cI (by decide)) tm) (s2 rfl rfl) <| cp (oMv tm) (s1 rfl) <| cp (oMkBV tm) (s1 rfl) <| cwn (oInsert (n := 0) (dk := (kI .i64)) (dv := kV) rfl u114 mk3 rfl rfl tm (cI (by decide)) tm) (s2 rfl rfl) <| cp (oMv tm) (s1 rfl) <| cp (oMkBV tm) (s1 rfl) <| cwn (oInsert (n := 0) (dk := (kI .i64)) (dv := kV) rfl u114 mk3 rfl rfl tm (cI (by decide)) tm) (s2 rfl rfl) <| cp (oMv tm) (s1 rfl) <| cp (oMv tm) (s1 rfl) <| cp (oNilP tmP) (s1 rfl) <| cp (oFldP o92_2 tm) (s1 rfl) <| cp (oFldP o48_0 tm) (s1 rfl) <| cr (oLdK (n := 1) (k := 8) rfl rfl (by kernel_rfl) t3 tm) (s1 rfl) <| cr (oLookR (n := 0) rfl u114 mk3 zv1 (fun H => ⟨rfl, rfl⟩) rfl tm tm) (s2 rfl rfl) <| .nil) (by kernel_rfl) rfl ?_
  rcases ic h with ⟨hp1, h⟩ | ⟨hp1, h⟩
  · obtain ⟨y2, hy2, h⟩ := bd h
    refine wTe 47 (cm (oCallBV (kn := 70000) (rest := [.abs 11 (aMap (kI .i64) kV) [(0, bmV 68 b0), (12, bmV 68 b0), (1, bmV 69 b0), (2, bmV 70 b0), (11, bmV 70 b0), (3, bmV 71 b0), (4, bmV 71 b0), (5, bmV 72 b0), (6, bmV 73 b0), (7, bmV 74 b0), (8, bmV 70 b0), (9, bmV 75 b0), (10, bmV 76 b0)]]) (R' := [.abs 11 (aMap (kI .i64) kV) [(0, bmV 68 b0), (12, bmV 68 b0), (1, bmV 69 b0), (2, bmV 70 b0), (11, bmV 70 b0), (3, bmV 71 b0), (4, bmV 71 b0), (5, bmV 72 b0), (6, bmV 73 b0), (7, bmV 74 b0), (8, bmV 70 b0), (9, bmV 75 b0), (10, bmV 76 b0)], .box 70000 92 [.d (kL kS) y2.l_.Names, .d (kL (kI .u32)) y2.l_.Up, .d (kI .i64) y2.s_.Pc.V, .d (kI .i64) y2.s_.Pc.L, .d (kL (kR f_api_Instr)) y2.s_.Code, .d (kL (kR f_api_Atom)) y2.s_.Mem, .d (kL (kR f_api_Slot)) y2.s_.Stack, .d (kL (kR f_api_Atom)) y2.s_.Out, .d (kI .i64) y2.x_.Op, .d (kI .i64) y2.x_.N, .d (kI .i64) y2.x_.L, .d kB y2.a_.Ret, .d (kI .i64) y2.a_.V, .d (kI .i64) y2.a_.L, .d kB y2.b_.Ret, .d (kI .i64) y2.b_.V, .d (kI .i64) y2.b_.L, .d kB y2.r_.Ret, .d (kI .i64) y2.r_.V, .d (kI .i64) y2.r_.L, .d (kI .i64) y2.below_, .d (kI .i64) y2.one_.x0_, .d (kI .i64) y2.one_.x1_, .d (kI .i64) y2.one_.x2_]]) (out' := .d (tup [])) [(70000, 70000)] [] [1] [0] [1, 0] (by rw [hp1]; rfl) tm (tm (t := 0)) (step_machine_nothing.ok hy2) rfl b68 rfl rfl rfl rfl rfl rfl rfl rfl) (s2 rfl rfl) <| .nil) (by kernel_rfl) ?_
    obtain rfl := so h
    refine pZ ?_
    exact pSn [1] rfl rfl (.inr rfl) rfl rfl (.nil)
  · rcases ic h with ⟨hp3, h⟩ | ⟨hp3, h⟩
    · obtain ⟨y4, hy4, h⟩ := bd h
      refine wTe 47 (cm (oCallBV (kn := 70000) (rest := [.abs 11 (aMap (kI .i64) kV) [(0, bmV 68 b0), (12, bmV 68 b0), (1, bmV 69 b0), (2, bmV 70 b0), (11, bmV 70 b0), (3, bmV 71 b0), (4, bmV 71 b0), (5, bmV 72 b0), (6, bmV 73 b0), (7, bmV 74 b0), (8, bmV 70 b0), (9, bmV 75 b0), (10, bmV 76 b0)]]) (R' := [.abs 11 (aMap (kI .i64) kV) [(0, bmV 68 b0), (12, bmV 68 b0), (1, bmV 69 b0), (2, bmV 70 b0), (11, bmV 70 b0), (3, bmV 71 b0), (4, bmV 71 b0), (5, bmV 72 b0), (6, bmV 73 b0), (7, bmV 74 b0), (8, bmV 70 b0), (9, bmV 75 b0), (10, bmV 76 b0)], .box 70000 92 [.d (kL kS) y4.l_.Names, .d (kL (kI .u32)) y4.l_.Up, .d (kI .i64) y4.s_.Pc.V, .d (kI .i64) y4.s_.Pc.L, .d (kL (kR f_api_Instr)) y4.s_.Code, .d (kL (kR f_api_Atom)) y4.s_.Mem, .d (kL (kR f_api_Slot)) y4.s_.Stack, .d (kL (kR f_api_Atom)) y4.s_.Out, .d (kI .i64) y4.x_.Op, .d (kI .i64) y4.x_.N, .d (kI .i64) y4.x_.L, .d kB y4.a_.Ret, .d (kI .i64) y4.a_.V, .d (kI .i64) y4.a_.L, .d kB y4.b_.Ret, .d (kI .i64) y4.b_.V, .d (kI .i64) y4.b_.L, .d kB y4.r_.Ret, .d (kI .i64) y4.r_.V, .d (kI .i64) y4.r_.L, .d (kI .i64) y4.below_, .d (kI .i64) y4.one_.x0_, .d (kI .i64) y4.one_.x1_, .d (kI .i64) y4.one_.x2_]]) (out' := .d (tup [])) [(70000, 70000)] [] [1] [0] [1, 0] (by rw [hp3]; rfl) tm (tm (t := 0)) (step_machine_nothing.ok hy4) rfl b68 rfl rfl rfl rfl rfl rfl rfl rfl) (s2 rfl rfl) <| .nil) (by kernel_rfl) ?_
      obtain rfl := so h
      refine pZ ?_
      exact pSn [1] rfl rfl (.inr rfl) rfl rfl (.nil)
    · rcases ic h with ⟨hp5, h⟩ | ⟨hp5, h⟩
      · obtain ⟨y6, hy6, h⟩ := bd h
        refine wTe 47 (cm (oCallBV (kn := 70000) (rest := [.abs 11 (aMap (kI .i64) kV) [(0, bmV 68 b0), (12, bmV 68 b0), (1, bmV 69 b0), (2, bmV 70 b0), (11, bmV 70 b0), (3, bmV 71 b0), (4, bmV 71 b0), (5, bmV 72 b0), (6, bmV 73 b0), (7, bmV 74 b0), (8, bmV 70 b0), (9, bmV 75 b0), (10, bmV 76 b0)]]) (R' := [.abs 11 (aMap (kI .i64) kV) [(0, bmV 68 b0), (12, bmV 68 b0), (1, bmV 69 b0), (2, bmV 70 b0), (11, bmV 70 b0), (3, bmV 71 b0), (4, bmV 71 b0), (5, bmV 72 b0), (6, bmV 73 b0), (7, bmV 74 b0), (8, bmV 70 b0), (9, bmV 75 b0), (10, bmV 76 b0)], .box 70000 92 [.d (kL kS) y6.l_.Names, .d (kL (kI .u32)) y6.l_.Up, .d (kI .i64) y6.s_.Pc.V, .d (kI .i64) y6.s_.Pc.L, .d (kL (kR f_api_Instr)) y6.s_.Code, .d (kL (kR f_api_Atom)) y6.s_.Mem, .d (kL (kR f_api_Slot)) y6.s_.Stack, .d (kL (kR f_api_Atom)) y6.s_.Out, .d (kI .i64) y6.x_.Op, .d (kI .i64) y6.x_.N, .d (kI .i64) y6.x_.L, .d kB y6.a_.Ret, .d (kI .i64) y6.a_.V, .d (kI .i64) y6.a_.L, .d kB y6.b_.Ret, .d (kI .i64) y6.b_.V, .d (kI .i64) y6.b_.L, .d kB y6.r_.Ret, .d (kI .i64) y6.r_.V, .d (kI .i64) y6.r_.L, .d (kI .i64) y6.below_, .d (kI .i64) y6.one_.x0_, .d (kI .i64) y6.one_.x1_, .d (kI .i64) y6.one_.x2_]]) (out' := .d (tup [])) [(70000, 70000)] [] [1] [0] [1, 0] (by rw [hp5]; rfl) tm (tm (t := 0)) (step_machine_pushes.ok hy6) rfl b69 rfl rfl rfl rfl rfl rfl rfl rfl) (s2 rfl rfl) <| .nil) (by kernel_rfl) ?_
        obtain rfl := so h
        refine pZ ?_
        exact pSn [1] rfl rfl (.inr rfl) rfl rfl (.nil)
      · rcases ic h with ⟨hp7, h⟩ | ⟨hp7, h⟩
        · obtain ⟨z8, hz8, h⟩ := bd h
          rcases z8 with p9 | y10
          · refine wTx (Γp := []) 47 rfl (oCallBX (kn := 70000) (rest := [.abs 11 (aMap (kI .i64) kV) [(0, bmV 68 b0), (12, bmV 68 b0), (1, bmV 69 b0), (2, bmV 70 b0), (11, bmV 70 b0), (3, bmV 71 b0), (4, bmV 71 b0), (5, bmV 72 b0), (6, bmV 73 b0), (7, bmV 74 b0), (8, bmV 70 b0), (9, bmV 75 b0), (10, bmV 76 b0)]]) [(70000, 70000)] [1] [0] (by rw [hp7]; rfl) tm (tm (t := 0)) (step_machine_first.okP hz8) rfl b70 rfl rfl) rfl rfl (s2 rfl rfl) trivial ?_
            obtain rfl := so h
            exact pX
          · refine wTe 47 (cm (oCallBV (kn := 70000) (rest := [.abs 11 (aMap (kI .i64) kV) [(0, bmV 68 b0), (12, bmV 68 b0), (1, bmV 69 b0), (2, bmV 70 b0), (11, bmV 70 b0), (3, bmV 71 b0), (4, bmV 71 b0), (5, bmV 72 b0), (6, bmV 73 b0), (7, bmV 74 b0), (8, bmV 70 b0), (9, bmV 75 b0), (10, bmV 76 b0)]]) (R' := [.abs 11 (aMap (kI .i64) kV) [(0, bmV 68 b0), (12, bmV 68 b0), (1, bmV 69 b0), (2, bmV 70 b0), (11, bmV 70 b0), (3, bmV 71 b0), (4, bmV 71 b0), (5, bmV 72 b0), (6, bmV 73 b0), (7, bmV 74 b0), (8, bmV 70 b0), (9, bmV 75 b0), (10, bmV 76 b0)], .box 70000 92 [.d (kL kS) y10.l_.Names, .d (kL (kI .u32)) y10.l_.Up, .d (kI .i64) y10.s_.Pc.V, .d (kI .i64) y10.s_.Pc.L, .d (kL (kR f_api_Instr)) y10.s_.Code, .d (kL (kR f_api_Atom)) y10.s_.Mem, .d (kL (kR f_api_Slot)) y10.s_.Stack, .d (kL (kR f_api_Atom)) y10.s_.Out, .d (kI .i64) y10.x_.Op, .d (kI .i64) y10.x_.N, .d (kI .i64) y10.x_.L, .d kB y10.a_.Ret, .d (kI .i64) y10.a_.V, .d (kI .i64) y10.a_.L, .d kB y10.b_.Ret, .d (kI .i64) y10.b_.V, .d (kI .i64) y10.b_.L, .d kB y10.r_.Ret, .d (kI .i64) y10.r_.V, .d (kI .i64) y10.r_.L, .d (kI .i64) y10.below_, .d (kI .i64) y10.one_.x0_, .d (kI .i64) y10.one_.x1_, .d (kI .i64) y10.one_.x2_]]) (out' := .d (tup [])) [(70000, 70000)] [] [1] [0] [1, 0] (by rw [hp7]; rfl) tm (tm (t := 0)) (step_machine_first.okR hz8) rfl b70 rfl rfl rfl rfl rfl rfl rfl rfl) (s2 rfl rfl) <| .nil) (by kernel_rfl) ?_
            obtain rfl := so h
            refine pZ ?_
            exact pSn [1] rfl rfl (.inr rfl) rfl rfl (.nil)
        · rcases ic h with ⟨hp11, h⟩ | ⟨hp11, h⟩
          · obtain ⟨z12, hz12, h⟩ := bd h
            rcases z12 with p13 | y14
            · refine wTx (Γp := []) 47 rfl (oCallBX (kn := 70000) (rest := [.abs 11 (aMap (kI .i64) kV) [(0, bmV 68 b0), (12, bmV 68 b0), (1, bmV 69 b0), (2, bmV 70 b0), (11, bmV 70 b0), (3, bmV 71 b0), (4, bmV 71 b0), (5, bmV 72 b0), (6, bmV 73 b0), (7, bmV 74 b0), (8, bmV 70 b0), (9, bmV 75 b0), (10, bmV 76 b0)]]) [(70000, 70000)] [1] [0] (by rw [hp11]; rfl) tm (tm (t := 0)) (step_machine_first.okP hz12) rfl b70 rfl rfl) rfl rfl (s2 rfl rfl) trivial ?_
              obtain rfl := so h
              exact pX
            · refine wTe 47 (cm (oCallBV (kn := 70000) (rest := [.abs 11 (aMap (kI .i64) kV) [(0, bmV 68 b0), (12, bmV 68 b0), (1, bmV 69 b0), (2, bmV 70 b0), (11, bmV 70 b0), (3, bmV 71 b0), (4, bmV 71 b0), (5, bmV 72 b0), (6, bmV 73 b0), (7, bmV 74 b0), (8, bmV 70 b0), (9, bmV 75 b0), (10, bmV 76 b0)]]) (R' := [.abs 11 (aMap (kI .i64) kV) [(0, bmV 68 b0), (12, bmV 68 b0), (1, bmV 69 b0), (2, bmV 70 b0), (11, bmV 70 b0), (3, bmV 71 b0), (4, bmV 71 b0), (5, bmV 72 b0), (6, bmV 73 b0), (7, bmV 74 b0), (8, bmV 70 b0), (9, bmV 75 b0), (10, bmV 76 b0)], .box 70000 92 [.d (kL kS) y14.l_.Names, .d (kL (kI .u32)) y14.l_.Up, .d (kI .i64) y14.s_.Pc.V, .d (kI .i64) y14.s_.Pc.L, .d (kL (kR f_api_Instr)) y14.s_.Code, .d (kL (kR f_api_Atom)) y14.s_.Mem, .d (kL (kR f_api_Slot)) y14.s_.Stack, .d (kL (kR f_api_Atom)) y14.s_.Out, .d (kI .i64) y14.x_.Op, .d (kI .i64) y14.x_.N, .d (kI .i64) y14.x_.L, .d kB y14.a_.Ret, .d (kI .i64) y14.a_.V, .d (kI .i64) y14.a_.L, .d kB y14.b_.Ret, .d (kI .i64) y14.b_.V, .d (kI .i64) y14.b_.L, .d kB y14.r_.Ret, .d (kI .i64) y14.r_.V, .d (kI .i64) y14.r_.L, .d (kI .i64) y14.below_, .d (kI .i64) y14.one_.x0_, .d (kI .i64) y14.one_.x1_, .d (kI .i64) y14.one_.x2_]]) (out' := .d (tup [])) [(70000, 70000)] [] [1] [0] [1, 0] (by rw [hp11]; rfl) tm (tm (t := 0)) (step_machine_first.okR hz12) rfl b70 rfl rfl rfl rfl rfl rfl rfl rfl) (s2 rfl rfl) <| .nil) (by kernel_rfl) ?_
              obtain rfl := so h
              refine pZ ?_
              exact pSn [1] rfl rfl (.inr rfl) rfl rfl (.nil)
          · rcases ic h with ⟨hp15, h⟩ | ⟨hp15, h⟩
            · obtain ⟨z16, hz16, h⟩ := bd h
              rcases z16 with p17 | y18
              · refine wTx (Γp := []) 47 rfl (oCallBX (kn := 70000) (rest := [.abs 11 (aMap (kI .i64) kV) [(0, bmV 68 b0), (12, bmV 68 b0), (1, bmV 69 b0), (2, bmV 70 b0), (11, bmV 70 b0), (3, bmV 71 b0), (4, bmV 71 b0), (5, bmV 72 b0), (6, bmV 73 b0), (7, bmV 74 b0), (8, bmV 70 b0), (9, bmV 75 b0), (10, bmV 76 b0)]]) [(70000, 70000)] [1] [0] (by rw [hp15]; rfl) tm (tm (t := 0)) (step_machine_both.okP hz16) rfl b71 rfl rfl) rfl rfl (s2 rfl rfl) trivial ?_
                obtain rfl := so h
                exact pX
              · refine wTe 47 (cm (oCallBV (kn := 70000) (rest := [.abs 11 (aMap (kI .i64) kV) [(0, bmV 68 b0), (12, bmV 68 b0), (1, bmV 69 b0), (2, bmV 70 b0), (11, bmV 70 b0), (3, bmV 71 b0), (4, bmV 71 b0), (5, bmV 72 b0), (6, bmV 73 b0), (7, bmV 74 b0), (8, bmV 70 b0), (9, bmV 75 b0), (10, bmV 76 b0)]]) (R' := [.abs 11 (aMap (kI .i64) kV) [(0, bmV 68 b0), (12, bmV 68 b0), (1, bmV 69 b0), (2, bmV 70 b0), (11, bmV 70 b0), (3, bmV 71 b0), (4, bmV 71 b0), (5, bmV 72 b0), (6, bmV 73 b0), (7, bmV 74 b0), (8, bmV 70 b0), (9, bmV 75 b0), (10, bmV 76 b0)], .box 70000 92 [.d (kL kS) y18.l_.Names, .d (kL (kI .u32)) y18.l_.Up, .d (kI .i64) y18.s_.Pc.V, .d (kI .i64) y18.s_.Pc.L, .d (kL (kR f_api_Instr)) y18.s_.Code, .d (kL (kR f_api_Atom)) y18.s_.Mem, .d (kL (kR f_api_Slot)) y18.s_.Stack, .d (kL (kR f_api_Atom)) y18.s_.Out, .d (kI .i64) y18.x_.Op, .d (kI .i64) y18.x_.N, .d (kI .i64) y18.x_.L, .d kB y18.a_.Ret, .d (kI .i64) y18.a_.V, .d (kI .i64) y18.a_.L, .d kB y18.b_.Ret, .d (kI .i64) y18.b_.V, .d (kI .i64) y18.b_.L, .d kB y18.r_.Ret, .d (kI .i64) y18.r_.V, .d (kI .i64) y18.r_.L, .d (kI .i64) y18.below_, .d (kI .i64) y18.one_.x0_, .d (kI .i64) y18.one_.x1_, .d (kI .i64) y18.one_.x2_]]) (out' := .d (tup [])) [(70000, 70000)] [] [1] [0] [1, 0] (by rw [hp15]; rfl) tm (tm (t := 0)) (step_machine_both.okR hz16) rfl b71 rfl rfl rfl rfl rfl rfl rfl rfl) (s2 rfl rfl) <| .nil) (by kernel_rfl) ?_
                obtain rfl := so h
                refine pZ ?_
                exact pSn [1] rfl rfl (.inr rfl) rfl rfl (.nil)
            · rcases ic h with ⟨hp19, h⟩ | ⟨hp19, h⟩
              · obtain ⟨z20, hz20, h⟩ := bd h
                rcases z20 with p21 | y22
                · refine wTx (Γp := []) 47 rfl (oCallBX (kn := 70000) (rest := [.abs 11 (aMap (kI .i64) kV) [(0, bmV 68 b0), (12, bmV 68 b0), (1, bmV 69 b0), (2, bmV 70 b0), (11, bmV 70 b0), (3, bmV 71 b0), (4, bmV 71 b0), (5, bmV 72 b0), (6, bmV 73 b0), (7, bmV 74 b0), (8, bmV 70 b0), (9, bmV 75 b0), (10, bmV 76 b0)]]) [(70000, 70000)] [1] [0] (by rw [hp19]; rfl) tm (tm (t := 0)) (step_machine_both.okP hz20) rfl b71 rfl rfl) rfl rfl (s2 rfl rfl) trivial ?_
                  obtain rfl := so h
                  exact pX
                · refine wTe 47 (cm (oCallBV (kn := 70000) (rest := [.abs 11 (aMap (kI .i64) kV) [(0, bmV 68 b0), (12, bmV 68 b0), (1, bmV 69 b0), (2, bmV 70 b0), (11, bmV 70 b0), (3, bmV 71 b0), (4, bmV 71 b0), (5, bmV 72 b0), (6, bmV 73 b0), (7, bmV 74 b0), (8, bmV 70 b0), (9, bmV 75 b0), (10, bmV 76 b0)]]) (R' := [.abs 11 (aMap (kI .i64) kV) [(0, bmV 68 b0), (12, bmV 68 b0), (1, bmV 69 b0), (2, bmV 70 b0), (11, bmV 70 b0), (3, bmV 71 b0), (4, bmV 71 b0), (5, bmV 72 b0), (6, bmV 73 b0), (7, bmV 74 b0), (8, bmV 70 b0), (9, bmV 75 b0), (10, bmV 76 b0)], .box 70000 92 [.d (kL kS) y22.l_.Names, .d (kL (kI .u32)) y22.l_.Up, .d (kI .i64) y22.s_.Pc.V, .d (kI .i64) y22.s_.Pc.L, .d (kL (kR f_api_Instr)) y22.s_.Code, .d (kL (kR f_api_Atom)) y22.s_.Mem, .d (kL (kR f_api_Slot)) y22.s_.Stack, .d (kL (kR f_api_Atom)) y22.s_.Out, .d (kI .i64) y22.x_.Op, .d (kI .i64) y22.x_.N, .d (kI .i64) y22.x_.L, .d kB y22.a_.Ret, .d (kI .i64) y22.a_.V, .d (kI .i64) y22.a_.L, .d kB y22.b_.Ret, .d (kI .i64) y22.b_.V, .d (kI .i64) y22.b_.L, .d kB y22.r_.Ret, .d (kI .i64) y22.r_.V, .d (kI .i64) y22.r_.L, .d (kI .i64) y22.below_, .d (kI .i64) y22.one_.x0_, .d (kI .i64) y22.one_.x1_, .d (kI .i64) y22.one_.x2_]]) (out' := .d (tup [])) [(70000, 70000)] [] [1] [0] [1, 0] (by rw [hp19]; rfl) tm (tm (t := 0)) (step_machine_both.okR hz20) rfl b71 rfl rfl rfl rfl rfl rfl rfl rfl) (s2 rfl rfl) <| .nil) (by kernel_rfl) ?_
                  obtain rfl := so h
                  refine pZ ?_
                  exact pSn [1] rfl rfl (.inr rfl) rfl rfl (.nil)
              · rcases ic h with ⟨hp23, h⟩ | ⟨hp23, h⟩
                · obtain ⟨z24, hz24, h⟩ := bd h
                  rcases z24 with p25 | y26
                  · refine wTx (Γp := []) 47 rfl (oCallBX (kn := 70000) (rest := [.abs 11 (aMap (kI .i64) kV) [(0, bmV 68 b0), (12, bmV 68 b0), (1, bmV 69 b0), (2, bmV 70 b0), (11, bmV 70 b0), (3, bmV 71 b0), (4, bmV 71 b0), (5, bmV 72 b0), (6, bmV 73 b0), (7, bmV 74 b0), (8, bmV 70 b0), (9, bmV 75 b0), (10, bmV 76 b0)]]) [(70000, 70000)] [1] [0] (by rw [hp23]; rfl) tm (tm (t := 0)) (step_machine_loads.okP hz24) rfl b72 rfl rfl) rfl rfl (s2 rfl rfl) trivial ?_
                    obtain rfl := so h
                    exact pX
                  · refine wTe 47 (cm (oCallBV (kn := 70000) (rest := [.abs 11 (aMap (kI .i64) kV) [(0, bmV 68 b0), (12, bmV 68 b0), (1, bmV 69 b0), (2, bmV 70 b0), (11, bmV 70 b0), (3, bmV 71 b0), (4, bmV 71 b0), (5, bmV 72 b0), (6, bmV 73 b0), (7, bmV 74 b0), (8, bmV 70 b0), (9, bmV 75 b0), (10, bmV 76 b0)]]) (R' := [.abs 11 (aMap (kI .i64) kV) [(0, bmV 68 b0), (12, bmV 68 b0), (1, bmV 69 b0), (2, bmV 70 b0), (11, bmV 70 b0), (3, bmV 71 b0), (4, bmV 71 b0), (5, bmV 72 b0), (6, bmV 73 b0), (7, bmV 74 b0), (8, bmV 70 b0), (9, bmV 75 b0), (10, bmV 76 b0)], .box 70000 92 [.d (kL kS) y26.l_.Names, .d (kL (kI .u32)) y26.l_.Up, .d (kI .i64) y26.s_.Pc.V, .d (kI .i64) y26.s_.Pc.L, .d (kL (kR f_api_Instr)) y26.s_.Code, .d (kL (kR f_api_Atom)) y26.s_.Mem, .d (kL (kR f_api_Slot)) y26.s_.Stack, .d (kL (kR f_api_Atom)) y26.s_.Out, .d (kI .i64) y26.x_.Op, .d (kI .i64) y26.x_.N, .d (kI .i64) y26.x_.L, .d kB y26.a_.Ret, .d (kI .i64) y26.a_.V, .d (kI .i64) y26.a_.L, .d kB y26.b_.Ret, .d (kI .i64) y26.b_.V, .d (kI .i64) y26.b_.L, .d kB y26.r_.Ret, .d (kI .i64) y26.r_.V, .d (kI .i64) y26.r_.L, .d (kI .i64) y26.below_, .d (kI .i64) y26.one_.x0_, .d (kI .i64) y26.one_.x1_, .d (kI .i64) y26.one_.x2_]]) (out' := .d (tup [])) [(70000, 70000)] [] [1] [0] [1, 0] (by rw [hp23]; rfl) tm (tm (t := 0)) (step_machine_loads.okR hz24) rfl b72 rfl rfl rfl rfl rfl rfl rfl rfl) (s2 rfl rfl) <| .nil) (by kernel_rfl) ?_
                    obtain rfl := so h
                    refine pZ ?_
                    exact pSn [1] rfl rfl (.inr rfl) rfl rfl (.nil)
                · rcases ic h with ⟨hp27, h⟩ | ⟨hp27, h⟩
                  · obtain ⟨z28, hz28, h⟩ := bd h
                    rcases z28 with p29 | y30
                    · refine wTx (Γp := []) 47 rfl (oCallBX (kn := 70000) (rest := [.abs 11 (aMap (kI .i64) kV) [(0, bmV 68 b0), (12, bmV 68 b0), (1, bmV 69 b0), (2, bmV 70 b0), (11, bmV 70 b0), (3, bmV 71 b0), (4, bmV 71 b0), (5, bmV 72 b0), (6, bmV 73 b0), (7, bmV 74 b0), (8, bmV 70 b0), (9, bmV 75 b0), (10, bmV 76 b0)]]) [(70000, 70000)] [1] [0] (by rw [hp27]; rfl) tm (tm (t := 0)) (step_machine_stores.okP hz28) rfl b73 rfl rfl) rfl rfl (s2 rfl rfl) trivial ?_
                      obtain rfl := so h
                      exact pX
                    · refine wTe 47 (cm (oCallBV (kn := 70000) (rest := [.abs 11 (aMap (kI .i64) kV) [(0, bmV 68 b0), (12, bmV 68 b0), (1, bmV 69 b0), (2, bmV 70 b0), (11, bmV 70 b0), (3, bmV 71 b0), (4, bmV 71 b0), (5, bmV 72 b0), (6, bmV 73 b0), (7, bmV 74 b0), (8, bmV 70 b0), (9, bmV 75 b0), (10, bmV 76 b0)]]) (R' := [.abs 11 (aMap (kI .i64) kV) [(0, bmV 68 b0), (12, bmV 68 b0), (1, bmV 69 b0), (2, bmV 70 b0), (11, bmV 70 b0), (3, bmV 71 b0), (4, bmV 71 b0), (5, bmV 72 b0), (6, bmV 73 b0), (7, bmV 74 b0), (8, bmV 70 b0), (9, bmV 75 b0), (10, bmV 76 b0)], .box 70000 92 [.d (kL kS) y30.l_.Names, .d (kL (kI .u32)) y30.l_.Up, .d (kI .i64) y30.s_.Pc.V, .d (kI .i64) y30.s_.Pc.L, .d (kL (kR f_api_Instr)) y30.s_.Code, .d (kL (kR f_api_Atom)) y30.s_.Mem, .d (kL (kR f_api_Slot)) y30.s_.Stack, .d (kL (kR f_api_Atom)) y30.s_.Out, .d (kI .i64) y30.x_.Op, .d (kI .i64) y30.x_.N, .d (kI .i64) y30.x_.L, .d kB y30.a_.Ret, .d (kI .i64) y30.a_.V, .d (kI .i64) y30.a_.L, .d kB y30.b_.Ret, .d (kI .i64) y30.b_.V, .d (kI .i64) y30.b_.L, .d kB y30.r_.Ret, .d (kI .i64) y30.r_.V, .d (kI .i64) y30.r_.L, .d (kI .i64) y30.below_, .d (kI .i64) y30.one_.x0_, .d (kI .i64) y30.one_.x1_, .d (kI .i64) y30.one_.x2_]]) (out' := .d (tup [])) [(70000, 70000)] [] [1] [0] [1, 0] (by rw [hp27]; rfl) tm (tm (t := 0)) (step_machine_stores.okR hz28) rfl b73 rfl rfl rfl rfl rfl rfl rfl rfl) (s2 rfl rfl) <| .nil) (by kernel_rfl) ?_
                      obtain rfl := so h
                      refine pZ ?_
                      exact pSn [1] rfl rfl (.inr rfl) rfl rfl (.nil)
                  · rcases ic h with ⟨hp31, h⟩ | ⟨hp31, h⟩
                    · obtain ⟨z32, hz32, h⟩ := bd h
                      rcases z32 with p33 | y34
                      · refine wTx (Γp := []) 47 rfl (oCallBX (kn := 70000) (rest := [.abs 11 (aMap (kI .i64) kV) [(0, bmV 68 b0), (12, bmV 68 b0), (1, bmV 69 b0), (2, bmV 70 b0), (11, bmV 70 b0), (3, bmV 71 b0), (4, bmV 71 b0), (5, bmV 72 b0), (6, bmV 73 b0), (7, bmV 74 b0), (8, bmV 70 b0), (9, bmV 75 b0), (10, bmV 76 b0)]]) [(70000, 70000)] [1] [0] (by rw [hp31]; rfl) tm (tm (t := 0)) (step_machine_goes.okP hz32) rfl b74 rfl rfl) rfl rfl (s2 rfl rfl) trivial ?_
                        obtain rfl := so h
                        exact pX
                      · refine wTe 47 (cm (oCallBV (kn := 70000) (rest := [.abs 11 (aMap (kI .i64) kV) [(0, bmV 68 b0), (12, bmV 68 b0), (1, bmV 69 b0), (2, bmV 70 b0), (11, bmV 70 b0), (3, bmV 71 b0), (4, bmV 71 b0), (5, bmV 72 b0), (6, bmV 73 b0), (7, bmV 74 b0), (8, bmV 70 b0), (9, bmV 75 b0), (10, bmV 76 b0)]]) (R' := [.abs 11 (aMap (kI .i64) kV) [(0, bmV 68 b0), (12, bmV 68 b0), (1, bmV 69 b0), (2, bmV 70 b0), (11, bmV 70 b0), (3, bmV 71 b0), (4, bmV 71 b0), (5, bmV 72 b0), (6, bmV 73 b0), (7, bmV 74 b0), (8, bmV 70 b0), (9, bmV 75 b0), (10, bmV 76 b0)], .box 70000 92 [.d (kL kS) y34.l_.Names, .d (kL (kI .u32)) y34.l_.Up, .d (kI .i64) y34.s_.Pc.V, .d (kI .i64) y34.s_.Pc.L, .d (kL (kR f_api_Instr)) y34.s_.Code, .d (kL (kR f_api_Atom)) y34.s_.Mem, .d (kL (kR f_api_Slot)) y34.s_.Stack, .d (kL (kR f_api_Atom)) y34.s_.Out, .d (kI .i64) y34.x_.Op, .d (kI .i64) y34.x_.N, .d (kI .i64) y34.x_.L, .d kB y34.a_.Ret, .d (kI .i64) y34.a_.V, .d (kI .i64) y34.a_.L, .d kB y34.b_.Ret, .d (kI .i64) y34.b_.V, .d (kI .i64) y34.b_.L, .d kB y34.r_.Ret, .d (kI .i64) y34.r_.V, .d (kI .i64) y34.r_.L, .d (kI .i64) y34.below_, .d (kI .i64) y34.one_.x0_, .d (kI .i64) y34.one_.x1_, .d (kI .i64) y34.one_.x2_]]) (out' := .d (tup [])) [(70000, 70000)] [] [1] [0] [1, 0] (by rw [hp31]; rfl) tm (tm (t := 0)) (step_machine_goes.okR hz32) rfl b74 rfl rfl rfl rfl rfl rfl rfl rfl) (s2 rfl rfl) <| .nil) (by kernel_rfl) ?_
                        obtain rfl := so h
                        refine pZ ?_
                        exact pSn [1] rfl rfl (.inr rfl) rfl rfl (.nil)
                    · rcases ic h with ⟨hp35, h⟩ | ⟨hp35, h⟩
                      · obtain ⟨z36, hz36, h⟩ := bd h
                        rcases z36 with p37 | y38
                        · refine wTx (Γp := []) 47 rfl (oCallBX (kn := 70000) (rest := [.abs 11 (aMap (kI .i64) kV) [(0, bmV 68 b0), (12, bmV 68 b0), (1, bmV 69 b0), (2, bmV 70 b0), (11, bmV 70 b0), (3, bmV 71 b0), (4, bmV 71 b0), (5, bmV 72 b0), (6, bmV 73 b0), (7, bmV 74 b0), (8, bmV 70 b0), (9, bmV 75 b0), (10, bmV 76 b0)]]) [(70000, 70000)] [1] [0] (by rw [hp35]; rfl) tm (tm (t := 0)) (step_machine_first.okP hz36) rfl b70 rfl rfl) rfl rfl (s2 rfl rfl) trivial ?_
                          obtain rfl := so h
                          exact pX
                        · refine wTe 47 (cm (oCallBV (kn := 70000) (rest := [.abs 11 (aMap (kI .i64) kV) [(0, bmV 68 b0), (12, bmV 68 b0), (1, bmV 69 b0), (2, bmV 70 b0), (11, bmV 70 b0), (3, bmV 71 b0), (4, bmV 71 b0), (5, bmV 72 b0), (6, bmV 73 b0), (7, bmV 74 b0), (8, bmV 70 b0), (9, bmV 75 b0), (10, bmV 76 b0)]]) (R' := [.abs 11 (aMap (kI .i64) kV) [(0, bmV 68 b0), (12, bmV 68 b0), (1, bmV 69 b0), (2, bmV 70 b0), (11, bmV 70 b0), (3, bmV 71 b0), (4, bmV 71 b0), (5, bmV 72 b0), (6, bmV 73 b0), (7, bmV 74 b0), (8, bmV 70 b0), (9, bmV 75 b0), (10, bmV 76 b0)], .box 70000 92 [.d (kL kS) y38.l_.Names, .d (kL (kI .u32)) y38.l_.Up, .d (kI .i64) y38.s_.Pc.V, .d (kI .i64) y38.s_.Pc.L, .d (kL (kR f_api_Instr)) y38.s_.Code, .d (kL (kR f_api_Atom)) y38.s_.Mem, .d (kL (kR f_api_Slot)) y38.s_.Stack, .d (kL (kR f_api_Atom)) y38.s_.Out, .d (kI .i64) y38.x_.Op, .d (kI .i64) y38.x_.N, .d (kI .i64) y38.x_.L, .d kB y38.a_.Ret, .d (kI .i64) y38.a_.V, .d (kI .i64) y38.a_.L, .d kB y38.b_.Ret, .d (kI .i64) y38.b_.V, .d (kI .i64) y38.b_.L, .d kB y38.r_.Ret, .d (kI .i64) y38.r_.V, .d (kI .i64) y38.r_.L, .d (kI .i64) y38.below_, .d (kI .i64) y38.one_.x0_, .d (kI .i64) y38.one_.x1_, .d (kI .i64) y38.one_.x2_]]) (out' := .d (tup [])) [(70000, 70000)] [] [1] [0] [1, 0] (by rw [hp35]; rfl) tm (tm (t := 0)) (step_machine_first.okR hz36) rfl b70 rfl rfl rfl rfl rfl rfl rfl rfl) (s2 rfl rfl) <| .nil) (by kernel_rfl) ?_
                          obtain rfl := so h
                          refine pZ ?_
                          exact pSn [1] rfl rfl (.inr rfl) rfl rfl (.nil)
                      · rcases ic h with ⟨hp39, h⟩ | ⟨hp39, h⟩
                        · obtain ⟨z40, hz40, h⟩ := bd h
                          rcases z40 with p41 | y42
                          · refine wTx (Γp := []) 47 rfl (oCallBX (kn := 70000) (rest := [.abs 11 (aMap (kI .i64) kV) [(0, bmV 68 b0), (12, bmV 68 b0), (1, bmV 69 b0), (2, bmV 70 b0), (11, bmV 70 b0), (3, bmV 71 b0), (4, bmV 71 b0), (5, bmV 72 b0), (6, bmV 73 b0), (7, bmV 74 b0), (8, bmV 70 b0), (9, bmV 75 b0), (10, bmV 76 b0)]]) [(70000, 70000)] [1] [0] (by rw [hp39]; rfl) tm (tm (t := 0)) (step_machine_calls.okP hz40) rfl b75 rfl rfl) rfl rfl (s2 rfl rfl) trivial ?_
                            obtain rfl := so h
                            exact pX
                          · refine wTe 47 (cm (oCallBV (kn := 70000) (rest := [.abs 11 (aMap (kI .i64) kV) [(0, bmV 68 b0), (12, bmV 68 b0), (1, bmV 69 b0), (2, bmV 70 b0), (11, bmV 70 b0), (3, bmV 71 b0), (4, bmV 71 b0), (5, bmV 72 b0), (6, bmV 73 b0), (7, bmV 74 b0), (8, bmV 70 b0), (9, bmV 75 b0), (10, bmV 76 b0)]]) (R' := [.abs 11 (aMap (kI .i64) kV) [(0, bmV 68 b0), (12, bmV 68 b0), (1, bmV 69 b0), (2, bmV 70 b0), (11, bmV 70 b0), (3, bmV 71 b0), (4, bmV 71 b0), (5, bmV 72 b0), (6, bmV 73 b0), (7, bmV 74 b0), (8, bmV 70 b0), (9, bmV 75 b0), (10, bmV 76 b0)], .box 70000 92 [.d (kL kS) y42.l_.Names, .d (kL (kI .u32)) y42.l_.Up, .d (kI .i64) y42.s_.Pc.V, .d (kI .i64) y42.s_.Pc.L, .d (kL (kR f_api_Instr)) y42.s_.Code, .d (kL (kR f_api_Atom)) y42.s_.Mem, .d (kL (kR f_api_Slot)) y42.s_.Stack, .d (kL (kR f_api_Atom)) y42.s_.Out, .d (kI .i64) y42.x_.Op, .d (kI .i64) y42.x_.N, .d (kI .i64) y42.x_.L, .d kB y42.a_.Ret, .d (kI .i64) y42.a_.V, .d (kI .i64) y42.a_.L, .d kB y42.b_.Ret, .d (kI .i64) y42.b_.V, .d (kI .i64) y42.b_.L, .d kB y42.r_.Ret, .d (kI .i64) y42.r_.V, .d (kI .i64) y42.r_.L, .d (kI .i64) y42.below_, .d (kI .i64) y42.one_.x0_, .d (kI .i64) y42.one_.x1_, .d (kI .i64) y42.one_.x2_]]) (out' := .d (tup [])) [(70000, 70000)] [] [1] [0] [1, 0] (by rw [hp39]; rfl) tm (tm (t := 0)) (step_machine_calls.okR hz40) rfl b75 rfl rfl rfl rfl rfl rfl rfl rfl) (s2 rfl rfl) <| .nil) (by kernel_rfl) ?_
                            obtain rfl := so h
                            refine pZ ?_
                            exact pSn [1] rfl rfl (.inr rfl) rfl rfl (.nil)
                        · rcases ic h with ⟨hp43, h⟩ | ⟨hp43, h⟩
                          · obtain ⟨z44, hz44, h⟩ := bd h
                            rcases z44 with p45 | y46
                            · refine wTx (Γp := []) 47 rfl (oCallBX (kn := 70000) (rest := [.abs 11 (aMap (kI .i64) kV) [(0, bmV 68 b0), (12, bmV 68 b0), (1, bmV 69 b0), (2, bmV 70 b0), (11, bmV 70 b0), (3, bmV 71 b0), (4, bmV 71 b0), (5, bmV 72 b0), (6, bmV 73 b0), (7, bmV 74 b0), (8, bmV 70 b0), (9, bmV 75 b0), (10, bmV 76 b0)]]) [(70000, 70000)] [1] [0] (by rw [hp43]; rfl) tm (tm (t := 0)) (step_machine_returns.okP hz44) rfl b76 rfl rfl) rfl rfl (s2 rfl rfl) trivial ?_
                              obtain rfl := so h
                              exact pX
                            · refine wTe 47 (cm (oCallBV (kn := 70000) (rest := [.abs 11 (aMap (kI .i64) kV) [(0, bmV 68 b0), (12, bmV 68 b0), (1, bmV 69 b0), (2, bmV 70 b0), (11, bmV 70 b0), (3, bmV 71 b0), (4, bmV 71 b0), (5, bmV 72 b0), (6, bmV 73 b0), (7, bmV 74 b0), (8, bmV 70 b0), (9, bmV 75 b0), (10, bmV 76 b0)]]) (R' := [.abs 11 (aMap (kI .i64) kV) [(0, bmV 68 b0), (12, bmV 68 b0), (1, bmV 69 b0), (2, bmV 70 b0), (11, bmV 70 b0), (3, bmV 71 b0), (4, bmV 71 b0), (5, bmV 72 b0), (6, bmV 73 b0), (7, bmV 74 b0), (8, bmV 70 b0), (9, bmV 75 b0), (10, bmV 76 b0)], .box 70000 92 [.d (kL kS) y46.l_.Names, .d (kL (kI .u32)) y46.l_.Up, .d (kI .i64) y46.s_.Pc.V, .d (kI .i64) y46.s_.Pc.L, .d (kL (kR f_api_Instr)) y46.s_.Code, .d (kL (kR f_api_Atom)) y46.s_.Mem, .d (kL (kR f_api_Slot)) y46.s_.Stack, .d (kL (kR f_api_Atom)) y46.s_.Out, .d (kI .i64) y46.x_.Op, .d (kI .i64) y46.x_.N, .d (kI .i64) y46.x_.L, .d kB y46.a_.Ret, .d (kI .i64) y46.a_.V, .d (kI .i64) y46.a_.L, .d kB y46.b_.Ret, .d (kI .i64) y46.b_.V, .d (kI .i64) y46.b_.L, .d kB y46.r_.Ret, .d (kI .i64) y46.r_.V, .d (kI .i64) y46.r_.L, .d (kI .i64) y46.below_, .d (kI .i64) y46.one_.x0_, .d (kI .i64) y46.one_.x1_, .d (kI .i64) y46.one_.x2_]]) (out' := .d (tup [])) [(70000, 70000)] [] [1] [0] [1, 0] (by rw [hp43]; rfl) tm (tm (t := 0)) (step_machine_returns.okR hz44) rfl b76 rfl rfl rfl rfl rfl rfl rfl rfl) (s2 rfl rfl) <| .nil) (by kernel_rfl) ?_
                              obtain rfl := so h
                              refine pZ ?_
                              exact pSn [1] rfl rfl (.inr rfl) rfl rfl (.nil)
                          · cases h
theorem step_machine_needs.okR {a0 : step_machine} {r : step_machine} (h : step_machine_needs.f a0 = some (.inr r)) : FnS Tryd.prog 47 [.p 70000 0] [.box 70000 92 [.d (kL kS) a0.l_.Names, .d (kL (kI .u32)) a0.l_.Up, .d (kI .i64) a0.s_.Pc.V, .d (kI .i64) a0.s_.Pc.L, .d (kL (kR f_api_Instr)) a0.s_.Code, .d (kL (kR f_api_Atom)) a0.s_.Mem, .d (kL (kR f_api_Slot)) a0.s_.Stack, .d (kL (kR f_api_Atom)) a0.s_.Out, .d (kI .i64) a0.x_.Op, .d (kI .i64) a0.x_.N, .d (kI .i64) a0.x_.L, .d kB a0.a_.Ret, .d (kI .i64) a0.a_.V, .d (kI .i64) a0.a_.L, .d kB a0.b_.Ret, .d (kI .i64) a0.b_.V, .d (kI .i64) a0.b_.L, .d kB a0.r_.Ret, .d (kI .i64) a0.r_.V, .d (kI .i64) a0.r_.L, .d (kI .i64) a0.below_, .d (kI .i64) a0.one_.x0_, .d (kI .i64) a0.one_.x1_, .d (kI .i64) a0.one_.x2_]] [70000] (.d (tup [])) [.box 70000 92 [.d (kL kS) r.l_.Names, .d (kL (kI .u32)) r.l_.Up, .d (kI .i64) r.s_.Pc.V, .d (kI .i64) r.s_.Pc.L, .d (kL (kR f_api_Instr)) r.s_.Code, .d (kL (kR f_api_Atom)) r.s_.Mem, .d (kL (kR f_api_Slot)) r.s_.Stack, .d (kL (kR f_api_Atom)) r.s_.Out, .d (kI .i64) r.x_.Op, .d (kI .i64) r.x_.N, .d (kI .i64) r.x_.L, .d kB r.a_.Ret, .d (kI .i64) r.a_.V, .d (kI .i64) r.a_.L, .d kB r.b_.Ret, .d (kI .i64) r.b_.V, .d (kI .i64) r.b_.L, .d kB r.r_.Ret, .d (kI .i64) r.r_.V, .d (kI .i64) r.r_.L, .d (kI .i64) r.below_, .d (kI .i64) r.one_.x0_, .d (kI .i64) r.one_.x1_, .d (kI .i64) r.one_.x2_]] := step_machine_needs.ok h
theorem step_machine_needs.okP {a0 : step_machine} {n : Pn} (h : step_machine_needs.f a0 = some (.inl n)) : FnX Tryd.prog 47 [.p 70000 0] [.box 70000 92 [.d (kL kS) a0.l_.Names, .d (kL (kI .u32)) a0.l_.Up, .d (kI .i64) a0.s_.Pc.V, .d (kI .i64) a0.s_.Pc.L, .d (kL (kR f_api_Instr)) a0.s_.Code, .d (kL (kR f_api_Atom)) a0.s_.Mem, .d (kL (kR f_api_Slot)) a0.s_.Stack, .d (kL (kR f_api_Atom)) a0.s_.Out, .d (kI .i64) a0.x_.Op, .d (kI .i64) a0.x_.N, .d (kI .i64) a0.x_.L, .d kB a0.a_.Ret, .d (kI .i64) a0.a_.V, .d (kI .i64) a0.a_.L, .d kB a0.b_.Ret, .d (kI .i64) a0.b_.V, .d (kI .i64) a0.b_.L, .d kB a0.r_.Ret, .d (kI .i64) a0.r_.V, .d (kI .i64) a0.r_.L, .d (kI .i64) a0.below_, .d (kI .i64) a0.one_.x0_, .d (kI .i64) a0.one_.x1_, .d (kI .i64) a0.one_.x2_]] (pvv 86 n) := step_machine_needs.ok h

theorem judge_may_1.ok {a0 : Int} {a1 : api_Lattice} {r : Bool} (h : judge_may_1.f a0 a1 = some r) : FnA Tryd.prog 92 [(kI .i64).sig a0, sP (kR f_api_Lattice) a1] (kB.sig r) := by
  refine fnIntro Tryd.func92 rfl (by kernel_rfl) fun H0 w0 => ?_
  unfold judge_may_1.f at h
  refine wSeq ?_
  refine rg (cp (oAs cB) trivial <| .nil) (by kernel_rfl) ?_
  refine pSeq ?_
  obtain ⟨o1, h, hk1⟩ := bd h
  refine wJ1 (fun x2 => x2 = o1) (fun x2 => [(3, .d (kB.sig x2))]) (fun x2 => []) ?_ ?_
  · rcases ic h with ⟨hp3, h⟩ | ⟨hp3, h⟩
    · refine rg (cp (oMv tm) (s1 rfl) <| cp (oLt rfl tm (cI (by decide))) (s1 rfl) <| cp (oMv tm) (s1 rfl) <| csB (decide_eq_true hp3) rfl rfl <| csB (decide_eq_true hp3) rfl rfl <| csB (decide_eq_true hp3) rfl rfl <| csB (decide_eq_true hp3) rfl rfl <| csB (decide_eq_true hp3) rfl rfl <| cp (oPkT (decide_eq_true hp3) tm cB) (s1 rfl) <| cp (oAs tm) (s1 rfl) <| .nil) (by kernel_rfl) ?_
      exact pJ1 _ (so h) ⟨rfl, trivial⟩ rfl
    · refine rg (cp (oMv tm) (s1 rfl) <| cp (oLt rfl tm (cI (by decide))) (s1 rfl) <| cp (oMv tm) (s1 rfl) <| cgB (decide_eq_false hp3) rfl rfl (oMv tm) (s1 rfl) <| cgB (decide_eq_false hp3) rfl rfl (oFld (fs := f_api_Lattice) (k := 1) rfl o25_1 tm) (s1 rfl) <| cgB (decide_eq_false hp3) rfl rfl (oLd t23 tm) (s1 rfl) <| cgB (decide_eq_false hp3) rfl rfl (oLenL u23 tm) (s1 rfl) <| cgB (decide_eq_false hp3) rfl rfl (oGe rfl tm tm) (s2 rfl rfl) <| cp (oPkF (decide_eq_false hp3) tm tm) (s2 rfl rfl) <| cp (oAs tm) (s1 rfl) <| .nil) (by kernel_rfl) ?_
      exact pJ1 _ (so h) ⟨rfl, trivial⟩ rfl
  · rintro x2 rfl
    replace h := hk1
    refine wRet ?_
    obtain rfl := so h
    exact pR1 (.inl rfl) rfl (.tmp rfl <| .nil)

theorem judge_may.ok {a0 : api_Lattice} {a1 : List Int} {a2 : List Int} {a3 : Bool} {r : Int} (h : judge_may.f a0 a1 a2 a3 = some r) : FnA Tryd.prog 77 [(kR f_api_Lattice).sig a0, (kL (kI .i64)).sig a1, (kL (kI .i64)).sig a2, kB.sig a3] ((kI .i64).sig r) := by
  refine fnIntro Tryd.func77 rfl (by kernel_rfl) fun H0 w0 => ?_
  unfold judge_may.f at h
  refine wSeq ?_
  refine rg (cp (oBox tm) (s1 rfl) <| cp (oAs (cI (by decide))) trivial <| .nil) (by kernel_rfl) ?_
  refine pSeq ?_
  refine wSeq ?_
  refine wSeq ?_
  obtain ⟨y1, hy1, h⟩ := bd h
  refine rg (cp (oLd t25 tm) (s1 rfl) <| cp (oCall rfl (lattice_Check.ok hy1) b22 (opds_cons tm opds_nil)) (s1 rfl) <| cp (oAs tm) (s1 rfl) <| .nil) (by kernel_rfl) ?_
  refine pSeq ?_
  refine wSeq ?_
  refine rg (cp (oMv tm) (s1 rfl) <| cp (oNe rfl tm (cI (by decide))) (s1 rfl) <| .nil) (by kernel_rfl) ?_
  refine pSeq ?_
  rcases ic h with ⟨hp2, h⟩ | ⟨hp2, h⟩
  · refine wNT hp2 tm (s1 rfl) ?_
    refine wSkip ?_
    refine pSeq ?_
    refine wSeq ?_
    refine rg (cp (oMkF (Rl := rl1 (kI .i64) kB (fun z0 => judge_may_1.f z0 a0)) rfl b92 (rl1e judge_may_1.ok) (opds_cons tm opds_nil)) (s1 rfl) <| cp (oAs tm) (s1 rfl) <| .nil) (by kernel_rfl) ?_
    refine pSeq ?_
    refine wSeq ?_
    refine wBlock ?_
    refine wSeq ?_
    obtain ⟨y3, hy3, h⟩ := bd h
    refine rg (cp (oMv tm) (s1 rfl) <| cp (oMv tm) (s1 rfl) <| cp (oCall rfl (rule_Right.ok hy3) b64 (opds_cons tm (opds_cons tm opds_nil))) (s2 rfl rfl) <| cp (oNot tm) (s1 rfl) <| cp (oAs tm) (s1 rfl) <| .nil) (by kernel_rfl) ?_
    refine pSeq ?_
    rcases ic h with ⟨hp4, h⟩ | ⟨hp4, h⟩
    · refine wBT hp4 tm (s1 rfl) ?_
      refine wSeq ?_
      refine rg (cp (oAs (cI (by decide))) trivial <| .nil) (by kernel_rfl) ?_
      refine pSeq ?_
      refine wRet ?_
      refine pBlkR ?_
      refine pThenR ?_
      obtain rfl := so h
      exact pR1 (.inl rfl) rfl (.tmp rfl <| .nil)
    · refine wBF hp4 tm (s1 rfl) ?_
      obtain ⟨o1, h, hk1⟩ := bd h
      refine wJ1 (fun x7 => x7 = o1) (fun x7 => [(22, .d (kB.sig x7))]) (fun x7 => []) ?_ ?_
      · rcases ic h with ⟨hp8, h⟩ | ⟨hp8, h⟩
        · obtain ⟨y9, hy9, h⟩ := bd h
          refine rg (cp (oMv tm) (s1 rfl) <| cp (oLenL u44 tm) (s1 rfl) <| cp (oNe rfl tm (cI (by decide))) (s1 rfl) <| cp (oMv tm) (s1 rfl) <| cgB (nf hp8) rfl rfl (oMv tm) (s1 rfl) <| cgB (nf hp8) rfl rfl (oMv tm) (s1 rfl) <| cgB (nf hp8) rfl rfl (oCall rfl (slices_ContainsFunc_int_int.ok hy9) b88 (opds_cons tm (opds_cons tm opds_nil))) (s2 rfl rfl) <| cp (oPkF (nf hp8) tm tm) (s2 rfl rfl) <| cp (oAs tm) (s1 rfl) <| .nil) (by kernel_rfl) ?_
          exact pJ1 _ (so h) ⟨rfl, trivial⟩ rfl
        · refine rg (cp (oMv tm) (s1 rfl) <| cp (oLenL u44 tm) (s1 rfl) <| cp (oNe rfl tm (cI (by decide))) (s1 rfl) <| cp (oMv tm) (s1 rfl) <| csB (nt hp8) rfl rfl <| csB (nt hp8) rfl rfl <| csB (nt hp8) rfl rfl <| cp (oPkT (nt hp8) tm cB) (s1 rfl) <| cp (oAs tm) (s1 rfl) <| .nil) (by kernel_rfl) ?_
          exact pJ1 _ (so h) ⟨rfl, trivial⟩ rfl
      · rintro x7 rfl
        replace h := hk1
        rcases ic h with ⟨hp10, h⟩ | ⟨hp10, h⟩
        · refine wBT hp10 tm (s1 rfl) ?_
          refine wSeq ?_
          refine rg (cp (oAs (cI (by decide))) trivial <| .nil) (by kernel_rfl) ?_
          refine pSeq ?_
          refine wRet ?_
          refine pBlkR ?_
          refine pThenR ?_
          obtain rfl := so h
          exact pR1 (.inl rfl) rfl (.tmp rfl <| .nil)
        · refine wBF hp10 tm (s1 rfl) ?_
          refine wSkip ?_
          refine pBlkN ?_
          refine pSeq ?_
          refine wSeq ?_
          refine rg (cp (oAs (cI (by decide))) trivial <| .nil) (by kernel_rfl) ?_
          refine pSeq ?_
          refine wRet ?_
          obtain rfl := so h
          exact pR1 (.inl rfl) rfl (.tmp rfl <| .nil)
  · refine wNF hp2 tm (s1 rfl) ?_
    refine wSeq ?_
    refine rg (cp (oMv tm) (s1 rfl) <| cp (oAs tm) (s1 rfl) <| .nil) (by kernel_rfl) ?_
    refine pSeq ?_
    refine wRet ?_
    refine pThenR ?_
    obtain rfl := so h
    exact pR1 (.inl rfl) rfl (.tmp rfl <| .nil)

theorem judge_judge_put.ok {a0 : judge_judge} {a1 : If119} {r : judge_judge} (h : judge_judge_put.f a0 a1 = some r) : FnS Tryd.prog 93 [.p 70000 0, .d ((kF vIf119).sig a1)] [.box 70000 123 [.d (kL kS) a0.l_.Names, .d (kL (kI .u32)) a0.l_.Up, .d (kL (kI .i64)) a0.labels_, .v 70004], .row 70004 119 (kF vIf119) a0.pile_] [70000] (.d (tup [])) [.box 70000 123 [.d (kL kS) r.l_.Names, .d (kL (kI .u32)) r.l_.Up, .d (kL (kI .i64)) r.labels_, .v 70004], .row 70004 119 (kF vIf119) r.pile_] := by
  refine fnIntroS Tryd.func93 rfl (by kernel_rfl) fun X H0 w0 pv => ?_
  unfold judge_judge_put.f at h
  obtain ⟨hc1, h⟩ := ib h
  refine rg (cp (oMv tm) (s1 rfl) <| cp (oMv tm) (s1 rfl) <| cp (oNilP tm) (s1 rfl) <| cp (oFldP o123_2 tm) (s1 rfl) <| cr (oLdN (n := 0) (k := 3) rfl rfl rfl t121 tm) (s1 rfl) <| cp (oMv tm) (s1 rfl) <| cp (oLit (d := (kF vIf119)) el121 (by decide) rfl rfl rfl (e1 tm e0)) (s1 rfl) <| cw (oApp (n := 1) (id' := 11) el121 (by decide) rfl (by decide) hc1 tm tm) (s2 rfl rfl) <| cp (oNilP tm) (s1 rfl) <| cp (oFldP o123_2 tm) (s1 rfl) <| cwn (oStN (n := 0) (m := 1) (k := 3) rfl rfl rfl rfl z121 rfl tm tm) (s2 rfl rfl) <| .nil) (by kernel_rfl) ?_
  obtain rfl := so h
  refine pSub (Γ' := []) trivial ?_
  refine pRen 11 70004 rfl ?_
  exact pSn [0, 1] rfl rfl (.inr rfl) rfl rfl (.nil)

theorem bits_OnesCount32.ok {a0 : Int} {r : Int} (h : bits_OnesCount32.f a0 = some r) : FnA Tryd.prog 103 [(kI .u32).sig a0] ((kI .i64).sig r) := by
  refine fnIntro Tryd.func103 rfl (by kernel_rfl) fun H0 w0 => ?_
  unfold bits_OnesCount32.f at h
  refine wSeq ?_
  refine rg (cp (oAs (cI (by decide))) trivial <| .nil) (by kernel_rfl) ?_
  refine pSeq ?_
  refine wSeq ?_
  obtain ⟨hc1, h⟩ := ib h
  obtain ⟨hc2, h⟩ := ib h
  obtain ⟨hc3, h⟩ := ib h
  obtain ⟨hc4, h⟩ := ib h
  refine rgD hm (cp (oMv tm) (s1 rfl) <| cp (oShr (by decide) tm (cI (by decide))) (s1 rfl) <| cp (oIdxS u9 hc1.1 hc1.2 (cS (s := ks0) (by decide)) tm) (s1 rfl) <| cp (oMv tm) (s1 rfl) <| cp (oShr (by decide) tm (cI (by decide))) (s1 rfl) <| cp (oAnd tm (cI (by decide))) (s1 rfl) <| cp (oIdxS u9 hc2.1 hc2.2 (cS (s := ks0) (by decide)) tm) (s1 rfl) <| cp (oAdd tm tm) (s2 rfl rfl) <| cp (oMv tm) (s1 rfl) <| cp (oShr (by decide) tm (cI (by decide))) (s1 rfl) <| cp (oAnd tm (cI (by decide))) (s1 rfl) <| cp (oIdxS u9 hc3.1 hc3.2 (cS (s := ks0) (by decide)) tm) (s1 rfl) <| cp (oAdd tm tm) (s2 rfl rfl) <| cp (oMv tm) (s1 rfl) <| cp (oAnd tm (cI (by decide))) (s1 rfl) <| cp (oIdxS u9 hc4.1 hc4.2 (cS (s := ks0) (by decide)) tm) (s1 rfl) <| cp (oAdd tm tm) (s2 rfl rfl) <| cp (oConv u5 u3 tm) (s1 rfl) <| cp (oAs tm) (s1 rfl) <| .nil) (by kernel_rfl) (by kernel_rfl) ?_
  refine pSeq ?_
  refine wRet ?_
  obtain rfl := so h
  exact pR1 (.inl rfl) rfl (.tmp rfl <| .nil)

theorem lattice_Top_1.ok {a0 : Int} {r : Bool} (h : lattice_Top_1.f a0 = some r) : FnA Tryd.prog 102 [(kI .u32).sig a0] (kB.sig r) := by
  refine fnIntro Tryd.func102 rfl (by kernel_rfl) fun H0 w0 => ?_
  unfold lattice_Top_1.f at h
  refine wSeq ?_
  refine rg (cp (oAs cB) trivial <| .nil) (by kernel_rfl) ?_
  refine pSeq ?_
  refine wSeq ?_
  obtain ⟨y1, hy1, h⟩ := bd h
  refine rg (cp (oMv tm) (s1 rfl) <| cp (oCall rfl (bits_OnesCount32.ok hy1) b103 (opds_cons tm opds_nil)) (s1 rfl) <| cp (oEq rfl tm (cI (by decide))) (s1 rfl) <| cp (oAs tm) (s1 rfl) <| .nil) (by kernel_rfl) ?_
  refine pSeq ?_
  refine wRet ?_
  obtain rfl := so h
  exact pR1 (.inl rfl) rfl (.tmp rfl <| .nil)

theorem lattice_Top.ok {a0 : api_Lattice} {r : Int × Int} (h : lattice_Top.f a0 = some r) : FnA Tryd.prog 94 [(kR f_api_Lattice).sig a0] (tup [(kI .i64).sig r.1, (kI .i64).sig r.2]) := by
  refine fnIntro Tryd.func94 rfl (by kernel_rfl) fun H0 w0 => ?_
  unfold lattice_Top.f at h
  refine wSeq ?_
  refine rg (cp (oBox tm) (s1 rfl) <| cp (oAs (cI (by decide))) trivial <| cp (oAs (cI (by decide))) trivial <| .nil) (by kernel_rfl) ?_
  refine pSeq ?_
  refine wSeq ?_
  refine wSeq ?_
  obtain ⟨y1, hy1, h⟩ := bd h
  refine rg (cp (oLd t25 tm) (s1 rfl) <| cp (oCall rfl (lattice_there.ok hy1) b66 (opds_cons tm (opds_cons (cN (d := (kI .i64))) opds_nil))) (s1 rfl) <| cp (oAs tm) (s1 rfl) <| .nil) (by kernel_rfl) ?_
  refine pSeq ?_
  refine wSeq ?_
  refine rg (cp (oMv tm) (s1 rfl) <| cp (oNe rfl tm (cI (by decide))) (s1 rfl) <| .nil) (by kernel_rfl) ?_
  refine pSeq ?_
  rcases ic h with ⟨hp2, h⟩ | ⟨hp2, h⟩
  · refine wNT hp2 tm (s1 rfl) ?_
    refine wSkip ?_
    refine pSeq ?_
    refine wSeq ?_
    obtain ⟨y3, hy3, h⟩ := bd h
    refine rg (cp (oFld (fs := f_api_Lattice) (k := 1) rfl o25_1 tm) (s1 rfl) <| cp (oLd t23 tm) (s1 rfl) <| cp (oCall rfl (slices_IndexFunc_uint32_uint32.ok hy3) b61 (opds_cons tm (opds_cons (oFn b102 (rl1n lattice_Top_1.ok)) opds_nil))) (s1 rfl) <| cp (oAs tm) (s1 rfl) <| cp (oAs (cI (by decide))) trivial <| .nil) (by kernel_rfl) ?_
    refine pSeq ?_
    refine wRet ?_
    obtain rfl := so h
    exact pRn (.inl rfl) rfl rfl (.tmp rfl <| .tmp rfl <| .nil)
  · refine wNF hp2 tm (s1 rfl) ?_
    refine wSeq ?_
    refine rg (cp (oMv tm) (s1 rfl) <| cp (oAs (cI (by decide))) trivial <| cp (oAs tm) (s1 rfl) <| .nil) (by kernel_rfl) ?_
    refine pSeq ?_
    refine wRet ?_
    refine pThenR ?_
    obtain rfl := so h
    exact pRn (.inl rfl) rfl rfl (.tmp rfl <| .tmp rfl <| .nil)

theorem judge_judge_two.ok {a0 : judge_judge} {r : judge_judge × If119 × If119} (h : judge_judge_two.f a0 = some r) : FnS Tryd.prog 95 [.p 70000 0] [.box 70000 123 [.d (kL kS) a0.l_.Names, .d (kL (kI .u32)) a0.l_.Up, .d (kL (kI .i64)) a0.labels_, .v 70004], .row 70004 119 (kF vIf119) a0.pile_] [70000] (.d (tup [(kF vIf119).sig r.2.1, (kF vIf119).sig r.2.2])) [.box 70000 123 [.d (kL kS) r.1.l_.Names, .d (kL (kI .u32)) r.1.l_.Up, .d (kL (kI .i64)) r.1.labels_, .v 70004], .row 70004 119 (kF vIf119) r.1.pile_] := by
  refine fnIntroS Tryd.func95 rfl (by kernel_rfl) fun X H0 w0 pv => ?_
  unfold judge_judge_two.f at h
  refine wSeq ?_
  refine rg (cp (oAs (cNil (view := vIf119) (x := .nil) rfl)) trivial <| cp (oAs (cNil (view := vIf119) (x := .nil) rfl)) trivial <| .nil) (by kernel_rfl) ?_
  refine pSeq ?_
  refine wSeq ?_
  refine rg (cp (oMv tm) (s1 rfl) <| cp (oNilP tm) (s1 rfl) <| cp (oFldP o123_2 tm) (s1 rfl) <| cr (oLdN (n := 0) (k := 3) rfl rfl rfl t121 tm) (s1 rfl) <| cr (oLenR (n := 1) u121 rfl tm) (s1 rfl) <| cp (oSub tm (cI (by decide))) (s1 rfl) <| cp (oAs tm) (s1 rfl) <| .nil) (by kernel_rfl) ?_
  refine pSeq ?_
  refine wSeq ?_
  obtain ⟨y1, hy1, h⟩ := bd h
  obtain ⟨y2, hy2, h⟩ := bd h
  refine rgD hm (cp (oMv tm) (s1 rfl) <| cp (oNilP tm) (s1 rfl) <| cp (oFldP o123_2 tm) (s1 rfl) <| cr (oLdN (n := 0) (k := 3) rfl rfl rfl t121 tm) (s1 rfl) <| cp (oMv tm) (s1 rfl) <| cr (oIdxR (n := 1) u121 z119 rfl hy1 tm tm) (s2 rfl rfl) <| cr (oLdE (n := 1) rfl hy1 rfl t119 tm) (s1 rfl) <| cp (oMv tm) (s1 rfl) <| cp (oNilP tm) (s1 rfl) <| cp (oFldP o123_2 tm) (s1 rfl) <| cr (oLdN (n := 0) (k := 3) rfl rfl rfl t121 tm) (s1 rfl) <| cp (oMv tm) (s1 rfl) <| cp (oAdd tm (cI (by decide))) (s1 rfl) <| cr (oIdxR (n := 1) u121 z119 rfl hy2 tm tm) (s2 rfl rfl) <| cr (oLdE (n := 1) rfl hy2 rfl t119 tm) (s1 rfl) <| cp (oAs tm) (s1 rfl) <| cp (oAs tm) (s1 rfl) <| .nil) (by kernel_rfl) (by kernel_rfl) ?_
  refine pSeq ?_
  refine wSeq ?_
  obtain ⟨hc3, h⟩ := ib h
  refine rg (cp (oMv tm) (s1 rfl) <| cp (oMv tm) (s1 rfl) <| cp (oNilP tm) (s1 rfl) <| cp (oFldP o123_2 tm) (s1 rfl) <| cr (oLdN (n := 0) (k := 3) rfl rfl rfl t121 tm) (s1 rfl) <| cp (oMv tm) (s1 rfl) <| cw (oCutR (n := 1) (id' := 34) u121 z119 rfl hc3.1 hc3.2 tm tm) (s2 rfl rfl) <| cp (oNilP tm) (s1 rfl) <| cp (oFldP o123_2 tm) (s1 rfl) <| cwn (oStN (n := 0) (m := 1) (k := 3) rfl rfl rfl rfl z121 rfl tm tm) (s2 rfl rfl) <| .nil) (by kernel_rfl) ?_
  refine pSeq ?_
  refine wSeq ?_
  refine rg (cp (oMv tm) (s1 rfl) <| cp (oMv tm) (s1 rfl) <| cp (oAs tm) (s1 rfl) <| cp (oAs tm) (s1 rfl) <| .nil) (by kernel_rfl) ?_
  refine pSeq ?_
  refine wRet ?_
  obtain rfl := so h
  refine pSub (Γ' := [(2, .d ((kF vIf119).sig y1)), (3, .d ((kF vIf119).sig y2))]) ⟨rfl, rfl, trivial⟩ ?_
  refine pRen 34 70004 rfl ?_
  exact pSn [0, 1] rfl rfl (.inl rfl) rfl rfl (.tmp rfl <| .tmp rfl <| .nil)

theorem lattice_Flows.ok {a0 : api_Lattice} {a1 : Int} {a2 : Int} {r : Bool × Int} (h : lattice_Flows.f a0 a1 a2 = some r) : FnA Tryd.prog 104 [(kR f_api_Lattice).sig a0, (kI .i64).sig a1, (kI .i64).sig a2] (tup [kB.sig r.1, (kI .i64).sig r.2]) := by
  refine fnIntro Tryd.func104 rfl (by kernel_rfl) fun H0 w0 => ?_
  unfold lattice_Flows.f at h
  refine wSeq ?_
  refine rg (cp (oBox tm) (s1 rfl) <| cp (oAs cB) trivial <| cp (oAs (cI (by decide))) trivial <| .nil) (by kernel_rfl) ?_
  refine pSeq ?_
  refine wSeq ?_
  refine wSeq ?_
  obtain ⟨y1, hy1, h⟩ := bd h
  refine rg (cp (oLd t25 tm) (s1 rfl) <| cp (oMv tm) (s1 rfl) <| cp (oMv tm) (s1 rfl) <| cp (oLit (d := (kI .i64)) el44 (by decide) rfl rfl rfl (e1 tm (e1 tm e0))) (s2 rfl rfl) <| cp (oCall rfl (lattice_there.ok hy1) b66 (opds_cons tm (opds_cons tm opds_nil))) (s2 rfl rfl) <| cp (oAs tm) (s1 rfl) <| .nil) (by kernel_rfl) ?_
  refine pSeq ?_
  refine wSeq ?_
  refine rg (cp (oMv tm) (s1 rfl) <| cp (oNe rfl tm (cI (by decide))) (s1 rfl) <| .nil) (by kernel_rfl) ?_
  refine pSeq ?_
  rcases ic h with ⟨hp2, h⟩ | ⟨hp2, h⟩
  · refine wNT hp2 tm (s1 rfl) ?_
    refine wSkip ?_
    refine pSeq ?_
    refine wSeq ?_
    obtain ⟨y3, hy3, h⟩ := bd h
    refine rg (cp (oLd t25 tm) (s1 rfl) <| cp (oMv tm) (s1 rfl) <| cp (oMv tm) (s1 rfl) <| cp (oCall rfl (lattice_flows.ok hy3) b59 (opds_cons tm (opds_cons tm (opds_cons tm opds_nil)))) (s3 rfl rfl rfl) <| cp (oAs tm) (s1 rfl) <| cp (oAs (cI (by decide))) trivial <| .nil) (by kernel_rfl) ?_
    refine pSeq ?_
    refine wRet ?_
    obtain rfl := so h
    exact pRn (.inl rfl) rfl rfl (.tmp rfl <| .tmp rfl <| .nil)
  · refine wNF hp2 tm (s1 rfl) ?_
    refine wSeq ?_
    refine rg (cp (oMv tm) (s1 rfl) <| cp (oAs cB) trivial <| cp (oAs tm) (s1 rfl) <| .nil) (by kernel_rfl) ?_
    refine pSeq ?_
    refine wRet ?_
    refine pThenR ?_
    obtain rfl := so h
    exact pRn (.inl rfl) rfl rfl (.tmp rfl <| .tmp rfl <| .nil)

theorem lattice_Join.ok {a0 : api_Lattice} {a1 : Int} {a2 : Int} {r : Int × Int} (h : lattice_Join.f a0 a1 a2 = some r) : FnA Tryd.prog 105 [(kR f_api_Lattice).sig a0, (kI .i64).sig a1, (kI .i64).sig a2] (tup [(kI .i64).sig r.1, (kI .i64).sig r.2]) := by
  refine fnIntro Tryd.func105 rfl (by kernel_rfl) fun H0 w0 => ?_
  unfold lattice_Join.f at h
  refine wSeq ?_
  refine rg (cp (oBox tm) (s1 rfl) <| cp (oAs (cI (by decide))) trivial <| cp (oAs (cI (by decide))) trivial <| .nil) (by kernel_rfl) ?_
  refine pSeq ?_
  refine wSeq ?_
  refine wSeq ?_
  obtain ⟨y1, hy1, h⟩ := bd h
  refine rg (cp (oLd t25 tm) (s1 rfl) <| cp (oMv tm) (s1 rfl) <| cp (oMv tm) (s1 rfl) <| cp (oLit (d := (kI .i64)) el44 (by decide) rfl rfl rfl (e1 tm (e1 tm e0))) (s2 rfl rfl) <| cp (oCall rfl (lattice_there.ok hy1) b66 (opds_cons tm (opds_cons tm opds_nil))) (s2 rfl rfl) <| cp (oAs tm) (s1 rfl) <| .nil) (by kernel_rfl) ?_
  refine pSeq ?_
  refine wSeq ?_
  refine rg (cp (oMv tm) (s1 rfl) <| cp (oNe rfl tm (cI (by decide))) (s1 rfl) <| .nil) (by kernel_rfl) ?_
  refine pSeq ?_
  rcases ic h with ⟨hp2, h⟩ | ⟨hp2, h⟩
  · refine wNT hp2 tm (s1 rfl) ?_
    refine wSkip ?_
    refine pSeq ?_
    refine wSeq ?_
    obtain ⟨y3, hy3, h⟩ := bd h
    refine rg (cp (oLd t25 tm) (s1 rfl) <| cp (oMv tm) (s1 rfl) <| cp (oMv tm) (s1 rfl) <| cp (oCall rfl (lattice_join.ok hy3) b40 (opds_cons tm (opds_cons tm (opds_cons tm opds_nil)))) (s3 rfl rfl rfl) <| cp (oAs tm) (s1 rfl) <| cp (oAs (cI (by decide))) trivial <| .nil) (by kernel_rfl) ?_
    refine pSeq ?_
    refine wRet ?_
    obtain rfl := so h
    exact pRn (.inl rfl) rfl rfl (.tmp rfl <| .tmp rfl <| .nil)
  · refine wNF hp2 tm (s1 rfl) ?_
    refine wSeq ?_
    refine rg (cp (oMv tm) (s1 rfl) <| cp (oAs (cI (by decide))) trivial <| cp (oAs tm) (s1 rfl) <| .nil) (by kernel_rfl) ?_
    refine pSeq ?_
    refine wRet ?_
    refine pThenR ?_
    obtain rfl := so h
    exact pRn (.inl rfl) rfl rfl (.tmp rfl <| .tmp rfl <| .nil)

theorem lattice_Meet.ok {a0 : api_Lattice} {a1 : Int} {a2 : Int} {r : Int × Int} (h : lattice_Meet.f a0 a1 a2 = some r) : FnA Tryd.prog 106 [(kR f_api_Lattice).sig a0, (kI .i64).sig a1, (kI .i64).sig a2] (tup [(kI .i64).sig r.1, (kI .i64).sig r.2]) := by
  refine fnIntro Tryd.func106 rfl (by kernel_rfl) fun H0 w0 => ?_
  unfold lattice_Meet.f at h
  refine wSeq ?_
  refine rg (cp (oBox tm) (s1 rfl) <| cp (oAs (cI (by decide))) trivial <| cp (oAs (cI (by decide))) trivial <| .nil) (by kernel_rfl) ?_
  refine pSeq ?_
  refine wSeq ?_
  refine wSeq ?_
  obtain ⟨y1, hy1, h⟩ := bd h
  refine rg (cp (oLd t25 tm) (s1 rfl) <| cp (oMv tm) (s1 rfl) <| cp (oMv tm) (s1 rfl) <| cp (oLit (d := (kI .i64)) el44 (by decide) rfl rfl rfl (e1 tm (e1 tm e0))) (s2 rfl rfl) <| cp (oCall rfl (lattice_there.ok hy1) b66 (opds_cons tm (opds_cons tm opds_nil))) (s2 rfl rfl) <| cp (oAs tm) (s1 rfl) <| .nil) (by kernel_rfl) ?_
  refine pSeq ?_
  refine wSeq ?_
  refine rg (cp (oMv tm) (s1 rfl) <| cp (oNe rfl tm (cI (by decide))) (s1 rfl) <| .nil) (by kernel_rfl) ?_
  refine pSeq ?_
  rcases ic h with ⟨hp2, h⟩ | ⟨hp2, h⟩
  · refine wNT hp2 tm (s1 rfl) ?_
    refine wSkip ?_
    refine pSeq ?_
    refine wSeq ?_
    obtain ⟨y3, hy3, h⟩ := bd h
    refine rg (cp (oLd t25 tm) (s1 rfl) <| cp (oMv tm) (s1 rfl) <| cp (oMv tm) (s1 rfl) <| cp (oCall rfl (lattice_meet.ok hy3) b41 (opds_cons tm (opds_cons tm (opds_cons tm opds_nil)))) (s3 rfl rfl rfl) <| cp (oAs tm) (s1 rfl) <| cp (oAs (cI (by decide))) trivial <| .nil) (by kernel_rfl) ?_
    refine pSeq ?_
    refine wRet ?_
    obtain rfl := so h
    exact pRn (.inl rfl) rfl rfl (.tmp rfl <| .tmp rfl <| .nil)
  · refine wNF hp2 tm (s1 rfl) ?_
    refine wSeq ?_
    refine rg (cp (oMv tm) (s1 rfl) <| cp (oAs (cI (by decide))) trivial <| cp (oAs tm) (s1 rfl) <| .nil) (by kernel_rfl) ?_
    refine pSeq ?_
    refine wRet ?_
    refine pThenR ?_
    obtain rfl := so h
    exact pRn (.inl rfl) rfl rfl (.tmp rfl <| .tmp rfl <| .nil)

end Go.Proofs.YtmegdednaimgcaaDoor.TT
