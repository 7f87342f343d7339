import Derived.Test.YtkmobcaobmchpaaDoorCln
import Derived.Test.YtkmobcaobmchpaaDoorDMD
import Derived.Test.YtkmobcaobmchpaaDoorProg
set_option linter.unusedVariables false
set_option maxRecDepth 10000
set_option maxHeartbeats 2000000
namespace Go.Proofs.YtkmobcaobmchpaaDoor.MD
open Go Go.Proofs.YtkmobcaobmchpaaDoor.Ab

theorem hm : Tryd.prog.follows .mixedOrders = true := by kernel_rfl
theorem ze24 : zeroIs Tryd.prog 24 [(.slice none 0 0)] := by unfold zeroIs; kernel_rfl
theorem o24_0 : fofs Tryd.prog 24 0 = some 0 := by kernel_rfl
theorem t22 : tinf Tryd.prog 22 = some (false, 1) := by kernel_rfl
theorem u22 : Tryd.prog.underlying 22 = some (.slice 61) := by kernel_rfl
theorem z61 : sizeIs Tryd.prog 61 3 := by unfold sizeIs; kernel_rfl
theorem t61 : tinf Tryd.prog 61 = some (true, 3) := by kernel_rfl
theorem zL : ∀ {α : Type} {d : Kd α} (H : FH), (kL d).reps H [.slice none 0 0] [] := fun _ => ⟨none, 0, rfl, Nat.le_refl _, by omega, by simp [big], .inl rfl⟩
theorem ze61 : zeroIs Tryd.prog 61 [(.slice none 0 0), (.slice none 0 0), (.slice none 0 0)] := by unfold zeroIs; kernel_rfl
theorem o61_0 : fofs Tryd.prog 61 0 = some 0 := by kernel_rfl
theorem t59 : tinf Tryd.prog 59 = some (false, 1) := by kernel_rfl
theorem u59 : Tryd.prog.underlying 59 = some (.slice 3) := by kernel_rfl
theorem z3 : sizeIs Tryd.prog 3 1 := by unfold sizeIs; kernel_rfl
theorem o61_1 : fofs Tryd.prog 61 1 = some 1 := by kernel_rfl
theorem o61_2 : fofs Tryd.prog 61 2 = some 2 := by kernel_rfl
theorem pl61 : places Tryd.prog 61 = some [(0, 1), (1, 1), (2, 1)] := by kernel_rfl
theorem po61 : ∀ q f, f_api_Row[q]? = some f → ([(0, 1), (1, 1), (2, 1)] : List (Nat × Nat))[q]? = some (offF f_api_Row q, f.d.sz) := fun q f h => by
  unfold f_api_Row at h
  match q, h with
  | 0, h => cases h; rfl
  | 1, h => cases h; rfl
  | 2, h => cases h; rfl
  | n + 3, h => simp at h
theorem el22 : ElTy Tryd.prog 22 61 3 72 := ⟨by kernel_rfl, by kernel_rfl⟩
theorem z22 : sizeIs Tryd.prog 22 1 := by unfold sizeIs; kernel_rfl
theorem t24 : tinf Tryd.prog 24 = some (true, 1) := by kernel_rfl
theorem z24 : sizeIs Tryd.prog 24 1 := by unfold sizeIs; kernel_rfl
theorem ze194 : zeroIs Tryd.prog 194 [(.slice none 0 0)] := by unfold zeroIs; kernel_rfl
theorem t194 : tinf Tryd.prog 194 = some (false, 1) := by kernel_rfl
theorem u194 : Tryd.prog.underlying 194 = some (.slice 166) := by kernel_rfl
theorem z166 : sizeIs Tryd.prog 166 1 := by unfold sizeIs; kernel_rfl
theorem t166 : tinf Tryd.prog 166 = some (false, 1) := by kernel_rfl
theorem u166 : Tryd.prog.underlying 166 = some (.bool) := by kernel_rfl
theorem z194 : sizeIs Tryd.prog 194 1 := by unfold sizeIs; kernel_rfl
theorem t3 : tinf Tryd.prog 3 = some (false, 1) := by kernel_rfl
theorem el194 : ElTy Tryd.prog 194 166 1 1 := ⟨by kernel_rfl, by kernel_rfl⟩
theorem b141 : bodied Tryd.prog 141 := by unfold bodied; kernel_rfl
theorem b107 : bodied Tryd.prog 107 := by unfold bodied; kernel_rfl
theorem u4 : Tryd.prog.underlying 4 = some (.bool) := by kernel_rfl
theorem b73 : bodied Tryd.prog 73 := by unfold bodied; kernel_rfl
theorem b108 : bodied Tryd.prog 108 := by unfold bodied; kernel_rfl
theorem gm1 : GlobIs (kI .i64) 1 gl1 := globI (.head _) (by kernel_rfl)
theorem u171 : Tryd.prog.underlying 171 = some (.array 13 3) := by kernel_rfl
theorem b74 : bodied Tryd.prog 74 := by unfold bodied; kernel_rfl
theorem b35 : bodied Tryd.prog 35 := by unfold bodied; kernel_rfl
theorem b36 : bodied Tryd.prog 36 := by unfold bodied; kernel_rfl
theorem el69 : ElTy Tryd.prog 69 59 1 24 := ⟨by kernel_rfl, by kernel_rfl⟩
theorem u69 : Tryd.prog.underlying 69 = some (.slice 59) := by kernel_rfl
theorem z59 : sizeIs Tryd.prog 59 1 := by unfold sizeIs; kernel_rfl
theorem el59 : ElTy Tryd.prog 59 3 1 8 := ⟨by kernel_rfl, by kernel_rfl⟩
theorem u3 : Tryd.prog.underlying 3 = some (.int .i64) := by kernel_rfl
theorem ze3 : zeroIs Tryd.prog 3 [(.int .i64 0)] := by unfold zeroIs; kernel_rfl
theorem zI_i64 : ∀ H, (kI .i64).reps H [.int .i64 0] 0 := fun _ => ⟨rfl, by decide⟩
theorem b153 : bodied Tryd.prog 153 := by unfold bodied; kernel_rfl
theorem b139 : bodied Tryd.prog 139 := by unfold bodied; kernel_rfl
theorem b140 : bodied Tryd.prog 140 := by unfold bodied; kernel_rfl
theorem b75 : bodied Tryd.prog 75 := by unfold bodied; kernel_rfl
theorem b106 : bodied Tryd.prog 106 := by unfold bodied; kernel_rfl
theorem b71 : bodied Tryd.prog 71 := by unfold bodied; kernel_rfl
theorem b72 : bodied Tryd.prog 72 := by unfold bodied; kernel_rfl
theorem pl66 : places Tryd.prog 66 = some [(0, 1), (1, 1), (2, 1)] := by kernel_rfl
theorem po66 : ∀ q f, f_mutant_spot[q]? = some f → ([(0, 1), (1, 1), (2, 1)] : List (Nat × Nat))[q]? = some (offF f_mutant_spot q, f.d.sz) := fun q f h => by
  unfold f_mutant_spot at h
  match q, h with
  | 0, h => cases h; rfl
  | 1, h => cases h; rfl
  | 2, h => cases h; rfl
  | n + 3, h => simp at h
theorem ze66 : zeroIs Tryd.prog 66 [(.int .i64 0), (.int .i64 0), (.int .i64 0)] := by unfold zeroIs; kernel_rfl
theorem b10 : bodied Tryd.prog 10 := by unfold bodied; kernel_rfl
theorem ze26 : zeroIs Tryd.prog 26 [(.slice none 0 0)] := by unfold zeroIs; kernel_rfl
theorem b31 : bodied Tryd.prog 31 := by unfold bodied; kernel_rfl
theorem z66 : sizeIs Tryd.prog 66 3 := by unfold sizeIs; kernel_rfl
theorem b32 : bodied Tryd.prog 32 := by unfold bodied; kernel_rfl
theorem o66_0 : fofs Tryd.prog 66 0 = some 0 := by kernel_rfl
theorem o66_1 : fofs Tryd.prog 66 1 = some 1 := by kernel_rfl
theorem t26 : tinf Tryd.prog 26 = some (false, 1) := by kernel_rfl
theorem pl24 : places Tryd.prog 24 = some [(0, 1)] := by kernel_rfl
theorem po24 : ∀ q f, f_api_Table[q]? = some f → ([(0, 1)] : List (Nat × Nat))[q]? = some (offF f_api_Table q, f.d.sz) := fun q f h => by
  unfold f_api_Table at h
  match q, h with
  | 0, h => cases h; rfl
  | n + 1, h => simp at h
theorem el26 : ElTy Tryd.prog 26 24 1 24 := ⟨by kernel_rfl, by kernel_rfl⟩
theorem z26 : sizeIs Tryd.prog 26 1 := by unfold sizeIs; kernel_rfl
theorem b70 : bodied Tryd.prog 70 := by unfold bodied; kernel_rfl
theorem b33 : bodied Tryd.prog 33 := by unfold bodied; kernel_rfl
theorem b34 : bodied Tryd.prog 34 := by unfold bodied; kernel_rfl
theorem b38 : bodied Tryd.prog 38 := by unfold bodied; kernel_rfl
theorem b37 : bodied Tryd.prog 37 := by unfold bodied; kernel_rfl
theorem b7 : bodied Tryd.prog 7 := by unfold bodied; kernel_rfl
theorem b8 : bodied Tryd.prog 8 := by unfold bodied; kernel_rfl
theorem u26 : Tryd.prog.underlying 26 = some (.slice 24) := by kernel_rfl
theorem b11 : bodied Tryd.prog 11 := by unfold bodied; kernel_rfl
theorem b9 : bodied Tryd.prog 9 := by unfold bodied; kernel_rfl

theorem reticentlaw24_few.ok {a0 : api_Table} {r : api_Table} (h : reticentlaw24_few.f a0 = some r) : FnA Tryd.prog 7 [(kR f_api_Table).sig a0] ((kR f_api_Table).sig r) := by
  refine fnIntro Tryd.func7 rfl (by kernel_rfl) fun H0 w0 => ?_
  unfold reticentlaw24_few.f at h
  refine wSeq ?_
  refine rg (cp (oBox tm) (s1 rfl) <| cw (oAlloc (id := 2) (ls := [.d (kN api_Row) []]) ze24 (fun g => ⟨[(.slice none 0 0)], _, rfl, zN g.H, rfl⟩)) trivial <| .nil) (by kernel_rfl) ?_
  refine pSeq ?_
  refine wSeq ?_
  refine rg (cw (oAlloc (id := 3) (ls := [.d (kN api_Row) []]) ze24 (fun g => ⟨[(.slice none 0 0)], _, rfl, zN g.H, rfl⟩)) trivial <| .nil) (by kernel_rfl) ?_
  refine pSeq ?_
  refine wSeq ?_
  refine wSeq ?_
  obtain ⟨hc1, h⟩ := ib h
  refine rg (cp (oFld (fs := f_api_Table) (k := 0) rfl o24_0 tm) (s1 rfl) <| cp (oLd t22 tm) (s1 rfl) <| cp (oFld (fs := f_api_Table) (k := 0) rfl o24_0 tm) (s1 rfl) <| cp (oLd t22 tm) (s1 rfl) <| cp (oLenL u22 tm) (s1 rfl) <| cp (oMin tm (cI (by decide))) (s1 rfl) <| cp (oCutHi u22 z61 hc1.1 hc1.2 tm tm) (s2 rfl rfl) <| cp (oLenL u22 tm) (s1 rfl) <| cp (oMv (cI (by decide))) trivial <| .nil) (by kernel_rfl) ?_
  refine pSeq ?_
  refine wNilL (kR f_api_Row) 61 5150 (n := 0) (k := 0) rfl rfl rfl ?_
  obtain ⟨o1, h, hk1⟩ := bd h
  refine wK1 (fun x16 => x16 = o1) (fun x16 => [(2, .p 2 0), (3, .p 3 0)]) (fun x16 => [.row 5150 61 (kR f_api_Row) x16, .box 3 24 [.v 5150], .box 2 24 [.d (kN api_Row) []]]) ?_ ?_
  · refine wBlock (wLoop ?_)
    refine lW (pc2 o1 (fun v14 v15 => [(2, .p 2 0), (3, .p 3 0), (12, .d ((kL (kR f_api_Row)).sig (lCut a0.Rows 0 (if 15 < (a0.Rows.length : Int) then 15 else (a0.Rows.length : Int))))), (13, .d ((kI .i64).sig ((lCut a0.Rows 0 (if 15 < (a0.Rows.length : Int) then 15 else (a0.Rows.length : Int))).length : Int))), (14, .d ((kI .i64).sig v15))]) (fun v14 v15 => [.row 5150 61 (kR f_api_Row) v14, .box 3 24 [.v 5150], .box 2 24 [.d (kN api_Row) []]]) (reticentlaw24_few.l0.partial_correctness a0) ?_ _ _ h) ⟨rfl, rfl, rfl, rfl, rfl, trivial⟩ rfl
    clear h
    intro f' ih v14 v15 h
    refine wSeq ?_
    refine rg (cp (oLt rfl tm tm) (s2 rfl rfl) <| .nil) (by kernel_rfl) ?_
    refine pSeq ?_
    refine wSeq ?_
    rcases ic h with ⟨hp17, h⟩ | ⟨hp17, h⟩
    · refine wCT hp17 tm (s1 rfl) ?_
      refine wSkip ?_
      refine pSeq ?_
      refine wSeq ?_
      refine wBlock ?_
      refine wSeq ?_
      obtain ⟨y18, hy18, h⟩ := bd h
      refine rg (cp (oIdx u22 z61 hy18 tm tm) (s2 rfl rfl) <| cp (oLd t61 tm) (s1 rfl) <| cw (oAlloc (id := 5) (ls := [.d (kL (kI .i64)) [], .d (kL (kI .i64)) [], .d (kL (kI .i64)) []]) ze61 (fun g => ⟨[(.slice none 0 0)], _, rfl, zL g.H, ⟨[(.slice none 0 0)], _, rfl, zL g.H, ⟨[(.slice none 0 0)], _, rfl, zL g.H, rfl⟩⟩⟩)) trivial <| cwn (oStA (n := 0) (fs := f_api_Row) rfl rfl z61 tm tm) (s2 rfl rfl) <| .nil) (by kernel_rfl) ?_
      refine pSeq ?_
      obtain ⟨hc19, h⟩ := ib h
      obtain ⟨hc20, h⟩ := ib h
      obtain ⟨hc21, h⟩ := ib h
      obtain ⟨hc22, h⟩ := ib h
      refine rgD hm (cp (oFldP o24_0 tm) (s1 rfl) <| cr (oLdN (n := 2) (k := 0) rfl rfl rfl t22 tm) (s1 rfl) <| cp (oFldP o61_0 tm) (s1 rfl) <| cr (oLdB (n := 0) (k := 0) rfl rfl rfl t59 tm) (s1 rfl) <| cp (oFldP o61_0 tm) (s1 rfl) <| cr (oLdB (n := 0) (k := 0) rfl rfl rfl t59 tm) (s1 rfl) <| cp (oLenL u59 tm) (s1 rfl) <| cp (oMin tm (cI (by decide))) (s1 rfl) <| cp (oCutHi u59 z3 hc19.1 hc19.2 tm tm) (s2 rfl rfl) <| cp (oFldP o61_1 tm) (s1 rfl) <| cr (oLdB (n := 0) (k := 1) rfl rfl rfl t59 tm) (s1 rfl) <| cp (oFldP o61_1 tm) (s1 rfl) <| cr (oLdB (n := 0) (k := 1) rfl rfl rfl t59 tm) (s1 rfl) <| cp (oLenL u59 tm) (s1 rfl) <| cp (oMin tm (cI (by decide))) (s1 rfl) <| cp (oCutHi u59 z3 hc20.1 hc20.2 tm tm) (s2 rfl rfl) <| cp (oFldP o61_2 tm) (s1 rfl) <| cr (oLdB (n := 0) (k := 2) rfl rfl rfl t59 tm) (s1 rfl) <| cp (oFldP o61_2 tm) (s1 rfl) <| cr (oLdB (n := 0) (k := 2) rfl rfl rfl t59 tm) (s1 rfl) <| cp (oLenL u59 tm) (s1 rfl) <| cp (oMin tm (cI (by decide))) (s1 rfl) <| cp (oCutHi u59 z3 hc21.1 hc21.2 tm tm) (s2 rfl rfl) <| cp (oBuild (fs := f_api_Row) (u := ⟨lCut y18.May 0 (if 45 < (y18.May.length : Int) then 45 else (y18.May.length : Int)), lCut y18.Res 0 (if 45 < (y18.Res.length : Int) then 45 else (y18.Res.length : Int)), lCut y18.Pc 0 (if 45 < (y18.Pc.length : Int) then 45 else (y18.Pc.length : Int))⟩) rfl ze61 pl61 po61 (.op (zc := [(.slice none 0 0)]) tm rfl (.op (zc := [(.slice none 0 0)]) tm rfl (.op (zc := [(.slice none 0 0)]) tm rfl .nil)))) (s3 rfl rfl rfl) <| cp (oLit (d := (kR f_api_Row)) el22 (by decide) rfl rfl rfl (e1 tm e0)) (s1 rfl) <| cw (oApp (n := 1) (id' := 43) el22 (by decide) rfl (by decide) hc22 tm tm) (s2 rfl rfl) <| cp (oFldP o24_0 tm) (s1 rfl) <| cwn (oStN (n := 2) (m := 1) (k := 0) rfl rfl rfl rfl z22 rfl tm tm) (s2 rfl rfl) <| .nil) (by kernel_rfl) (by kernel_rfl) ?_
      refine pBlkN ?_
      refine pSeq ?_
      refine rg (cp (oAdd tm (cI (by decide))) (s1 rfl) <| cp (oMv tm) (s1 rfl) <| .nil) (by kernel_rfl) ?_
      refine pDrop (.cons _ (.cons_cons _ (.cons_cons _ (.cons_cons _ .slnil)))) ?_
      refine pSub (Γ' := [(2, .p 2 0), (3, .p 3 0), (12, .d ((kL (kR f_api_Row)).sig (lCut a0.Rows 0 (if 15 < (a0.Rows.length : Int) then 15 else (a0.Rows.length : Int))))), (13, .d ((kI .i64).sig ((lCut a0.Rows 0 (if 15 < (a0.Rows.length : Int) then 15 else (a0.Rows.length : Int))).length : Int))), (14, .d ((kI .i64).sig (IntKind.i64.wrap (v15 + 1))))]) ⟨rfl, rfl, rfl, rfl, rfl, trivial⟩ ?_
      refine pRen 43 5150 rfl ?_
      exact pLoop (lW (ih _ _ h) ⟨rfl, rfl, rfl, rfl, rfl, trivial⟩ rfl)
    · refine wCF hp17 tm (s1 rfl) ?_
      refine wExit ?_
      refine pThenX ?_
      refine pThenX ?_
      refine pBlkX ?_
      exact pJ1 _ (so h) ⟨rfl, rfl, trivial⟩ rfl
  · rintro x16 rfl
    replace h := hk1
    refine pSeq ?_
    refine wSeq ?_
    refine wFrzR (n := 0) (id := 5150) [] rfl rfl trivial ?_
    refine rg (cr (oLdA (n := 0) (fs := f_api_Table) (u := ⟨x16⟩) rfl ⟨rfl, trivial⟩ t24 tm) (s1 rfl) <| cwn (oStA (n := 1) (fs := f_api_Table) rfl rfl z24 tm tm) (s2 rfl rfl) <| .nil) (by kernel_rfl) ?_
    refine pSeq ?_
    refine wRet ?_
    obtain rfl := so h
    exact pR1 (.inl rfl) rfl (.box (n := 1) (fs := f_api_Table) (u := ⟨x16⟩) rfl rfl ⟨rfl, trivial⟩ t24 <| .nil)

theorem rule_made_1.ok {a0 : Bool} {a1 : List Bool} {r : (List Bool) × Bool} (h : rule_made_1.f a0 a1 = some r) : FnS Tryd.prog 141 [.d (kB.sig a0), .p 70100 0] [.box 70100 194 [.v 70101], .row 70101 166 kB a1] [70100] (.d (kB.sig r.2)) [.box 70100 194 [.v 70101], .row 70101 166 kB r.1] := by
  refine fnIntroS Tryd.func141 rfl (by kernel_rfl) fun X H0 w0 pv => ?_
  unfold rule_made_1.f at h
  refine wSeq ?_
  refine rg (cp (oAs cB) trivial <| .nil) (by kernel_rfl) ?_
  refine pSeq ?_
  refine wSeq ?_
  refine rg (cr (oLdN (n := 0) (k := 0) rfl rfl rfl t194 tm) (s1 rfl) <| cr (oLenR (n := 1) u194 rfl tm) (s1 rfl) <| cp (oSub tm (cI (by decide))) (s1 rfl) <| cp (oAs tm) (s1 rfl) <| .nil) (by kernel_rfl) ?_
  refine pSeq ?_
  refine wSeq ?_
  refine wWeak (Γ' := [(0, .d (kB.sig a0)), (1, .p 70100 0), (4, .d ((kI .i64).sig (IntKind.i64.wrap ((a1.length : Int) - 1))))]) ⟨rfl, rfl, rfl, trivial⟩ ?_
  refine wRen 70101 3510000 rfl ?_
  obtain ⟨o1, h, hk1⟩ := bd h
  refine wJ1 (fun x5 => x5 = o1) (fun x5 => [(1, .p 70100 0), (4, .d ((kI .i64).sig (IntKind.i64.wrap ((a1.length : Int) - 1)))), (26, .d (kB.sig x5))]) (fun x5 => [.box 70100 194 [.v 3510000], .row 3510000 166 kB a1]) ?_ ?_
  · rcases ic h with ⟨hp6, h⟩ | ⟨hp6, h⟩
    · refine rg (cp (oMv tm) (s1 rfl) <| cp (oLt rfl tm (cI (by decide))) (s1 rfl) <| cp (oMv tm) (s1 rfl) <| csB (decide_eq_true hp6) rfl rfl <| csB (decide_eq_true hp6) rfl rfl <| csB (decide_eq_true hp6) rfl rfl <| csB (decide_eq_true hp6) rfl rfl <| csB (decide_eq_true hp6) rfl rfl <| csB (decide_eq_true hp6) rfl rfl <| cp (oPkT (decide_eq_true hp6) tm cB) (s1 rfl) <| cp (oMv tm) (s1 rfl) <| csB rfl rfl rfl <| csB rfl rfl rfl <| csB rfl rfl rfl <| csB rfl rfl rfl <| csB rfl rfl rfl <| csB rfl rfl rfl <| csB rfl rfl rfl <| cp (oPkT rfl tm cB) (s1 rfl) <| .nil) (by kernel_rfl) ?_
      exact pJ1 _ (so h) ⟨rfl, rfl, rfl, trivial⟩ rfl
    · obtain ⟨y7, hy7, h⟩ := bd h
      rcases ic h with ⟨hp8, h⟩ | ⟨hp8, h⟩
      · obtain ⟨y9, hy9, h⟩ := bd h
        refine rg (cp (oMv tm) (s1 rfl) <| cp (oLt rfl tm (cI (by decide))) (s1 rfl) <| cp (oMv tm) (s1 rfl) <| crgB (decide_eq_false hp6) rfl rfl (oLdN (n := 0) (k := 0) rfl rfl rfl t194 tm) (s1 rfl) <| cgB (decide_eq_false hp6) rfl rfl (oMv tm) (s1 rfl) <| crgB (decide_eq_false hp6) rfl rfl (oIdxR (n := 1) u194 z166 rfl hy7 tm tm) (s2 rfl rfl) <| crgB (decide_eq_false hp6) rfl rfl (oLdE (n := 1) rfl hy7 rfl t166 tm) (s1 rfl) <| cgB (decide_eq_false hp6) rfl rfl (oMv tm) (s1 rfl) <| cgB (decide_eq_false hp6) rfl rfl (oBNe u166 rfl tm tm) (s2 rfl rfl) <| cp (oPkF (decide_eq_false hp6) tm tm) (s2 rfl rfl) <| cp (oMv tm) (s1 rfl) <| crgB (nf hp8) rfl rfl (oLdN (n := 0) (k := 0) rfl rfl rfl t194 tm) (s1 rfl) <| cgB (nf hp8) rfl rfl (oMv tm) (s1 rfl) <| cgB (nf hp8) rfl rfl (oSub tm (cI (by decide))) (s1 rfl) <| crgB (nf hp8) rfl rfl (oIdxR (n := 1) u194 z166 rfl hy9 tm tm) (s2 rfl rfl) <| crgB (nf hp8) rfl rfl (oLdE (n := 1) rfl hy9 rfl t166 tm) (s1 rfl) <| cgB (nf hp8) rfl rfl (oMv tm) (s1 rfl) <| cgB (nf hp8) rfl rfl (oBNe u166 rfl tm tm) (s2 rfl rfl) <| cp (oPkF (nf hp8) tm tm) (s2 rfl rfl) <| .nil) (by kernel_rfl) ?_
        exact pJ1 _ (so h) ⟨rfl, rfl, rfl, trivial⟩ rfl
      · refine rg (cp (oMv tm) (s1 rfl) <| cp (oLt rfl tm (cI (by decide))) (s1 rfl) <| cp (oMv tm) (s1 rfl) <| crgB (decide_eq_false hp6) rfl rfl (oLdN (n := 0) (k := 0) rfl rfl rfl t194 tm) (s1 rfl) <| cgB (decide_eq_false hp6) rfl rfl (oMv tm) (s1 rfl) <| crgB (decide_eq_false hp6) rfl rfl (oIdxR (n := 1) u194 z166 rfl hy7 tm tm) (s2 rfl rfl) <| crgB (decide_eq_false hp6) rfl rfl (oLdE (n := 1) rfl hy7 rfl t166 tm) (s1 rfl) <| cgB (decide_eq_false hp6) rfl rfl (oMv tm) (s1 rfl) <| cgB (decide_eq_false hp6) rfl rfl (oBNe u166 rfl tm tm) (s2 rfl rfl) <| cp (oPkF (decide_eq_false hp6) tm tm) (s2 rfl rfl) <| cp (oMv tm) (s1 rfl) <| csB (nt hp8) rfl rfl <| csB (nt hp8) rfl rfl <| csB (nt hp8) rfl rfl <| csB (nt hp8) rfl rfl <| csB (nt hp8) rfl rfl <| csB (nt hp8) rfl rfl <| csB (nt hp8) rfl rfl <| cp (oPkT (nt hp8) tm cB) (s1 rfl) <| .nil) (by kernel_rfl) ?_
        exact pJ1 _ (so h) ⟨rfl, rfl, rfl, trivial⟩ rfl
  · rintro x5 rfl
    replace h := hk1
    rcases ic h with ⟨hp10, h⟩ | ⟨hp10, h⟩
    · refine wBT hp10 tm (s1 rfl) ?_
      refine wSeq ?_
      refine rg (cp (oAs cB) trivial <| .nil) (by kernel_rfl) ?_
      refine pSeq ?_
      refine wRet ?_
      refine pThenR ?_
      obtain rfl := so h
      refine pSub (Γ' := [(3, .d (kB.sig false))]) ⟨rfl, trivial⟩ ?_
      refine pRen 3510000 70101 rfl ?_
      exact pS1 [0, 1] rfl rfl (.inl rfl) rfl (.tmp rfl <| .nil)
    · refine wBF hp10 tm (s1 rfl) ?_
      refine wSkip ?_
      refine pSeq ?_
      refine wSeq ?_
      obtain ⟨hc11, h⟩ := ib h
      refine rg (cr (oLdN (n := 0) (k := 0) rfl rfl rfl t194 tm) (s1 rfl) <| cp (oMv tm) (s1 rfl) <| cp (oSub tm (cI (by decide))) (s1 rfl) <| cw (oCutR (n := 1) (id' := 30) u194 z166 rfl hc11.1 hc11.2 tm tm) (s2 rfl rfl) <| cwn (oStN (n := 0) (m := 1) (k := 0) rfl rfl rfl rfl z194 rfl tm tm) (s2 rfl rfl) <| .nil) (by kernel_rfl) ?_
      refine pSeq ?_
      refine wSeq ?_
      refine rg (cp (oAs cB) trivial <| .nil) (by kernel_rfl) ?_
      refine pSeq ?_
      refine wRet ?_
      obtain rfl := so h
      refine pSub (Γ' := [(3, .d (kB.sig true))]) ⟨rfl, trivial⟩ ?_
      refine pRen 30 70101 rfl ?_
      exact pS1 [0, 1] rfl rfl (.inl rfl) rfl (.tmp rfl <| .nil)

theorem rule_made.ok {a0 : List Int} {r : Bool × Bool} (h : rule_made.f a0 = some r) : FnA Tryd.prog 107 [(kL (kI .i64)).sig a0] (tup [kB.sig r.1, kB.sig r.2]) := by
  refine fnIntro Tryd.func107 rfl (by kernel_rfl) fun H0 w0 => ?_
  unfold rule_made.f at h
  refine wSeq ?_
  refine rg (cp (oAs cB) trivial <| cp (oAs cB) trivial <| .nil) (by kernel_rfl) ?_
  refine pSeq ?_
  refine wSeq ?_
  refine rg (cw (oAlloc (id := 4) (ls := [.d (kN Bool) []]) ze194 (fun g => ⟨[(.slice none 0 0)], _, rfl, zN g.H, rfl⟩)) trivial <| .nil) (by kernel_rfl) ?_
  refine pSeq ?_
  refine wSeq ?_
  refine rg (cp (oMkN (ids := [4]) (caps := [none]) rfl (oNp tm oN0)) (s1 rfl) <| cp (oAs tm) (s1 rfl) <| .nil) (by kernel_rfl) ?_
  refine pSeq ?_
  refine wSeq ?_
  refine wSeq ?_
  refine rg (cp (oMv tm) (s1 rfl) <| cp (oLenL u59 tm) (s1 rfl) <| cp (oMv (cI (by decide))) trivial <| .nil) (by kernel_rfl) ?_
  refine pSeq ?_
  refine wNilL kB 166 5200 (n := 0) (k := 0) rfl rfl rfl ?_
  obtain ⟨o1, h, hk1⟩ := bd h
  refine wK1 (fun x271 => .inr x271 = o1) (fun x271 => [(0, .d ((kL (kI .i64)).sig a0)), (4, .p 4 0)]) (fun x271 => [.row 5200 166 kB x271, .box 4 194 [.v 5200]]) ?_ ?_
  · refine wBlock (wLoop ?_)
    refine lW (pc2 o1 (fun v269 v270 => [(0, .d ((kL (kI .i64)).sig a0)), (4, .p 4 0), (5, .f [4] (sCloN 141 [none])), (10, .d ((kL (kI .i64)).sig a0)), (11, .d ((kI .i64).sig (a0.length : Int))), (12, .d ((kI .i64).sig v270))]) (fun v269 v270 => [.row 5200 166 kB v269, .box 4 194 [.v 5200]]) (rule_made.l0.partial_correctness a0) ?_ _ _ h) ⟨rfl, rfl, rfl, rfl, rfl, rfl, trivial⟩ rfl
    clear h
    intro f' ih v269 v270 h
    refine wSeq ?_
    refine rg (cp (oLt rfl tm tm) (s2 rfl rfl) <| .nil) (by kernel_rfl) ?_
    refine pSeq ?_
    refine wSeq ?_
    rcases ic h with ⟨hp272, h⟩ | ⟨hp272, h⟩
    · refine wCT hp272 tm (s1 rfl) ?_
      refine wSkip ?_
      refine pSeq ?_
      obtain ⟨o2, h, hk2⟩ := bd h
      refine wJ1 (fun x339 => .inr x339 = o2) (fun x339 => [(0, .d ((kL (kI .i64)).sig a0)), (4, .p 4 0), (5, .f [4] (sCloN 141 [none])), (10, .d ((kL (kI .i64)).sig a0)), (11, .d ((kI .i64).sig (a0.length : Int))), (12, .d ((kI .i64).sig v270))]) (fun x339 => [.row 5200 166 kB x339, .box 4 194 [.v 5200]]) ?_ ?_
      · refine wBlock ?_
        refine wSeq ?_
        obtain ⟨y340, hy340, h⟩ := bd h
        refine rg (cp (oIdx u59 z3 hy340 tm tm) (s2 rfl rfl) <| cp (oLd t3 tm) (s1 rfl) <| cp (oAs tm) (s1 rfl) <| .nil) (by kernel_rfl) ?_
        refine pSeq ?_
        refine wSeq ?_
        refine rg (cp (oAs cB) trivial <| .nil) (by kernel_rfl) ?_
        refine pSeq ?_
        refine wSeq ?_
        refine wSeq ?_
        refine rg (cp (oMv tm) (s1 rfl) <| .nil) (by kernel_rfl) ?_
        refine pSeq ?_
        obtain ⟨o3, h, hk3⟩ := bd h
        refine wK2 (fun x372 x373 => (x372, x373) = o3) (fun x372 x373 => [(0, .d ((kL (kI .i64)).sig a0)), (4, .p 4 0), (5, .f [4] (sCloN 141 [none])), (8, .d (kB.sig x373)), (10, .d ((kL (kI .i64)).sig a0)), (11, .d ((kI .i64).sig (a0.length : Int))), (12, .d ((kI .i64).sig v270))]) (fun x372 x373 => [.row 5200 166 kB x372, .box 4 194 [.v 5200]]) ?_ ?_
        · refine wBlock ?_
          refine wSeq ?_
          refine wSeq ?_
          refine rg (cp (oEq rfl tm (cI (by decide))) (s1 rfl) <| cp (oAs tm) (s1 rfl) <| .nil) (by kernel_rfl) ?_
          refine pSeq ?_
          rcases ic h with ⟨hp374, h⟩ | ⟨hp374, h⟩
          · refine wCT hp374 tm (s1 rfl) ?_
            refine wSkip ?_
            refine pSeq ?_
            refine wCT hp374 tm (s1 rfl) ?_
            obtain ⟨hc375, h⟩ := ib h
            refine rg (cr (oLdN (n := 1) (k := 0) rfl rfl rfl t194 tm) (s1 rfl) <| cp (oLit (d := kB) el194 (by decide) rfl rfl rfl (e1 cB e0)) trivial <| cw (oApp (n := 0) (id' := 22) el194 (by decide) rfl (by decide) hc375 tm tm) (s2 rfl rfl) <| cwn (oStN (n := 1) (m := 0) (k := 0) rfl rfl rfl rfl z194 rfl tm tm) (s2 rfl rfl) <| .nil) (by kernel_rfl) ?_
            refine pBlkN ?_
            refine pSub (Γ' := [(0, .d ((kL (kI .i64)).sig a0)), (4, .p 4 0), (5, .f [4] (sCloN 141 [none])), (8, .d (kB.sig true)), (10, .d ((kL (kI .i64)).sig a0)), (11, .d ((kI .i64).sig (a0.length : Int))), (12, .d ((kI .i64).sig v270))]) ⟨rfl, rfl, rfl, rfl, rfl, rfl, rfl, trivial⟩ ?_
            refine pRen 22 5200 rfl ?_
            exact pJ2 _ _ (so h) ⟨rfl, rfl, rfl, rfl, rfl, rfl, rfl, trivial⟩ rfl
          · refine wCF hp374 tm (s1 rfl) ?_
            refine rg (cp (oEq rfl tm (cI (by decide))) (s1 rfl) <| cp (oAs tm) (s1 rfl) <| .nil) (by kernel_rfl) ?_
            refine pSeq ?_
            rcases ic h with ⟨hp376, h⟩ | ⟨hp376, h⟩
            · refine wCT hp376 tm (s1 rfl) ?_
              obtain ⟨hc377, h⟩ := ib h
              refine rg (cr (oLdN (n := 1) (k := 0) rfl rfl rfl t194 tm) (s1 rfl) <| cp (oLit (d := kB) el194 (by decide) rfl rfl rfl (e1 cB e0)) trivial <| cw (oApp (n := 0) (id' := 22) el194 (by decide) rfl (by decide) hc377 tm tm) (s2 rfl rfl) <| cwn (oStN (n := 1) (m := 0) (k := 0) rfl rfl rfl rfl z194 rfl tm tm) (s2 rfl rfl) <| .nil) (by kernel_rfl) ?_
              refine pBlkN ?_
              refine pSub (Γ' := [(0, .d ((kL (kI .i64)).sig a0)), (4, .p 4 0), (5, .f [4] (sCloN 141 [none])), (8, .d (kB.sig true)), (10, .d ((kL (kI .i64)).sig a0)), (11, .d ((kI .i64).sig (a0.length : Int))), (12, .d ((kI .i64).sig v270))]) ⟨rfl, rfl, rfl, rfl, rfl, rfl, rfl, trivial⟩ ?_
              refine pRen 22 5200 rfl ?_
              exact pJ2 _ _ (so h) ⟨rfl, rfl, rfl, rfl, rfl, rfl, rfl, trivial⟩ rfl
            · refine wCF hp376 tm (s1 rfl) ?_
              refine wSeq ?_
              refine wSeq ?_
              refine rg (cp (oEq rfl tm (cI (by decide))) (s1 rfl) <| cp (oAs tm) (s1 rfl) <| .nil) (by kernel_rfl) ?_
              refine pSeq ?_
              rcases ic h with ⟨hp378, h⟩ | ⟨hp378, h⟩
              · refine wCT hp378 tm (s1 rfl) ?_
                refine wSkip ?_
                refine pSeq ?_
                refine wCT hp378 tm (s1 rfl) ?_
                obtain ⟨hc379, h⟩ := ib h
                refine rg (cr (oLdN (n := 1) (k := 0) rfl rfl rfl t194 tm) (s1 rfl) <| cp (oLit (d := kB) el194 (by decide) rfl rfl rfl (e1 cB e0)) trivial <| cw (oApp (n := 0) (id' := 32) el194 (by decide) rfl (by decide) hc379 tm tm) (s2 rfl rfl) <| cwn (oStN (n := 1) (m := 0) (k := 0) rfl rfl rfl rfl z194 rfl tm tm) (s2 rfl rfl) <| .nil) (by kernel_rfl) ?_
                refine pBlkN ?_
                refine pSub (Γ' := [(0, .d ((kL (kI .i64)).sig a0)), (4, .p 4 0), (5, .f [4] (sCloN 141 [none])), (8, .d (kB.sig true)), (10, .d ((kL (kI .i64)).sig a0)), (11, .d ((kI .i64).sig (a0.length : Int))), (12, .d ((kI .i64).sig v270))]) ⟨rfl, rfl, rfl, rfl, rfl, rfl, rfl, trivial⟩ ?_
                refine pRen 32 5200 rfl ?_
                exact pJ2 _ _ (so h) ⟨rfl, rfl, rfl, rfl, rfl, rfl, rfl, trivial⟩ rfl
              · refine wCF hp378 tm (s1 rfl) ?_
                refine wSeq ?_
                refine rg (cp (oEq rfl tm (cI (by decide))) (s1 rfl) <| cp (oAs tm) (s1 rfl) <| .nil) (by kernel_rfl) ?_
                refine pSeq ?_
                rcases ic h with ⟨hp380, h⟩ | ⟨hp380, h⟩
                · refine wCT hp380 tm (s1 rfl) ?_
                  refine wSkip ?_
                  refine pSeq ?_
                  refine wCT hp380 tm (s1 rfl) ?_
                  obtain ⟨hc381, h⟩ := ib h
                  refine rg (cr (oLdN (n := 1) (k := 0) rfl rfl rfl t194 tm) (s1 rfl) <| cp (oLit (d := kB) el194 (by decide) rfl rfl rfl (e1 cB e0)) trivial <| cw (oApp (n := 0) (id' := 32) el194 (by decide) rfl (by decide) hc381 tm tm) (s2 rfl rfl) <| cwn (oStN (n := 1) (m := 0) (k := 0) rfl rfl rfl rfl z194 rfl tm tm) (s2 rfl rfl) <| .nil) (by kernel_rfl) ?_
                  refine pBlkN ?_
                  refine pSub (Γ' := [(0, .d ((kL (kI .i64)).sig a0)), (4, .p 4 0), (5, .f [4] (sCloN 141 [none])), (8, .d (kB.sig true)), (10, .d ((kL (kI .i64)).sig a0)), (11, .d ((kI .i64).sig (a0.length : Int))), (12, .d ((kI .i64).sig v270))]) ⟨rfl, rfl, rfl, rfl, rfl, rfl, rfl, trivial⟩ ?_
                  refine pRen 32 5200 rfl ?_
                  exact pJ2 _ _ (so h) ⟨rfl, rfl, rfl, rfl, rfl, rfl, rfl, trivial⟩ rfl
                · refine wCF hp380 tm (s1 rfl) ?_
                  refine wSeq ?_
                  refine rg (cp (oEq rfl tm (cI (by decide))) (s1 rfl) <| cp (oAs tm) (s1 rfl) <| .nil) (by kernel_rfl) ?_
                  refine pSeq ?_
                  rcases ic h with ⟨hp382, h⟩ | ⟨hp382, h⟩
                  · refine wCT hp382 tm (s1 rfl) ?_
                    refine wSkip ?_
                    refine pSeq ?_
                    refine wCT hp382 tm (s1 rfl) ?_
                    obtain ⟨hc383, h⟩ := ib h
                    refine rg (cr (oLdN (n := 1) (k := 0) rfl rfl rfl t194 tm) (s1 rfl) <| cp (oLit (d := kB) el194 (by decide) rfl rfl rfl (e1 cB e0)) trivial <| cw (oApp (n := 0) (id' := 32) el194 (by decide) rfl (by decide) hc383 tm tm) (s2 rfl rfl) <| cwn (oStN (n := 1) (m := 0) (k := 0) rfl rfl rfl rfl z194 rfl tm tm) (s2 rfl rfl) <| .nil) (by kernel_rfl) ?_
                    refine pBlkN ?_
                    refine pSub (Γ' := [(0, .d ((kL (kI .i64)).sig a0)), (4, .p 4 0), (5, .f [4] (sCloN 141 [none])), (8, .d (kB.sig true)), (10, .d ((kL (kI .i64)).sig a0)), (11, .d ((kI .i64).sig (a0.length : Int))), (12, .d ((kI .i64).sig v270))]) ⟨rfl, rfl, rfl, rfl, rfl, rfl, rfl, trivial⟩ ?_
                    refine pRen 32 5200 rfl ?_
                    exact pJ2 _ _ (so h) ⟨rfl, rfl, rfl, rfl, rfl, rfl, rfl, trivial⟩ rfl
                  · refine wCF hp382 tm (s1 rfl) ?_
                    refine wSeq ?_
                    refine rg (cp (oEq rfl tm (cI (by decide))) (s1 rfl) <| cp (oAs tm) (s1 rfl) <| .nil) (by kernel_rfl) ?_
                    refine pSeq ?_
                    rcases ic h with ⟨hp384, h⟩ | ⟨hp384, h⟩
                    · refine wCT hp384 tm (s1 rfl) ?_
                      refine wSkip ?_
                      refine pSeq ?_
                      refine wCT hp384 tm (s1 rfl) ?_
                      obtain ⟨hc385, h⟩ := ib h
                      refine rg (cr (oLdN (n := 1) (k := 0) rfl rfl rfl t194 tm) (s1 rfl) <| cp (oLit (d := kB) el194 (by decide) rfl rfl rfl (e1 cB e0)) trivial <| cw (oApp (n := 0) (id' := 32) el194 (by decide) rfl (by decide) hc385 tm tm) (s2 rfl rfl) <| cwn (oStN (n := 1) (m := 0) (k := 0) rfl rfl rfl rfl z194 rfl tm tm) (s2 rfl rfl) <| .nil) (by kernel_rfl) ?_
                      refine pBlkN ?_
                      refine pSub (Γ' := [(0, .d ((kL (kI .i64)).sig a0)), (4, .p 4 0), (5, .f [4] (sCloN 141 [none])), (8, .d (kB.sig true)), (10, .d ((kL (kI .i64)).sig a0)), (11, .d ((kI .i64).sig (a0.length : Int))), (12, .d ((kI .i64).sig v270))]) ⟨rfl, rfl, rfl, rfl, rfl, rfl, rfl, trivial⟩ ?_
                      refine pRen 32 5200 rfl ?_
                      exact pJ2 _ _ (so h) ⟨rfl, rfl, rfl, rfl, rfl, rfl, rfl, trivial⟩ rfl
                    · refine wCF hp384 tm (s1 rfl) ?_
                      refine wSeq ?_
                      refine rg (cp (oEq rfl tm (cI (by decide))) (s1 rfl) <| cp (oAs tm) (s1 rfl) <| .nil) (by kernel_rfl) ?_
                      refine pSeq ?_
                      rcases ic h with ⟨hp386, h⟩ | ⟨hp386, h⟩
                      · refine wCT hp386 tm (s1 rfl) ?_
                        refine wSkip ?_
                        refine pSeq ?_
                        refine wCT hp386 tm (s1 rfl) ?_
                        obtain ⟨hc387, h⟩ := ib h
                        refine rg (cr (oLdN (n := 1) (k := 0) rfl rfl rfl t194 tm) (s1 rfl) <| cp (oLit (d := kB) el194 (by decide) rfl rfl rfl (e1 cB e0)) trivial <| cw (oApp (n := 0) (id' := 32) el194 (by decide) rfl (by decide) hc387 tm tm) (s2 rfl rfl) <| cwn (oStN (n := 1) (m := 0) (k := 0) rfl rfl rfl rfl z194 rfl tm tm) (s2 rfl rfl) <| .nil) (by kernel_rfl) ?_
                        refine pBlkN ?_
                        refine pSub (Γ' := [(0, .d ((kL (kI .i64)).sig a0)), (4, .p 4 0), (5, .f [4] (sCloN 141 [none])), (8, .d (kB.sig true)), (10, .d ((kL (kI .i64)).sig a0)), (11, .d ((kI .i64).sig (a0.length : Int))), (12, .d ((kI .i64).sig v270))]) ⟨rfl, rfl, rfl, rfl, rfl, rfl, rfl, trivial⟩ ?_
                        refine pRen 32 5200 rfl ?_
                        exact pJ2 _ _ (so h) ⟨rfl, rfl, rfl, rfl, rfl, rfl, rfl, trivial⟩ rfl
                      · refine wCF hp386 tm (s1 rfl) ?_
                        refine rg (cp (oEq rfl tm (cI (by decide))) (s1 rfl) <| cp (oAs tm) (s1 rfl) <| .nil) (by kernel_rfl) ?_
                        refine pSeq ?_
                        rcases ic h with ⟨hp388, h⟩ | ⟨hp388, h⟩
                        · refine wCT hp388 tm (s1 rfl) ?_
                          obtain ⟨hc389, h⟩ := ib h
                          refine rg (cr (oLdN (n := 1) (k := 0) rfl rfl rfl t194 tm) (s1 rfl) <| cp (oLit (d := kB) el194 (by decide) rfl rfl rfl (e1 cB e0)) trivial <| cw (oApp (n := 0) (id' := 32) el194 (by decide) rfl (by decide) hc389 tm tm) (s2 rfl rfl) <| cwn (oStN (n := 1) (m := 0) (k := 0) rfl rfl rfl rfl z194 rfl tm tm) (s2 rfl rfl) <| .nil) (by kernel_rfl) ?_
                          refine pBlkN ?_
                          refine pSub (Γ' := [(0, .d ((kL (kI .i64)).sig a0)), (4, .p 4 0), (5, .f [4] (sCloN 141 [none])), (8, .d (kB.sig true)), (10, .d ((kL (kI .i64)).sig a0)), (11, .d ((kI .i64).sig (a0.length : Int))), (12, .d ((kI .i64).sig v270))]) ⟨rfl, rfl, rfl, rfl, rfl, rfl, rfl, trivial⟩ ?_
                          refine pRen 32 5200 rfl ?_
                          exact pJ2 _ _ (so h) ⟨rfl, rfl, rfl, rfl, rfl, rfl, rfl, trivial⟩ rfl
                        · refine wCF hp388 tm (s1 rfl) ?_
                          refine wSeq ?_
                          refine wSeq ?_
                          refine rg (cp (oEq rfl tm (cI (by decide))) (s1 rfl) <| cp (oAs tm) (s1 rfl) <| .nil) (by kernel_rfl) ?_
                          refine pSeq ?_
                          rcases ic h with ⟨hp390, h⟩ | ⟨hp390, h⟩
                          · refine wCT hp390 tm (s1 rfl) ?_
                            refine wSkip ?_
                            refine pSeq ?_
                            refine wCT hp390 tm (s1 rfl) ?_
                            refine wSeq ?_
                            obtain ⟨y391, hy391, h⟩ := bd h
                            refine rg (cp (oMv tm) (s1 rfl) <| cm (oCallN (ins := [.d (kB.sig false)]) (caps := [none]) (kn := [70100]) (rest := []) (R' := [.row 510040 166 kB y391.1, .box 4 194 [.v 510040]]) (out' := .d (kB.sig y391.2)) [(70100, 4), (70101, 5200)] [(70101, 510040)] [1, 0] [] [1, 0] rfl tm (rule_made_1.ok hy391) rfl b141 (oE1 cB oE0) rfl rfl rfl rfl rfl rfl rfl rfl) (s1 rfl) <| cp (oAs tm) (s1 rfl) <| .nil) (by kernel_rfl) ?_
                            refine pSeq ?_
                            obtain ⟨hc392, h⟩ := ib h
                            refine rg (cr (oLdN (n := 1) (k := 0) rfl rfl rfl t194 tm) (s1 rfl) <| cp (oLit (d := kB) el194 (by decide) rfl rfl rfl (e1 cB e0)) trivial <| cw (oApp (n := 0) (id' := 40) el194 (by decide) rfl (by decide) hc392 tm tm) (s2 rfl rfl) <| cwn (oStN (n := 1) (m := 0) (k := 0) rfl rfl rfl rfl z194 rfl tm tm) (s2 rfl rfl) <| .nil) (by kernel_rfl) ?_
                            refine pBlkN ?_
                            refine pSub (Γ' := [(0, .d ((kL (kI .i64)).sig a0)), (4, .p 4 0), (5, .f [4] (sCloN 141 [none])), (8, .d (kB.sig y391.2)), (10, .d ((kL (kI .i64)).sig a0)), (11, .d ((kI .i64).sig (a0.length : Int))), (12, .d ((kI .i64).sig v270))]) ⟨rfl, rfl, rfl, rfl, rfl, rfl, rfl, trivial⟩ ?_
                            refine pRen 40 5200 rfl ?_
                            exact pJ2 _ _ (so h) ⟨rfl, rfl, rfl, rfl, rfl, rfl, rfl, trivial⟩ rfl
                          · refine wCF hp390 tm (s1 rfl) ?_
                            refine rg (cp (oEq rfl tm (cI (by decide))) (s1 rfl) <| cp (oAs tm) (s1 rfl) <| .nil) (by kernel_rfl) ?_
                            refine pSeq ?_
                            rcases ic h with ⟨hp393, h⟩ | ⟨hp393, h⟩
                            · refine wCT hp393 tm (s1 rfl) ?_
                              refine wSeq ?_
                              obtain ⟨y394, hy394, h⟩ := bd h
                              refine rg (cp (oMv tm) (s1 rfl) <| cm (oCallN (ins := [.d (kB.sig false)]) (caps := [none]) (kn := [70100]) (rest := []) (R' := [.row 510040 166 kB y394.1, .box 4 194 [.v 510040]]) (out' := .d (kB.sig y394.2)) [(70100, 4), (70101, 5200)] [(70101, 510040)] [1, 0] [] [1, 0] rfl tm (rule_made_1.ok hy394) rfl b141 (oE1 cB oE0) rfl rfl rfl rfl rfl rfl rfl rfl) (s1 rfl) <| cp (oAs tm) (s1 rfl) <| .nil) (by kernel_rfl) ?_
                              refine pSeq ?_
                              obtain ⟨hc395, h⟩ := ib h
                              refine rg (cr (oLdN (n := 1) (k := 0) rfl rfl rfl t194 tm) (s1 rfl) <| cp (oLit (d := kB) el194 (by decide) rfl rfl rfl (e1 cB e0)) trivial <| cw (oApp (n := 0) (id' := 40) el194 (by decide) rfl (by decide) hc395 tm tm) (s2 rfl rfl) <| cwn (oStN (n := 1) (m := 0) (k := 0) rfl rfl rfl rfl z194 rfl tm tm) (s2 rfl rfl) <| .nil) (by kernel_rfl) ?_
                              refine pBlkN ?_
                              refine pSub (Γ' := [(0, .d ((kL (kI .i64)).sig a0)), (4, .p 4 0), (5, .f [4] (sCloN 141 [none])), (8, .d (kB.sig y394.2)), (10, .d ((kL (kI .i64)).sig a0)), (11, .d ((kI .i64).sig (a0.length : Int))), (12, .d ((kI .i64).sig v270))]) ⟨rfl, rfl, rfl, rfl, rfl, rfl, rfl, trivial⟩ ?_
                              refine pRen 40 5200 rfl ?_
                              exact pJ2 _ _ (so h) ⟨rfl, rfl, rfl, rfl, rfl, rfl, rfl, trivial⟩ rfl
                            · refine wCF hp393 tm (s1 rfl) ?_
                              refine wSeq ?_
                              refine rg (cp (oEq rfl tm (cI (by decide))) (s1 rfl) <| cp (oAs tm) (s1 rfl) <| .nil) (by kernel_rfl) ?_
                              refine pSeq ?_
                              rcases ic h with ⟨hp396, h⟩ | ⟨hp396, h⟩
                              · refine wCT hp396 tm (s1 rfl) ?_
                                refine wSeq ?_
                                obtain ⟨y397, hy397, h⟩ := bd h
                                refine rg (cp (oMv tm) (s1 rfl) <| cm (oCallN (ins := [.d (kB.sig true)]) (caps := [none]) (kn := [70100]) (rest := []) (R' := [.row 540040 166 kB y397.1, .box 4 194 [.v 540040]]) (out' := .d (kB.sig y397.2)) [(70100, 4), (70101, 5200)] [(70101, 540040)] [1, 0] [] [1, 0] rfl tm (rule_made_1.ok hy397) rfl b141 (oE1 cB oE0) rfl rfl rfl rfl rfl rfl rfl rfl) (s1 rfl) <| cp (oAs tm) (s1 rfl) <| .nil) (by kernel_rfl) ?_
                                refine pSeq ?_
                                obtain ⟨hc398, h⟩ := ib h
                                refine rg (cr (oLdN (n := 1) (k := 0) rfl rfl rfl t194 tm) (s1 rfl) <| cp (oLit (d := kB) el194 (by decide) rfl rfl rfl (e1 cB e0)) trivial <| cw (oApp (n := 0) (id' := 47) el194 (by decide) rfl (by decide) hc398 tm tm) (s2 rfl rfl) <| cwn (oStN (n := 1) (m := 0) (k := 0) rfl rfl rfl rfl z194 rfl tm tm) (s2 rfl rfl) <| .nil) (by kernel_rfl) ?_
                                refine pBlkN ?_
                                refine pSub (Γ' := [(0, .d ((kL (kI .i64)).sig a0)), (4, .p 4 0), (5, .f [4] (sCloN 141 [none])), (8, .d (kB.sig y397.2)), (10, .d ((kL (kI .i64)).sig a0)), (11, .d ((kI .i64).sig (a0.length : Int))), (12, .d ((kI .i64).sig v270))]) ⟨rfl, rfl, rfl, rfl, rfl, rfl, rfl, trivial⟩ ?_
                                refine pRen 47 5200 rfl ?_
                                exact pJ2 _ _ (so h) ⟨rfl, rfl, rfl, rfl, rfl, rfl, rfl, trivial⟩ rfl
                              · refine wCF hp396 tm (s1 rfl) ?_
                                refine wSeq ?_
                                refine wSeq ?_
                                refine rg (cp (oEq rfl tm (cI (by decide))) (s1 rfl) <| cp (oAs tm) (s1 rfl) <| .nil) (by kernel_rfl) ?_
                                refine pSeq ?_
                                rcases ic h with ⟨hp399, h⟩ | ⟨hp399, h⟩
                                · refine wCT hp399 tm (s1 rfl) ?_
                                  refine wSkip ?_
                                  refine pSeq ?_
                                  refine wCT hp399 tm (s1 rfl) ?_
                                  refine wSeq ?_
                                  obtain ⟨y400, hy400, h⟩ := bd h
                                  refine rg (cp (oMv tm) (s1 rfl) <| cm (oCallN (ins := [.d (kB.sig true)]) (caps := [none]) (kn := [70100]) (rest := []) (R' := [.row 580040 166 kB y400.1, .box 4 194 [.v 580040]]) (out' := .d (kB.sig y400.2)) [(70100, 4), (70101, 5200)] [(70101, 580040)] [1, 0] [] [1, 0] rfl tm (rule_made_1.ok hy400) rfl b141 (oE1 cB oE0) rfl rfl rfl rfl rfl rfl rfl rfl) (s1 rfl) <| cp (oAs tm) (s1 rfl) <| .nil) (by kernel_rfl) ?_
                                  refine pSeq ?_
                                  obtain ⟨hc401, h⟩ := ib h
                                  refine rg (cr (oLdN (n := 1) (k := 0) rfl rfl rfl t194 tm) (s1 rfl) <| cp (oLit (d := kB) el194 (by decide) rfl rfl rfl (e1 cB e0)) trivial <| cw (oApp (n := 0) (id' := 55) el194 (by decide) rfl (by decide) hc401 tm tm) (s2 rfl rfl) <| cwn (oStN (n := 1) (m := 0) (k := 0) rfl rfl rfl rfl z194 rfl tm tm) (s2 rfl rfl) <| .nil) (by kernel_rfl) ?_
                                  refine pBlkN ?_
                                  refine pSub (Γ' := [(0, .d ((kL (kI .i64)).sig a0)), (4, .p 4 0), (5, .f [4] (sCloN 141 [none])), (8, .d (kB.sig y400.2)), (10, .d ((kL (kI .i64)).sig a0)), (11, .d ((kI .i64).sig (a0.length : Int))), (12, .d ((kI .i64).sig v270))]) ⟨rfl, rfl, rfl, rfl, rfl, rfl, rfl, trivial⟩ ?_
                                  refine pRen 55 5200 rfl ?_
                                  exact pJ2 _ _ (so h) ⟨rfl, rfl, rfl, rfl, rfl, rfl, rfl, trivial⟩ rfl
                                · refine wCF hp399 tm (s1 rfl) ?_
                                  refine rg (cp (oEq rfl tm (cI (by decide))) (s1 rfl) <| cp (oAs tm) (s1 rfl) <| .nil) (by kernel_rfl) ?_
                                  refine pSeq ?_
                                  rcases ic h with ⟨hp402, h⟩ | ⟨hp402, h⟩
                                  · refine wCT hp402 tm (s1 rfl) ?_
                                    refine wSeq ?_
                                    obtain ⟨y403, hy403, h⟩ := bd h
                                    refine rg (cp (oMv tm) (s1 rfl) <| cm (oCallN (ins := [.d (kB.sig true)]) (caps := [none]) (kn := [70100]) (rest := []) (R' := [.row 580040 166 kB y403.1, .box 4 194 [.v 580040]]) (out' := .d (kB.sig y403.2)) [(70100, 4), (70101, 5200)] [(70101, 580040)] [1, 0] [] [1, 0] rfl tm (rule_made_1.ok hy403) rfl b141 (oE1 cB oE0) rfl rfl rfl rfl rfl rfl rfl rfl) (s1 rfl) <| cp (oAs tm) (s1 rfl) <| .nil) (by kernel_rfl) ?_
                                    refine pSeq ?_
                                    obtain ⟨hc404, h⟩ := ib h
                                    refine rg (cr (oLdN (n := 1) (k := 0) rfl rfl rfl t194 tm) (s1 rfl) <| cp (oLit (d := kB) el194 (by decide) rfl rfl rfl (e1 cB e0)) trivial <| cw (oApp (n := 0) (id' := 55) el194 (by decide) rfl (by decide) hc404 tm tm) (s2 rfl rfl) <| cwn (oStN (n := 1) (m := 0) (k := 0) rfl rfl rfl rfl z194 rfl tm tm) (s2 rfl rfl) <| .nil) (by kernel_rfl) ?_
                                    refine pBlkN ?_
                                    refine pSub (Γ' := [(0, .d ((kL (kI .i64)).sig a0)), (4, .p 4 0), (5, .f [4] (sCloN 141 [none])), (8, .d (kB.sig y403.2)), (10, .d ((kL (kI .i64)).sig a0)), (11, .d ((kI .i64).sig (a0.length : Int))), (12, .d ((kI .i64).sig v270))]) ⟨rfl, rfl, rfl, rfl, rfl, rfl, rfl, trivial⟩ ?_
                                    refine pRen 55 5200 rfl ?_
                                    exact pJ2 _ _ (so h) ⟨rfl, rfl, rfl, rfl, rfl, rfl, rfl, trivial⟩ rfl
                                  · refine wCF hp402 tm (s1 rfl) ?_
                                    refine rg (cp (oAs cB) trivial <| .nil) (by kernel_rfl) ?_
                                    refine pBlkN ?_
                                    exact pJ2 _ _ (so h) ⟨rfl, rfl, rfl, rfl, rfl, rfl, rfl, trivial⟩ rfl
        · rintro x372 x373 rfl
          replace h := hk3
          refine pSeq ?_
          refine wSeq ?_
          refine rg (cp (oMv tm) (s1 rfl) <| cp (oNot tm) (s1 rfl) <| .nil) (by kernel_rfl) ?_
          refine pSeq ?_
          rcases ic h with ⟨hp405, h⟩ | ⟨hp405, h⟩
          · refine wBT hp405 tm (s1 rfl) ?_
            refine wSeq ?_
            refine rg (cp (oAs cB) trivial <| cp (oAs cB) trivial <| .nil) (by kernel_rfl) ?_
            refine pSeq ?_
            refine wRet ?_
            refine pBlkR ?_
            refine pThenR ?_
            obtain rfl := so h
            replace h := hk2
            refine pThenR ?_
            refine pBlkR ?_
            refine pThenR ?_
            obtain rfl := so h
            replace h := hk1
            refine pThenR ?_
            obtain rfl := so h
            exact pRn (.inl rfl) rfl rfl (.tmp rfl <| .tmp rfl <| .nil)
          · refine wBF hp405 tm (s1 rfl) ?_
            refine wSkip ?_
            refine pBlkN ?_
            exact pJ1 _ (so h) ⟨rfl, rfl, rfl, rfl, rfl, rfl, trivial⟩ rfl
      · rintro x339 rfl
        replace h := hk2
        refine rg (cp (oAdd tm (cI (by decide))) (s1 rfl) <| cp (oMv tm) (s1 rfl) <| .nil) (by kernel_rfl) ?_
        exact pLoop (lW (ih _ _ h) ⟨rfl, rfl, rfl, rfl, rfl, rfl, trivial⟩ rfl)
    · refine wCF hp272 tm (s1 rfl) ?_
      refine wExit ?_
      refine pThenX ?_
      refine pThenX ?_
      refine pBlkX ?_
      exact pJ1 _ (so h) ⟨rfl, rfl, trivial⟩ rfl
  · rintro x271 rfl
    replace h := hk1
    refine pSeq ?_
    refine wSeq ?_
    obtain ⟨o1, h, hk1⟩ := bd h
    refine wJ1 (fun x407 => x407 = o1) (fun x407 => [(4, .p 4 0), (66, .d (kB.sig x407))]) (fun x407 => [.row 5200 166 kB x271, .box 4 194 [.v 5200]]) ?_ ?_
    · rcases ic h with ⟨hp408, h⟩ | ⟨hp408, h⟩
      · refine rg (cr (oLdN (n := 1) (k := 0) rfl rfl rfl t194 tm) (s1 rfl) <| cr (oLenR (n := 0) u194 rfl tm) (s1 rfl) <| cp (oNe rfl tm (cI (by decide))) (s1 rfl) <| cp (oMv tm) (s1 rfl) <| cgB (nf hp408) rfl rfl (oMv tm) (s1 rfl) <| cgB (nf hp408) rfl rfl (oLenL u59 tm) (s1 rfl) <| cgB (nf hp408) rfl rfl (oGt rfl tm (cI (by decide))) (s1 rfl) <| cp (oPkF (nf hp408) tm tm) (s2 rfl rfl) <| .nil) (by kernel_rfl) ?_
        exact pJ1 _ (so h) ⟨rfl, rfl, trivial⟩ rfl
      · refine rg (cr (oLdN (n := 1) (k := 0) rfl rfl rfl t194 tm) (s1 rfl) <| cr (oLenR (n := 0) u194 rfl tm) (s1 rfl) <| cp (oNe rfl tm (cI (by decide))) (s1 rfl) <| cp (oMv tm) (s1 rfl) <| csB (nt hp408) rfl rfl <| csB (nt hp408) rfl rfl <| csB (nt hp408) rfl rfl <| cp (oPkT (nt hp408) tm cB) (s1 rfl) <| .nil) (by kernel_rfl) ?_
        exact pJ1 _ (so h) ⟨rfl, rfl, trivial⟩ rfl
    · rintro x407 rfl
      replace h := hk1
      rcases ic h with ⟨hp409, h⟩ | ⟨hp409, h⟩
      · refine wBT hp409 tm (s1 rfl) ?_
        refine wSeq ?_
        refine rg (cp (oAs cB) trivial <| cp (oAs cB) trivial <| .nil) (by kernel_rfl) ?_
        refine pSeq ?_
        refine wRet ?_
        refine pThenR ?_
        obtain rfl := so h
        exact pRn (.inl rfl) rfl rfl (.tmp rfl <| .tmp rfl <| .nil)
      · refine wBF hp409 tm (s1 rfl) ?_
        refine wSkip ?_
        refine pSeq ?_
        refine wSeq ?_
        obtain ⟨y410, hy410, h⟩ := bd h
        refine rg (cr (oLdN (n := 1) (k := 0) rfl rfl rfl t194 tm) (s1 rfl) <| cr (oIdxR (n := 0) u194 z166 rfl hy410 tm (cI (by decide))) (s1 rfl) <| cr (oLdE (n := 0) rfl hy410 rfl t166 tm) (s1 rfl) <| cp (oAs tm) (s1 rfl) <| cp (oAs cB) trivial <| .nil) (by kernel_rfl) ?_
        refine pSeq ?_
        refine wRet ?_
        obtain rfl := so h
        exact pRn (.inl rfl) rfl rfl (.tmp rfl <| .tmp rfl <| .nil)

theorem rule_Right.ok {a0 : List Int} {a1 : Bool} {r : Bool} (h : rule_Right.f a0 a1 = some r) : FnA Tryd.prog 73 [(kL (kI .i64)).sig a0, kB.sig a1] (kB.sig r) := by
  refine fnIntro Tryd.func73 rfl (by kernel_rfl) fun H0 w0 => ?_
  unfold rule_Right.f at h
  refine wSeq ?_
  refine rg (cp (oAs cB) trivial <| .nil) (by kernel_rfl) ?_
  refine pSeq ?_
  refine wSeq ?_
  obtain ⟨y1, hy1, h⟩ := bd h
  refine rg (cp (oMv tm) (s1 rfl) <| cp (oCall rfl (rule_made.ok hy1) b107 (opds_cons tm opds_nil)) (s1 rfl) <| cp (oMv tm) (s1 rfl) <| cp (oExt (k := 0) rfl tm) (s1 rfl) <| cp (oExt (k := 1) rfl tm) (s1 rfl) <| cp (oAs tm) (s1 rfl) <| cp (oAs tm) (s1 rfl) <| .nil) (by kernel_rfl) ?_
  refine pSeq ?_
  obtain ⟨o1, h, hk1⟩ := bd h
  refine wJ1 (fun x3 => x3 = o1) (fun x3 => [(4, .d (kB.sig x3))]) (fun x3 => []) ?_ ?_
  · rcases ic h with ⟨hp4, h⟩ | ⟨hp4, h⟩
    · refine rg (cp (oMv tm) (s1 rfl) <| cp (oMv tm) (s1 rfl) <| cgB hp4 rfl rfl (oMv tm) (s1 rfl) <| cgB hp4 rfl rfl (oMv tm) (s1 rfl) <| cgB hp4 rfl rfl (oBEq u4 rfl tm tm) (s2 rfl rfl) <| cp (oPkT hp4 tm tm) (s2 rfl rfl) <| cp (oAs tm) (s1 rfl) <| .nil) (by kernel_rfl) ?_
      exact pJ1 _ (so h) ⟨rfl, trivial⟩ rfl
    · refine rg (cp (oMv tm) (s1 rfl) <| cp (oMv tm) (s1 rfl) <| csB (nb hp4) rfl rfl <| csB (nb hp4) rfl rfl <| csB (nb hp4) rfl rfl <| cp (oPkF (nb hp4) tm cB) (s1 rfl) <| cp (oAs tm) (s1 rfl) <| .nil) (by kernel_rfl) ?_
      exact pJ1 _ (so h) ⟨rfl, trivial⟩ rfl
  · rintro x3 rfl
    replace h := hk1
    refine wRet ?_
    obtain rfl := so h
    exact pR1 (.inl rfl) rfl (.tmp rfl <| .nil)

theorem table_right.ok {a0 : api_Row} {r : Bool} (h : table_right.f a0 = some r) : FnA Tryd.prog 35 [(kR f_api_Row).sig a0] (kB.sig r) := by
  refine fnIntro Tryd.func35 rfl (by kernel_rfl) fun H0 w0 => ?_
  unfold table_right.f at h
  refine wSeq ?_
  refine rg (cp (oBox tm) (s1 rfl) <| cp (oAs cB) trivial <| .nil) (by kernel_rfl) ?_
  refine pSeq ?_
  obtain ⟨o1, h, hk1⟩ := bd h
  refine wJ1 (fun x6 => x6 = o1) (fun x6 => [(2, .d (kB.sig x6))]) (fun x6 => []) ?_ ?_
  · obtain ⟨y7, hy7, h⟩ := bd h
    rcases ic h with ⟨hp8, h⟩ | ⟨hp8, h⟩
    · obtain ⟨y9, hy9, h⟩ := bd h
      rcases ic h with ⟨hp10, h⟩ | ⟨hp10, h⟩
      · obtain ⟨y11, hy11, h⟩ := bd h
        refine rg (cp (oFld (fs := f_api_Row) (k := 0) rfl o61_0 tm) (s1 rfl) <| cp (oLd t59 tm) (s1 rfl) <| cp (oCall rfl (rule_Right.ok hy7) b73 (opds_cons tm (opds_cons cB opds_nil))) (s1 rfl) <| cp (oMv tm) (s1 rfl) <| cgB hp8 rfl rfl (oFld (fs := f_api_Row) (k := 1) rfl o61_1 tm) (s1 rfl) <| cgB hp8 rfl rfl (oLd t59 tm) (s1 rfl) <| cgB hp8 rfl rfl (oCall rfl (rule_Right.ok hy9) b73 (opds_cons tm (opds_cons cB opds_nil))) (s1 rfl) <| cp (oPkT hp8 tm tm) (s2 rfl rfl) <| cp (oMv tm) (s1 rfl) <| cgB hp10 rfl rfl (oFld (fs := f_api_Row) (k := 2) rfl o61_2 tm) (s1 rfl) <| cgB hp10 rfl rfl (oLd t59 tm) (s1 rfl) <| cgB hp10 rfl rfl (oCall rfl (rule_Right.ok hy11) b73 (opds_cons tm (opds_cons cB opds_nil))) (s1 rfl) <| cp (oPkT hp10 tm tm) (s2 rfl rfl) <| cp (oAs tm) (s1 rfl) <| .nil) (by kernel_rfl) ?_
        exact pJ1 _ (so h) ⟨rfl, trivial⟩ rfl
      · refine rg (cp (oFld (fs := f_api_Row) (k := 0) rfl o61_0 tm) (s1 rfl) <| cp (oLd t59 tm) (s1 rfl) <| cp (oCall rfl (rule_Right.ok hy7) b73 (opds_cons tm (opds_cons cB opds_nil))) (s1 rfl) <| cp (oMv tm) (s1 rfl) <| cgB hp8 rfl rfl (oFld (fs := f_api_Row) (k := 1) rfl o61_1 tm) (s1 rfl) <| cgB hp8 rfl rfl (oLd t59 tm) (s1 rfl) <| cgB hp8 rfl rfl (oCall rfl (rule_Right.ok hy9) b73 (opds_cons tm (opds_cons cB opds_nil))) (s1 rfl) <| cp (oPkT hp8 tm tm) (s2 rfl rfl) <| cp (oMv tm) (s1 rfl) <| csB (nb hp10) rfl rfl <| csB (nb hp10) rfl rfl <| csB (nb hp10) rfl rfl <| cp (oPkF (nb hp10) tm cB) (s1 rfl) <| cp (oAs tm) (s1 rfl) <| .nil) (by kernel_rfl) ?_
        exact pJ1 _ (so h) ⟨rfl, trivial⟩ rfl
    · refine rg (cp (oFld (fs := f_api_Row) (k := 0) rfl o61_0 tm) (s1 rfl) <| cp (oLd t59 tm) (s1 rfl) <| cp (oCall rfl (rule_Right.ok hy7) b73 (opds_cons tm (opds_cons cB opds_nil))) (s1 rfl) <| cp (oMv tm) (s1 rfl) <| csB (nb hp8) rfl rfl <| csB (nb hp8) rfl rfl <| csB (nb hp8) rfl rfl <| cp (oPkF (nb hp8) tm cB) (s1 rfl) <| cp (oMv tm) (s1 rfl) <| csB rfl rfl rfl <| csB rfl rfl rfl <| csB rfl rfl rfl <| cp (oPkF rfl tm cB) (s1 rfl) <| cp (oAs tm) (s1 rfl) <| .nil) (by kernel_rfl) ?_
      exact pJ1 _ (so h) ⟨rfl, trivial⟩ rfl
  · rintro x6 rfl
    replace h := hk1
    refine wRet ?_
    obtain rfl := so h
    exact pR1 (.inl rfl) rfl (.tmp rfl <| .nil)

theorem rule_Uses.ok {a0 : List Int} {r : Int × Int} (h : rule_Uses.f a0 = some r) : FnA Tryd.prog 108 [(kL (kI .i64)).sig a0] (tup [(kI .u32).sig r.1, (kI .i64).sig r.2]) := by
  refine fnIntro Tryd.func108 rfl (by kernel_rfl) fun H0 w0 => ?_
  unfold rule_Uses.f at h
  refine wSeq ?_
  refine rg (cp (oAs (cI (by decide))) trivial <| cp (oAs (cI (by decide))) trivial <| .nil) (by kernel_rfl) ?_
  refine pSeq ?_
  refine wSeq ?_
  refine wSeq ?_
  obtain ⟨y1, hy1, h⟩ := bd h
  refine rg (cp (oMv tm) (s1 rfl) <| cp (oCall rfl (rule_made.ok hy1) b107 (opds_cons tm opds_nil)) (s1 rfl) <| cp (oMv tm) (s1 rfl) <| cp (oExt (k := 0) rfl tm) (s1 rfl) <| cp (oExt (k := 1) rfl tm) (s1 rfl) <| cp (oAs tm) (s1 rfl) <| cp (oAs tm) (s1 rfl) <| .nil) (by kernel_rfl) ?_
  refine pSeq ?_
  refine wSeq ?_
  refine rg (cp (oMv tm) (s1 rfl) <| cp (oNot tm) (s1 rfl) <| .nil) (by kernel_rfl) ?_
  refine pSeq ?_
  rcases ic h with ⟨hp2, h⟩ | ⟨hp2, h⟩
  · refine wBT hp2 tm (s1 rfl) ?_
    refine wSeq ?_
    refine rg (cp (oAs (cI (by decide))) trivial <| cp (oAs (cI (by decide))) trivial <| .nil) (by kernel_rfl) ?_
    refine pSeq ?_
    refine wRet ?_
    refine pThenR ?_
    obtain rfl := so h
    exact pRn (.inl rfl) rfl rfl (.tmp rfl <| .tmp rfl <| .nil)
  · refine wBF hp2 tm (s1 rfl) ?_
    refine wSkip ?_
    refine pSeq ?_
    refine wSeq ?_
    refine rg (cp (oAs (cI (by decide))) trivial <| .nil) (by kernel_rfl) ?_
    refine pSeq ?_
    refine wSeq ?_
    refine wSeq ?_
    refine rg (cp (oMv tm) (s1 rfl) <| cp (oLenL u59 tm) (s1 rfl) <| cp (oMv (cI (by decide))) trivial <| .nil) (by kernel_rfl) ?_
    refine pSeq ?_
    obtain ⟨o1, h, hk1⟩ := bd h
    refine wK1 (fun x33 => x33 = o1) (fun x33 => [(6, .d ((kI .u32).sig x33))]) (fun x33 => []) ?_ ?_
    · refine wBlock (wLoop ?_)
      refine lW (pc2 o1 (fun v31 v32 => [(6, .d ((kI .u32).sig v32)), (16, .d ((kL (kI .i64)).sig a0)), (17, .d ((kI .i64).sig (a0.length : Int))), (18, .d ((kI .i64).sig v31))]) (fun v31 v32 => []) (rule_Uses.l0.partial_correctness a0) ?_ _ _ h) ⟨rfl, rfl, rfl, rfl, trivial⟩ rfl
      clear h
      intro f' ih v31 v32 h
      refine wSeq ?_
      refine rg (cp (oLt rfl tm tm) (s2 rfl rfl) <| .nil) (by kernel_rfl) ?_
      refine pSeq ?_
      refine wSeq ?_
      rcases ic h with ⟨hp34, h⟩ | ⟨hp34, h⟩
      · refine wCT hp34 tm (s1 rfl) ?_
        refine wSkip ?_
        refine pSeq ?_
        obtain ⟨o2, h, hk2⟩ := bd h
        refine wJ1 (fun x41 => x41 = o2) (fun x41 => [(6, .d ((kI .u32).sig x41)), (16, .d ((kL (kI .i64)).sig a0)), (17, .d ((kI .i64).sig (a0.length : Int))), (18, .d ((kI .i64).sig v31))]) (fun x41 => []) ?_ ?_
        · refine wBlock ?_
          refine wSeq ?_
          obtain ⟨y42, hy42, h⟩ := bd h
          refine rg (cp (oIdx u59 z3 hy42 tm tm) (s2 rfl rfl) <| cp (oLd t3 tm) (s1 rfl) <| cp (oAs tm) (s1 rfl) <| .nil) (by kernel_rfl) ?_
          refine pSeq ?_
          obtain ⟨o3, h, hk3⟩ := bd h
          refine wJ1 (fun x44 => x44 = o3) (fun x44 => [(6, .d ((kI .u32).sig v32)), (8, .d ((kI .i64).sig y42)), (16, .d ((kL (kI .i64)).sig a0)), (17, .d ((kI .i64).sig (a0.length : Int))), (18, .d ((kI .i64).sig v31)), (27, .d (kB.sig x44))]) (fun x44 => []) ?_ ?_
          · rcases ic h with ⟨hp45, h⟩ | ⟨hp45, h⟩
            · refine rg (cp (oMv tm) (s1 rfl) <| cp (oGe rfl tm (cI (by decide))) (s1 rfl) <| cp (oMv tm) (s1 rfl) <| cgB (decide_eq_true hp45) rfl rfl (oMv tm) (s1 rfl) <| cgB (decide_eq_true hp45) rfl rfl (oLe rfl tm (cI (by decide))) (s1 rfl) <| cp (oPkT (decide_eq_true hp45) tm tm) (s2 rfl rfl) <| .nil) (by kernel_rfl) ?_
              exact pJ1 _ (so h) ⟨rfl, rfl, rfl, rfl, rfl, rfl, trivial⟩ rfl
            · refine rg (cp (oMv tm) (s1 rfl) <| cp (oGe rfl tm (cI (by decide))) (s1 rfl) <| cp (oMv tm) (s1 rfl) <| csB (decide_eq_false hp45) rfl rfl <| csB (decide_eq_false hp45) rfl rfl <| cp (oPkF (decide_eq_false hp45) tm cB) (s1 rfl) <| .nil) (by kernel_rfl) ?_
              exact pJ1 _ (so h) ⟨rfl, rfl, rfl, rfl, rfl, rfl, trivial⟩ rfl
          · rintro x44 rfl
            replace h := hk3
            rcases ic h with ⟨hp46, h⟩ | ⟨hp46, h⟩
            · refine wBT hp46 tm (s1 rfl) ?_
              obtain ⟨hc47, h⟩ := ib h
              refine rg (cp (oMv tm) (s1 rfl) <| cp (oMv tm) (s1 rfl) <| cp (oSub tm (cI (by decide))) (s1 rfl) <| cp (oShl hc47 (cI (by decide)) tm) (s1 rfl) <| cp (oOr tm tm) (s2 rfl rfl) <| cp (oAs tm) (s1 rfl) <| .nil) (by kernel_rfl) ?_
              refine pBlkN ?_
              exact pJ1 _ (so h) ⟨rfl, rfl, rfl, rfl, trivial⟩ rfl
            · refine wBF hp46 tm (s1 rfl) ?_
              refine wSkip ?_
              refine pBlkN ?_
              exact pJ1 _ (so h) ⟨rfl, rfl, rfl, rfl, trivial⟩ rfl
        · rintro x41 rfl
          replace h := hk2
          refine rg (cp (oAdd tm (cI (by decide))) (s1 rfl) <| cp (oMv tm) (s1 rfl) <| .nil) (by kernel_rfl) ?_
          exact pLoop (lW (ih _ _ h) ⟨rfl, rfl, rfl, rfl, trivial⟩ rfl)
      · refine wCF hp34 tm (s1 rfl) ?_
        refine wExit ?_
        refine pThenX ?_
        refine pThenX ?_
        refine pBlkX ?_
        exact pJ1 _ (so h) ⟨rfl, trivial⟩ rfl
    · rintro x33 rfl
      replace h := hk1
      refine pSeq ?_
      refine wSeq ?_
      refine rg (cp (oMv tm) (s1 rfl) <| cp (oAs tm) (s1 rfl) <| cp (oAs (cI (by decide))) trivial <| .nil) (by kernel_rfl) ?_
      refine pSeq ?_
      refine wRet ?_
      obtain rfl := so h
      exact pRn (.inl rfl) rfl rfl (.tmp rfl <| .tmp rfl <| .nil)

theorem table_has.ok {a0 : Int} {a1 : List Int} {r : Bool} (h : table_has.f a0 a1 = some r) : FnA Tryd.prog 74 [(kI .i64).sig a0, (kL (kI .i64)).sig a1] (kB.sig r) := by
  refine fnIntro Tryd.func74 rfl (by kernel_rfl) fun H0 w0 => ?_
  unfold table_has.f at h
  refine wSeq ?_
  refine rg (cp (oAs cB) trivial <| .nil) (by kernel_rfl) ?_
  refine pSeq ?_
  refine wSeq ?_
  obtain ⟨y1, hy1, h⟩ := bd h
  refine rg (cp (oMv tm) (s1 rfl) <| cp (oCall rfl (rule_Uses.ok hy1) b108 (opds_cons tm opds_nil)) (s1 rfl) <| cp (oMv tm) (s1 rfl) <| cp (oExt (k := 0) rfl tm) (s1 rfl) <| cp (oExt (k := 1) rfl tm) (s1 rfl) <| cp (oAs tm) (s1 rfl) <| cp (oAs tm) (s1 rfl) <| .nil) (by kernel_rfl) ?_
  refine pSeq ?_
  obtain ⟨o1, h, hk1⟩ := bd h
  refine wJ1 (fun x5 => x5 = o1) (fun x5 => [(4, .d (kB.sig x5))]) (fun x5 => []) ?_ ?_
  · rcases ic h with ⟨hp6, h⟩ | ⟨hp6, h⟩
    · obtain ⟨y7, hy7, h⟩ := bd h
      obtain ⟨hc8, h⟩ := ib h
      refine rg (cp (oMv tm) (s1 rfl) <| cp (oEq rfl tm (cI (by decide))) (s1 rfl) <| cp (oMv tm) (s1 rfl) <| cgB (decide_eq_true hp6) rfl rfl (oMv tm) (s1 rfl) <| cgB (decide_eq_true hp6) rfl rfl (oMv tm) (s1 rfl) <| cgB (decide_eq_true hp6) rfl rfl (oIdxG gm1 u171 rfl z3 hy7 tm) (s1 rfl) <| cgB (decide_eq_true hp6) rfl rfl (oLd t3 tm) (s1 rfl) <| cgB (decide_eq_true hp6) rfl rfl (oAdd tm (cI (by decide))) (s1 rfl) <| cgB (decide_eq_true hp6) rfl rfl (oShr hc8 tm tm) (s2 rfl rfl) <| cgB (decide_eq_true hp6) rfl rfl (oEq rfl tm (cI (by decide))) (s1 rfl) <| cp (oPkT (decide_eq_true hp6) tm tm) (s2 rfl rfl) <| cp (oAs tm) (s1 rfl) <| .nil) (by kernel_rfl) ?_
      exact pJ1 _ (so h) ⟨rfl, trivial⟩ rfl
    · refine rg (cp (oMv tm) (s1 rfl) <| cp (oEq rfl tm (cI (by decide))) (s1 rfl) <| cp (oMv tm) (s1 rfl) <| csB (decide_eq_false hp6) rfl rfl <| csB (decide_eq_false hp6) rfl rfl <| csB (decide_eq_false hp6) rfl rfl <| csB (decide_eq_false hp6) rfl rfl <| csB (decide_eq_false hp6) rfl rfl <| csB (decide_eq_false hp6) rfl rfl <| csB (decide_eq_false hp6) rfl rfl <| cp (oPkF (decide_eq_false hp6) tm cB) (s1 rfl) <| cp (oAs tm) (s1 rfl) <| .nil) (by kernel_rfl) ?_
      exact pJ1 _ (so h) ⟨rfl, trivial⟩ rfl
  · rintro x5 rfl
    replace h := hk1
    refine wRet ?_
    obtain rfl := so h
    exact pR1 (.inl rfl) rfl (.tmp rfl <| .nil)

theorem table_suits.ok {a0 : Int} {a1 : api_Row} {r : Bool} (h : table_suits.f a0 a1 = some r) : FnA Tryd.prog 36 [(kI .i64).sig a0, (kR f_api_Row).sig a1] (kB.sig r) := by
  refine fnIntro Tryd.func36 rfl (by kernel_rfl) fun H0 w0 => ?_
  unfold table_suits.f at h
  refine wSeq ?_
  refine rg (cp (oBox tm) (s1 rfl) <| cp (oAs cB) trivial <| .nil) (by kernel_rfl) ?_
  refine pSeq ?_
  obtain ⟨o1, h, hk1⟩ := bd h
  refine wJ1 (fun x6 => x6 = o1) (fun x6 => [(4, .d (kB.sig x6))]) (fun x6 => []) ?_ ?_
  · obtain ⟨y7, hy7, h⟩ := bd h
    rcases ic h with ⟨hp8, h⟩ | ⟨hp8, h⟩
    · obtain ⟨y9, hy9, h⟩ := bd h
      rcases ic h with ⟨hp10, h⟩ | ⟨hp10, h⟩
      · obtain ⟨y11, hy11, h⟩ := bd h
        refine rg (cp (oMv tm) (s1 rfl) <| cp (oFld (fs := f_api_Row) (k := 0) rfl o61_0 tm) (s1 rfl) <| cp (oLd t59 tm) (s1 rfl) <| cp (oCall rfl (table_has.ok hy7) b74 (opds_cons tm (opds_cons tm opds_nil))) (s2 rfl rfl) <| cp (oMv tm) (s1 rfl) <| cgB hp8 rfl rfl (oMv tm) (s1 rfl) <| cgB hp8 rfl rfl (oFld (fs := f_api_Row) (k := 1) rfl o61_1 tm) (s1 rfl) <| cgB hp8 rfl rfl (oLd t59 tm) (s1 rfl) <| cgB hp8 rfl rfl (oCall rfl (table_has.ok hy9) b74 (opds_cons tm (opds_cons tm opds_nil))) (s2 rfl rfl) <| cp (oPkT hp8 tm tm) (s2 rfl rfl) <| cp (oMv tm) (s1 rfl) <| cgB hp10 rfl rfl (oMv tm) (s1 rfl) <| cgB hp10 rfl rfl (oFld (fs := f_api_Row) (k := 2) rfl o61_2 tm) (s1 rfl) <| cgB hp10 rfl rfl (oLd t59 tm) (s1 rfl) <| cgB hp10 rfl rfl (oCall rfl (table_has.ok hy11) b74 (opds_cons tm (opds_cons tm opds_nil))) (s2 rfl rfl) <| cp (oPkT hp10 tm tm) (s2 rfl rfl) <| cp (oAs tm) (s1 rfl) <| .nil) (by kernel_rfl) ?_
        exact pJ1 _ (so h) ⟨rfl, trivial⟩ rfl
      · refine rg (cp (oMv tm) (s1 rfl) <| cp (oFld (fs := f_api_Row) (k := 0) rfl o61_0 tm) (s1 rfl) <| cp (oLd t59 tm) (s1 rfl) <| cp (oCall rfl (table_has.ok hy7) b74 (opds_cons tm (opds_cons tm opds_nil))) (s2 rfl rfl) <| cp (oMv tm) (s1 rfl) <| cgB hp8 rfl rfl (oMv tm) (s1 rfl) <| cgB hp8 rfl rfl (oFld (fs := f_api_Row) (k := 1) rfl o61_1 tm) (s1 rfl) <| cgB hp8 rfl rfl (oLd t59 tm) (s1 rfl) <| cgB hp8 rfl rfl (oCall rfl (table_has.ok hy9) b74 (opds_cons tm (opds_cons tm opds_nil))) (s2 rfl rfl) <| cp (oPkT hp8 tm tm) (s2 rfl rfl) <| cp (oMv tm) (s1 rfl) <| csB (nb hp10) rfl rfl <| csB (nb hp10) rfl rfl <| csB (nb hp10) rfl rfl <| csB (nb hp10) rfl rfl <| cp (oPkF (nb hp10) tm cB) (s1 rfl) <| cp (oAs tm) (s1 rfl) <| .nil) (by kernel_rfl) ?_
        exact pJ1 _ (so h) ⟨rfl, trivial⟩ rfl
    · refine rg (cp (oMv tm) (s1 rfl) <| cp (oFld (fs := f_api_Row) (k := 0) rfl o61_0 tm) (s1 rfl) <| cp (oLd t59 tm) (s1 rfl) <| cp (oCall rfl (table_has.ok hy7) b74 (opds_cons tm (opds_cons tm opds_nil))) (s2 rfl rfl) <| cp (oMv tm) (s1 rfl) <| csB (nb hp8) rfl rfl <| csB (nb hp8) rfl rfl <| csB (nb hp8) rfl rfl <| csB (nb hp8) rfl rfl <| cp (oPkF (nb hp8) tm cB) (s1 rfl) <| cp (oMv tm) (s1 rfl) <| csB rfl rfl rfl <| csB rfl rfl rfl <| csB rfl rfl rfl <| csB rfl rfl rfl <| cp (oPkF rfl tm cB) (s1 rfl) <| cp (oAs tm) (s1 rfl) <| .nil) (by kernel_rfl) ?_
      exact pJ1 _ (so h) ⟨rfl, trivial⟩ rfl
  · rintro x6 rfl
    replace h := hk1
    refine wRet ?_
    obtain rfl := so h
    exact pR1 (.inl rfl) rfl (.tmp rfl <| .nil)

theorem table_Check.ok {a0 : api_Table} {r : Int × Int} (h : table_Check.f a0 = some r) : FnA Tryd.prog 10 [(kR f_api_Table).sig a0] (tup [(kI .i64).sig r.1, (kI .i64).sig r.2]) := by
  refine fnIntro Tryd.func10 rfl (by kernel_rfl) fun H0 w0 => ?_
  unfold table_Check.f at h
  refine wSeq ?_
  refine rg (cp (oBox tm) (s1 rfl) <| cp (oAs (cI (by decide))) trivial <| cp (oAs (cI (by decide))) trivial <| .nil) (by kernel_rfl) ?_
  refine pSeq ?_
  refine wSeq ?_
  refine wSeq ?_
  refine rg (cp (oFld (fs := f_api_Table) (k := 0) rfl o24_0 tm) (s1 rfl) <| cp (oLd t22 tm) (s1 rfl) <| cp (oLenL u22 tm) (s1 rfl) <| cp (oNe rfl tm (cI (by decide))) (s1 rfl) <| .nil) (by kernel_rfl) ?_
  refine pSeq ?_
  rcases ic h with ⟨hp1, h⟩ | ⟨hp1, h⟩
  · refine wNT hp1 tm (s1 rfl) ?_
    refine wSkip ?_
    refine pSeq ?_
    refine wSeq ?_
    refine wSeq ?_
    refine rg (cp (oFld (fs := f_api_Table) (k := 0) rfl o24_0 tm) (s1 rfl) <| cp (oLd t22 tm) (s1 rfl) <| cp (oLenL u22 tm) (s1 rfl) <| cp (oMv (cI (by decide))) trivial <| .nil) (by kernel_rfl) ?_
    refine pSeq ?_
    obtain ⟨o1, h, hk1⟩ := bd h
    refine wK0 (.inr () = o1) ([]) ([]) ?_ ?_
    · refine wBlock (wLoop ?_)
      refine lW (pc1 o1 (fun v14 => [(11, .d ((kL (kR f_api_Row)).sig a0.Rows)), (12, .d ((kI .i64).sig (a0.Rows.length : Int))), (13, .d ((kI .i64).sig v14))]) (fun v14 => []) (table_Check.l0.partial_correctness a0) ?_ _ h) ⟨rfl, rfl, rfl, trivial⟩ rfl
      clear h
      intro f' ih v14 h
      refine wSeq ?_
      refine rg (cp (oLt rfl tm tm) (s2 rfl rfl) <| .nil) (by kernel_rfl) ?_
      refine pSeq ?_
      refine wSeq ?_
      rcases ic h with ⟨hp15, h⟩ | ⟨hp15, h⟩
      · refine wCT hp15 tm (s1 rfl) ?_
        refine wSkip ?_
        refine pSeq ?_
        refine wSeq ?_
        refine wBlock ?_
        refine wSeq ?_
        obtain ⟨y16, hy16, h⟩ := bd h
        refine rg (cp (oMv tm) (s1 rfl) <| cp (oIdx u22 z61 hy16 tm tm) (s2 rfl rfl) <| cp (oLd t61 tm) (s1 rfl) <| cw (oAlloc (id := 5) (ls := [.d (kL (kI .i64)) [], .d (kL (kI .i64)) [], .d (kL (kI .i64)) []]) ze61 (fun g => ⟨[(.slice none 0 0)], _, rfl, zL g.H, ⟨[(.slice none 0 0)], _, rfl, zL g.H, ⟨[(.slice none 0 0)], _, rfl, zL g.H, rfl⟩⟩⟩)) trivial <| cp (oAs tm) (s1 rfl) <| cwn (oStA (n := 0) (fs := f_api_Row) rfl rfl z61 tm tm) (s2 rfl rfl) <| .nil) (by kernel_rfl) ?_
        refine pSeq ?_
        refine wBlock ?_
        refine wSeq ?_
        obtain ⟨y17, hy17, h⟩ := bd h
        refine rg (cr (oLdA (n := 0) (fs := f_api_Row) (u := ⟨y16.May, y16.Res, y16.Pc⟩) rfl ⟨rfl, rfl, rfl, trivial⟩ t61 tm) (s1 rfl) <| cp (oCall rfl (table_right.ok hy17) b35 (opds_cons tm opds_nil)) (s1 rfl) <| cp (oNot tm) (s1 rfl) <| cp (oAs tm) (s1 rfl) <| .nil) (by kernel_rfl) ?_
        refine pSeq ?_
        rcases ic h with ⟨hp18, h⟩ | ⟨hp18, h⟩
        · refine wBT hp18 tm (s1 rfl) ?_
          refine wSeq ?_
          refine rg (cp (oMv tm) (s1 rfl) <| cp (oAs tm) (s1 rfl) <| cp (oAs (cI (by decide))) trivial <| .nil) (by kernel_rfl) ?_
          refine pSeq ?_
          refine wRet ?_
          refine pBlkR ?_
          refine pBlkR ?_
          refine pThenR ?_
          refine pThenR ?_
          refine pBlkR ?_
          refine pThenR ?_
          obtain rfl := so h
          replace h := hk1
          refine pThenR ?_
          obtain rfl := so h
          exact pRn (.inl rfl) rfl rfl (.tmp rfl <| .tmp rfl <| .nil)
        · refine wBF hp18 tm (s1 rfl) ?_
          refine wSeq ?_
          obtain ⟨y19, hy19, h⟩ := bd h
          refine rg (cp (oMv tm) (s1 rfl) <| cr (oLdA (n := 0) (fs := f_api_Row) (u := ⟨y16.May, y16.Res, y16.Pc⟩) rfl ⟨rfl, rfl, rfl, trivial⟩ t61 tm) (s1 rfl) <| cp (oCall rfl (table_suits.ok hy19) b36 (opds_cons tm (opds_cons tm opds_nil))) (s2 rfl rfl) <| cp (oNot tm) (s1 rfl) <| cp (oAs tm) (s1 rfl) <| .nil) (by kernel_rfl) ?_
          refine pSeq ?_
          rcases ic h with ⟨hp20, h⟩ | ⟨hp20, h⟩
          · refine wBT hp20 tm (s1 rfl) ?_
            refine wSeq ?_
            refine rg (cp (oMv tm) (s1 rfl) <| cp (oAs tm) (s1 rfl) <| cp (oAs (cI (by decide))) trivial <| .nil) (by kernel_rfl) ?_
            refine pSeq ?_
            refine wRet ?_
            refine pBlkR ?_
            refine pBlkR ?_
            refine pThenR ?_
            refine pThenR ?_
            refine pBlkR ?_
            refine pThenR ?_
            obtain rfl := so h
            replace h := hk1
            refine pThenR ?_
            obtain rfl := so h
            exact pRn (.inl rfl) rfl rfl (.tmp rfl <| .tmp rfl <| .nil)
          · refine wBF hp20 tm (s1 rfl) ?_
            refine wSkip ?_
            refine pBlkN ?_
            refine pBlkN ?_
            refine pSeq ?_
            refine rg (cp (oAdd tm (cI (by decide))) (s1 rfl) <| cp (oMv tm) (s1 rfl) <| .nil) (by kernel_rfl) ?_
            refine pDrop (.cons _ .slnil) ?_
            exact pLoop (lW (ih _ h) ⟨rfl, rfl, rfl, trivial⟩ rfl)
      · refine wCF hp15 tm (s1 rfl) ?_
        refine wExit ?_
        refine pThenX ?_
        refine pThenX ?_
        refine pBlkX ?_
        exact pJ0 (so h) trivial rfl
    · rintro rfl
      replace h := hk1
      refine pSeq ?_
      refine wSeq ?_
      refine rg (cp (oAs (cI (by decide))) trivial <| cp (oAs (cI (by decide))) trivial <| .nil) (by kernel_rfl) ?_
      refine pSeq ?_
      refine wRet ?_
      obtain rfl := so h
      exact pRn (.inl rfl) rfl rfl (.tmp rfl <| .tmp rfl <| .nil)
  · refine wNF hp1 tm (s1 rfl) ?_
    refine wSeq ?_
    refine rg (cp (oAs (cI (by decide))) trivial <| cp (oAs (cI (by decide))) trivial <| .nil) (by kernel_rfl) ?_
    refine pSeq ?_
    refine wRet ?_
    refine pThenR ?_
    obtain rfl := so h
    exact pRn (.inl rfl) rfl rfl (.tmp rfl <| .tmp rfl <| .nil)

theorem mutant_rules.ok {a0 : api_Row} {r : List (List Int)} (h : mutant_rules.f a0 = some r) : FnA Tryd.prog 71 [(kR f_api_Row).sig a0] ((kL (kL (kI .i64))).sig r) := by
  refine fnIntro Tryd.func71 rfl (by kernel_rfl) fun H0 w0 => ?_
  unfold mutant_rules.f at h
  refine wSeq ?_
  refine rg (cp (oBox tm) (s1 rfl) <| cp (oAs cV) trivial <| .nil) (by kernel_rfl) ?_
  refine pSeq ?_
  refine wSeq ?_
  refine rg (cp (oFld (fs := f_api_Row) (k := 0) rfl o61_0 tm) (s1 rfl) <| cp (oLd t59 tm) (s1 rfl) <| cp (oFld (fs := f_api_Row) (k := 1) rfl o61_1 tm) (s1 rfl) <| cp (oLd t59 tm) (s1 rfl) <| cp (oFld (fs := f_api_Row) (k := 2) rfl o61_2 tm) (s1 rfl) <| cp (oLd t59 tm) (s1 rfl) <| cp (oLit (d := (kL (kI .i64))) el69 (by decide) rfl rfl rfl (e1 tm (e1 tm (e1 tm e0)))) (s3 rfl rfl rfl) <| cp (oAs tm) (s1 rfl) <| .nil) (by kernel_rfl) ?_
  refine pSeq ?_
  refine wRet ?_
  obtain rfl := so h
  exact pR1 (.inl rfl) rfl (.tmp rfl <| .nil)

theorem slices_Equal_int_int.ok {a0 : List Int} {a1 : List Int} {r : Bool} (h : slices_Equal_int_int.f a0 a1 = some r) : FnA Tryd.prog 75 [(kL (kI .i64)).sig a0, (kL (kI .i64)).sig a1] (kB.sig r) := by
  refine fnIntro Tryd.func75 rfl (by kernel_rfl) fun H0 w0 => ?_
  unfold slices_Equal_int_int.f at h
  refine wSeq ?_
  refine rg (cp (oAs cB) trivial <| .nil) (by kernel_rfl) ?_
  refine pSeq ?_
  refine wSeq ?_
  refine wSeq ?_
  refine rg (cp (oMv tm) (s1 rfl) <| cp (oLenL u59 tm) (s1 rfl) <| cp (oMv tm) (s1 rfl) <| cp (oLenL u59 tm) (s1 rfl) <| cp (oNe rfl tm tm) (s2 rfl rfl) <| .nil) (by kernel_rfl) ?_
  refine pSeq ?_
  rcases ic h with ⟨hp1, h⟩ | ⟨hp1, h⟩
  · refine wNT hp1 tm (s1 rfl) ?_
    refine wSkip ?_
    refine pSeq ?_
    refine wSeq ?_
    refine wSeq ?_
    refine rg (cp (oMv tm) (s1 rfl) <| cp (oLenL u59 tm) (s1 rfl) <| cp (oMv (cI (by decide))) trivial <| .nil) (by kernel_rfl) ?_
    refine pSeq ?_
    obtain ⟨o1, h, hk1⟩ := bd h
    refine wK0 (.inr () = o1) ([]) ([]) ?_ ?_
    · refine wBlock (wLoop ?_)
      refine lW (pc1 o1 (fun v10 => [(0, .d ((kL (kI .i64)).sig a0)), (1, .d ((kL (kI .i64)).sig a1)), (12, .d ((kI .i64).sig (a0.length : Int))), (13, .d ((kI .i64).sig v10))]) (fun v10 => []) (slices_Equal_int_int.l0.partial_correctness a0 a1) ?_ _ h) ⟨rfl, rfl, rfl, rfl, trivial⟩ rfl
      clear h
      intro f' ih v10 h
      refine wSeq ?_
      refine rg (cp (oLt rfl tm tm) (s2 rfl rfl) <| .nil) (by kernel_rfl) ?_
      refine pSeq ?_
      refine wSeq ?_
      rcases ic h with ⟨hp11, h⟩ | ⟨hp11, h⟩
      · refine wCT hp11 tm (s1 rfl) ?_
        refine wSkip ?_
        refine pSeq ?_
        refine wSeq ?_
        refine wBlock ?_
        refine wSeq ?_
        refine rg (cp (oMv tm) (s1 rfl) <| cp (oAs tm) (s1 rfl) <| .nil) (by kernel_rfl) ?_
        refine pSeq ?_
        refine wSeq ?_
        obtain ⟨y12, hy12, h⟩ := bd h
        obtain ⟨y13, hy13, h⟩ := bd h
        refine rgD hm (cp (oMv tm) (s1 rfl) <| cp (oMv tm) (s1 rfl) <| cp (oIdx u59 z3 hy12 tm tm) (s2 rfl rfl) <| cp (oLd t3 tm) (s1 rfl) <| cp (oMv tm) (s1 rfl) <| cp (oMv tm) (s1 rfl) <| cp (oIdx u59 z3 hy13 tm tm) (s2 rfl rfl) <| cp (oLd t3 tm) (s1 rfl) <| cp (oNe rfl tm tm) (s2 rfl rfl) <| .nil) (by kernel_rfl) (by kernel_rfl) ?_
        refine pSeq ?_
        rcases ic h with ⟨hp14, h⟩ | ⟨hp14, h⟩
        · refine wNT hp14 tm (s1 rfl) ?_
          refine wSkip ?_
          refine pBlkN ?_
          refine pSeq ?_
          refine rg (cp (oAdd tm (cI (by decide))) (s1 rfl) <| cp (oMv tm) (s1 rfl) <| .nil) (by kernel_rfl) ?_
          exact pLoop (lW (ih _ h) ⟨rfl, rfl, rfl, rfl, trivial⟩ rfl)
        · refine wNF hp14 tm (s1 rfl) ?_
          refine wSeq ?_
          refine rg (cp (oAs cB) trivial <| .nil) (by kernel_rfl) ?_
          refine pSeq ?_
          refine wRet ?_
          refine pBlkR ?_
          refine pThenR ?_
          refine pThenR ?_
          refine pBlkR ?_
          refine pThenR ?_
          obtain rfl := so h
          replace h := hk1
          refine pThenR ?_
          obtain rfl := so h
          exact pR1 (.inl rfl) rfl (.tmp rfl <| .nil)
      · refine wCF hp11 tm (s1 rfl) ?_
        refine wExit ?_
        refine pThenX ?_
        refine pThenX ?_
        refine pBlkX ?_
        exact pJ0 (so h) trivial rfl
    · rintro rfl
      replace h := hk1
      refine pSeq ?_
      refine wSeq ?_
      refine rg (cp (oAs cB) trivial <| .nil) (by kernel_rfl) ?_
      refine pSeq ?_
      refine wRet ?_
      obtain rfl := so h
      exact pR1 (.inl rfl) rfl (.tmp rfl <| .nil)
  · refine wNF hp1 tm (s1 rfl) ?_
    refine wSeq ?_
    refine rg (cp (oAs cB) trivial <| .nil) (by kernel_rfl) ?_
    refine pSeq ?_
    refine wRet ?_
    refine pThenR ?_
    obtain rfl := so h
    exact pR1 (.inl rfl) rfl (.tmp rfl <| .nil)

theorem mutant_start.ok {a0 : List Int} {a1 : Int} {r : Int} (h : mutant_start.f a0 a1 = some r) : FnA Tryd.prog 139 [(kL (kI .i64)).sig a0, (kI .i64).sig a1] ((kI .i64).sig r) := by
  refine fnIntro Tryd.func139 rfl (by kernel_rfl) fun H0 w0 => ?_
  unfold mutant_start.f at h
  refine wSeq ?_
  refine rg (cp (oAs (cI (by decide))) trivial <| .nil) (by kernel_rfl) ?_
  refine pSeq ?_
  refine wSeq ?_
  refine rg (cp (oAs (cI (by decide))) trivial <| .nil) (by kernel_rfl) ?_
  refine pSeq ?_
  refine wSeq ?_
  refine rg (cp (oMv tm) (s1 rfl) <| cp (oAs tm) (s1 rfl) <| .nil) (by kernel_rfl) ?_
  refine pSeq ?_
  obtain ⟨o1, h, hk1⟩ := bd h
  refine wBlock (wLoop ?_)
  refine lW (pc2 o1 (fun v55 v56 => [(0, .d ((kL (kI .i64)).sig a0)), (5, .d ((kI .i64).sig v55)), (6, .d ((kI .i64).sig v56))]) (fun v55 v56 => []) (mutant_start.l0.partial_correctness a0) ?_ _ _ h) ⟨rfl, rfl, rfl, trivial⟩ rfl
  clear h
  intro f' ih v55 v56 h
  obtain ⟨o2, h, hk2⟩ := bd h
  refine wJ1 (fun x70 => .inr x70 = o2) (fun x70 => [(0, .d ((kL (kI .i64)).sig a0)), (5, .d ((kI .i64).sig x70)), (6, .d ((kI .i64).sig v56))]) (fun x70 => []) ?_ ?_
  · refine wBlock ?_
    refine wSeq ?_
    refine rg (cp (oMv tm) (s1 rfl) <| cp (oSub tm (cI (by decide))) (s1 rfl) <| cp (oAs tm) (s1 rfl) <| .nil) (by kernel_rfl) ?_
    refine pSeq ?_
    refine wSeq ?_
    refine wSeq ?_
    obtain ⟨y71, hy71, h⟩ := bd h
    refine rg (cp (oMv tm) (s1 rfl) <| cp (oMv tm) (s1 rfl) <| cp (oIdx u59 z3 hy71 tm tm) (s2 rfl rfl) <| cp (oLd t3 tm) (s1 rfl) <| .nil) (by kernel_rfl) ?_
    refine pSeq ?_
    obtain ⟨o3, h, hk3⟩ := bd h
    refine wK1 (fun x77 => x77 = o3) (fun x77 => [(0, .d ((kL (kI .i64)).sig a0)), (5, .d ((kI .i64).sig x77)), (6, .d ((kI .i64).sig v56))]) (fun x77 => []) ?_ ?_
    · refine wBlock ?_
      refine wSeq ?_
      refine wSeq ?_
      refine rg (cp (oEq rfl tm (cI (by decide))) (s1 rfl) <| cp (oAs tm) (s1 rfl) <| .nil) (by kernel_rfl) ?_
      refine pSeq ?_
      rcases ic h with ⟨hp78, h⟩ | ⟨hp78, h⟩
      · refine wCT hp78 tm (s1 rfl) ?_
        refine wSkip ?_
        refine pSeq ?_
        refine wCT hp78 tm (s1 rfl) ?_
        refine rg (cp (oMv tm) (s1 rfl) <| cp (oAdd tm (cI (by decide))) (s1 rfl) <| cp (oAs tm) (s1 rfl) <| .nil) (by kernel_rfl) ?_
        refine pBlkN ?_
        exact pJ1 _ (so h) ⟨rfl, rfl, rfl, trivial⟩ rfl
      · refine wCF hp78 tm (s1 rfl) ?_
        refine wSeq ?_
        refine rg (cp (oEq rfl tm (cI (by decide))) (s1 rfl) <| cp (oAs tm) (s1 rfl) <| .nil) (by kernel_rfl) ?_
        refine pSeq ?_
        rcases ic h with ⟨hp79, h⟩ | ⟨hp79, h⟩
        · refine wCT hp79 tm (s1 rfl) ?_
          refine wSkip ?_
          refine pSeq ?_
          refine wCT hp79 tm (s1 rfl) ?_
          refine rg (cp (oMv tm) (s1 rfl) <| cp (oAdd tm (cI (by decide))) (s1 rfl) <| cp (oAs tm) (s1 rfl) <| .nil) (by kernel_rfl) ?_
          refine pBlkN ?_
          exact pJ1 _ (so h) ⟨rfl, rfl, rfl, trivial⟩ rfl
        · refine wCF hp79 tm (s1 rfl) ?_
          refine wSeq ?_
          refine rg (cp (oEq rfl tm (cI (by decide))) (s1 rfl) <| cp (oAs tm) (s1 rfl) <| .nil) (by kernel_rfl) ?_
          refine pSeq ?_
          rcases ic h with ⟨hp80, h⟩ | ⟨hp80, h⟩
          · refine wCT hp80 tm (s1 rfl) ?_
            refine wSkip ?_
            refine pSeq ?_
            refine wCT hp80 tm (s1 rfl) ?_
            refine rg (cp (oMv tm) (s1 rfl) <| cp (oAdd tm (cI (by decide))) (s1 rfl) <| cp (oAs tm) (s1 rfl) <| .nil) (by kernel_rfl) ?_
            refine pBlkN ?_
            exact pJ1 _ (so h) ⟨rfl, rfl, rfl, trivial⟩ rfl
          · refine wCF hp80 tm (s1 rfl) ?_
            refine wSeq ?_
            refine rg (cp (oEq rfl tm (cI (by decide))) (s1 rfl) <| cp (oAs tm) (s1 rfl) <| .nil) (by kernel_rfl) ?_
            refine pSeq ?_
            rcases ic h with ⟨hp81, h⟩ | ⟨hp81, h⟩
            · refine wCT hp81 tm (s1 rfl) ?_
              refine wSkip ?_
              refine pSeq ?_
              refine wCT hp81 tm (s1 rfl) ?_
              refine rg (cp (oMv tm) (s1 rfl) <| cp (oAdd tm (cI (by decide))) (s1 rfl) <| cp (oAs tm) (s1 rfl) <| .nil) (by kernel_rfl) ?_
              refine pBlkN ?_
              exact pJ1 _ (so h) ⟨rfl, rfl, rfl, trivial⟩ rfl
            · refine wCF hp81 tm (s1 rfl) ?_
              refine rg (cp (oEq rfl tm (cI (by decide))) (s1 rfl) <| cp (oAs tm) (s1 rfl) <| .nil) (by kernel_rfl) ?_
              refine pSeq ?_
              rcases ic h with ⟨hp82, h⟩ | ⟨hp82, h⟩
              · refine wCT hp82 tm (s1 rfl) ?_
                refine rg (cp (oMv tm) (s1 rfl) <| cp (oAdd tm (cI (by decide))) (s1 rfl) <| cp (oAs tm) (s1 rfl) <| .nil) (by kernel_rfl) ?_
                refine pBlkN ?_
                exact pJ1 _ (so h) ⟨rfl, rfl, rfl, trivial⟩ rfl
              · refine wCF hp82 tm (s1 rfl) ?_
                refine wSkip ?_
                refine pBlkN ?_
                exact pJ1 _ (so h) ⟨rfl, rfl, rfl, trivial⟩ rfl
    · rintro x77 rfl
      replace h := hk3
      refine pSeq ?_
      refine wSeq ?_
      refine rg (cp (oMv tm) (s1 rfl) <| cp (oEq rfl tm (cI (by decide))) (s1 rfl) <| .nil) (by kernel_rfl) ?_
      refine pSeq ?_
      rcases ic h with ⟨hp83, h⟩ | ⟨hp83, h⟩
      · refine wCT hp83 tm (s1 rfl) ?_
        refine wSeq ?_
        refine rg (cp (oMv tm) (s1 rfl) <| cp (oAs tm) (s1 rfl) <| .nil) (by kernel_rfl) ?_
        refine pSeq ?_
        refine wRet ?_
        refine pBlkR ?_
        refine pThenR ?_
        obtain rfl := so h
        replace h := hk2
        refine pThenR ?_
        refine pBlkR ?_
        obtain rfl := so h
        replace h := hk1
        obtain rfl := so h
        exact pR1 (.inl rfl) rfl (.tmp rfl <| .nil)
      · refine wCF hp83 tm (s1 rfl) ?_
        refine wSkip ?_
        refine pBlkN ?_
        exact pJ1 _ (so h) ⟨rfl, rfl, rfl, trivial⟩ rfl
  · rintro x70 rfl
    replace h := hk2
    refine rg (cp (oMv tm) (s1 rfl) <| cp (oSub tm (cI (by decide))) (s1 rfl) <| cp (oAs tm) (s1 rfl) <| .nil) (by kernel_rfl) ?_
    exact pLoop (lW (ih _ _ h) ⟨rfl, rfl, rfl, trivial⟩ rfl)

theorem slices_Grow_int_int_nil.ok {a1 : Int} {r : (List Int)} (h : slices_Grow_int_int_nil.f a1 = some r) : FnS Tryd.prog 153 [.d (sV (.slice none 0 0)), .d ((kI .i64).sig a1)] [] [] (.v 80000) [.row 80000 3 (kI .i64) r] := by
  refine fnIntroS Tryd.func153 rfl (by kernel_rfl) fun X H0 w0 pv => ?_
  unfold slices_Grow_int_int_nil.f at h
  refine wSeq ?_
  refine rg (cp (oAs cV) trivial <| .nil) (by kernel_rfl) ?_
  refine pSeq ?_
  refine wSeq ?_
  refine wSeq ?_
  refine rg (cp (oMv tm) (s1 rfl) <| cp (oLt rfl tm (cI (by decide))) (s1 rfl) <| .nil) (by kernel_rfl) ?_
  refine pSeq ?_
  rcases ic h with ⟨hp1, h⟩ | ⟨hp1, h⟩
  · refine wCT hp1 tm (s1 rfl) ?_
    cases h
  · refine wCF hp1 tm (s1 rfl) ?_
    refine wSkip ?_
    refine pSeq ?_
    refine wSeq ?_
    refine wSeq ?_
    refine rg (cp (oMv tm) (s1 rfl) <| cp (oMv tm) (s1 rfl) <| cp (oCapN u59 tm) (s1 rfl) <| cp (oMv tm) (s1 rfl) <| cp (oLenL u59 (tmN (d := (kI .i64)))) (s1 rfl) <| cp (oSub tm tm) (s2 rfl rfl) <| cp (oSub tm tm) (s2 rfl rfl) <| cp (oAs tm) (s1 rfl) <| .nil) (by kernel_rfl) ?_
    refine pSeq ?_
    refine wSeq ?_
    refine rg (cp (oMv tm) (s1 rfl) <| cp (oGt rfl tm (cI (by decide))) (s1 rfl) <| .nil) (by kernel_rfl) ?_
    refine pSeq ?_
    rcases ic h with ⟨hp2, h⟩ | ⟨hp2, h⟩
    · refine wCT hp2 tm (s1 rfl) ?_
      obtain ⟨hc3, h⟩ := ib h
      obtain ⟨hc4, h⟩ := ib h
      refine rg (cp (oMv tm) (s1 rfl) <| cp (oMv tm) (s1 rfl) <| cp (oCapN u59 tm) (s1 rfl) <| cp (oCutN u59 z3 rfl tm tm) (s2 rfl rfl) <| cp (oMv tm) (s1 rfl) <| cw (oAppZ (id := 22) (d := (kI .i64)) el59 u3 (by decide) (by decide) ze3 zI_i64 hc3.1 hc3.2 tm tm) (s2 rfl rfl) <| cp (oMv tm) (s1 rfl) <| cp (oLenL u59 (tmN (d := (kI .i64)))) (s1 rfl) <| cw (oCutR (n := 0) (id' := 25) u59 z3 rfl hc4.1 hc4.2 tm tm) (s2 rfl rfl) <| cp (oAs tm) (s1 rfl) <| .nil) (by kernel_rfl) ?_
      refine pSeq ?_
      refine wSeq ?_
      refine rg (cp (oMv tm) (s1 rfl) <| cp (oAs tm) (s1 rfl) <| .nil) (by kernel_rfl) ?_
      refine pSeq ?_
      refine wRet ?_
      obtain rfl := so h
      refine pSub (Γ' := [(4, .v 25)]) ⟨rfl, trivial⟩ ?_
      refine pRen 25 80000 rfl ?_
      exact pSv [0] rfl rfl (.inl rfl) rfl rfl
    · refine wCF hp2 tm (s1 rfl) ?_
      refine wSkip ?_
      refine pSeq ?_
      refine wSeq ?_
      refine rg (cp (oMv tm) (s1 rfl) <| cp (oAs tm) (s1 rfl) <| .nil) (by kernel_rfl) ?_
      refine pSeq ?_
      refine wNil (kI .i64) 3 9004 4 rfl rfl ?_
      refine wRet ?_
      obtain rfl := so h
      refine pSub (Γ' := [(4, .v 9004)]) ⟨rfl, trivial⟩ ?_
      refine pRen 9004 80000 rfl ?_
      exact pSv [0] rfl rfl (.inl rfl) rfl rfl

theorem slices_Concat_int_int.ok {a0 : List (List Int)} {r : List Int} (h : slices_Concat_int_int.f a0 = some r) : FnA Tryd.prog 140 [(kL (kL (kI .i64))).sig a0] ((kL (kI .i64)).sig r) := by
  refine fnIntro Tryd.func140 rfl (by kernel_rfl) fun H0 w0 => ?_
  unfold slices_Concat_int_int.f at h
  refine wSeq ?_
  refine rg (cp (oAs cV) trivial <| .nil) (by kernel_rfl) ?_
  refine pSeq ?_
  refine wSeq ?_
  refine rg (cp (oAs (cI (by decide))) trivial <| .nil) (by kernel_rfl) ?_
  refine pSeq ?_
  refine wSeq ?_
  refine wSeq ?_
  refine rg (cp (oMv tm) (s1 rfl) <| cp (oLenL u69 tm) (s1 rfl) <| cp (oMv (cI (by decide))) trivial <| .nil) (by kernel_rfl) ?_
  refine pSeq ?_
  obtain ⟨o1, h, hk1⟩ := bd h
  refine wK1 (fun x15 => x15 = o1) (fun x15 => [(0, .d ((kL (kL (kI .i64))).sig a0)), (3, .d ((kI .i64).sig x15))]) (fun x15 => []) ?_ ?_
  · refine wBlock (wLoop ?_)
    refine lW (pc2 o1 (fun v13 v14 => [(0, .d ((kL (kL (kI .i64))).sig a0)), (3, .d ((kI .i64).sig v14)), (9, .d ((kL (kL (kI .i64))).sig a0)), (10, .d ((kI .i64).sig (a0.length : Int))), (11, .d ((kI .i64).sig v13))]) (fun v13 v14 => []) (slices_Concat_int_int.l0.partial_correctness a0) ?_ _ _ h) ⟨rfl, rfl, rfl, rfl, rfl, trivial⟩ rfl
    clear h
    intro f' ih v13 v14 h
    refine wSeq ?_
    refine rg (cp (oLt rfl tm tm) (s2 rfl rfl) <| .nil) (by kernel_rfl) ?_
    refine pSeq ?_
    refine wSeq ?_
    rcases ic h with ⟨hp16, h⟩ | ⟨hp16, h⟩
    · refine wCT hp16 tm (s1 rfl) ?_
      refine wSkip ?_
      refine pSeq ?_
      obtain ⟨o2, h, hk2⟩ := bd h
      refine wJ1 (fun x19 => x19 = o2) (fun x19 => [(0, .d ((kL (kL (kI .i64))).sig a0)), (3, .d ((kI .i64).sig x19)), (9, .d ((kL (kL (kI .i64))).sig a0)), (10, .d ((kI .i64).sig (a0.length : Int))), (11, .d ((kI .i64).sig v13))]) (fun x19 => []) ?_ ?_
      · refine wBlock ?_
        refine wSeq ?_
        obtain ⟨y20, hy20, h⟩ := bd h
        refine rg (cp (oIdx u69 z59 hy20 tm tm) (s2 rfl rfl) <| cp (oLd t59 tm) (s1 rfl) <| cp (oAs tm) (s1 rfl) <| .nil) (by kernel_rfl) ?_
        refine pSeq ?_
        refine wSeq ?_
        refine rg (cp (oMv tm) (s1 rfl) <| cp (oMv tm) (s1 rfl) <| cp (oLenL u59 tm) (s1 rfl) <| cp (oAdd tm tm) (s2 rfl rfl) <| cp (oAs tm) (s1 rfl) <| .nil) (by kernel_rfl) ?_
        refine pSeq ?_
        refine wSeq ?_
        refine rg (cp (oMv tm) (s1 rfl) <| cp (oLt rfl tm (cI (by decide))) (s1 rfl) <| .nil) (by kernel_rfl) ?_
        refine pSeq ?_
        rcases ic h with ⟨hp21, h⟩ | ⟨hp21, h⟩
        · refine wCT hp21 tm (s1 rfl) ?_
          cases h
        · refine wCF hp21 tm (s1 rfl) ?_
          refine wSkip ?_
          refine pBlkN ?_
          exact pJ1 _ (so h) ⟨rfl, rfl, rfl, rfl, rfl, trivial⟩ rfl
      · rintro x19 rfl
        replace h := hk2
        refine rg (cp (oAdd tm (cI (by decide))) (s1 rfl) <| cp (oMv tm) (s1 rfl) <| .nil) (by kernel_rfl) ?_
        exact pLoop (lW (ih _ _ h) ⟨rfl, rfl, rfl, rfl, rfl, trivial⟩ rfl)
    · refine wCF hp16 tm (s1 rfl) ?_
      refine wExit ?_
      refine pThenX ?_
      refine pThenX ?_
      refine pBlkX ?_
      exact pJ1 _ (so h) ⟨rfl, rfl, trivial⟩ rfl
  · rintro x15 rfl
    replace h := hk1
    refine pSeq ?_
    refine wSeq ?_
    obtain ⟨y22, hy22, h⟩ := bd h
    refine rg (cp (oMv tm) (s1 rfl) <| cm (oCallS (rest := []) (R' := [.row 390040 3 (kI .i64) y22]) (out' := .v 390040) [] [(80000, 390040)] [] [] [0] rfl (slices_Grow_int_int_nil.ok hy22) b153 (oE1 cV (oE1 tm oE0)) rfl rfl rfl rfl rfl rfl rfl rfl) (s1 rfl) <| cp (oAs tm) (s1 rfl) <| .nil) (by kernel_rfl) ?_
    refine pSeq ?_
    refine wSeq ?_
    refine wSeq ?_
    refine rg (cp (oMv tm) (s1 rfl) <| cp (oLenL u69 tm) (s1 rfl) <| cp (oMv (cI (by decide))) trivial <| .nil) (by kernel_rfl) ?_
    refine pSeq ?_
    refine wWeak (Γ' := [(6, .v 390040), (25, .d ((kL (kL (kI .i64))).sig a0)), (26, .d ((kI .i64).sig (a0.length : Int))), (27, .d ((kI .i64).sig 0))]) ⟨rfl, rfl, rfl, rfl, trivial⟩ ?_
    refine wRen 390040 1006 rfl ?_
    obtain ⟨o1, h, hk1⟩ := bd h
    refine wK1 (fun x31 => x31 = o1) (fun x31 => [(6, .v 1006)]) (fun x31 => [.row 1006 3 (kI .i64) x31]) ?_ ?_
    · refine wBlock (wLoop ?_)
      refine lW (pc2 o1 (fun v29 v30 => [(6, .v 1006), (25, .d ((kL (kL (kI .i64))).sig a0)), (26, .d ((kI .i64).sig (a0.length : Int))), (27, .d ((kI .i64).sig v30))]) (fun v29 v30 => [.row 1006 3 (kI .i64) v29]) (slices_Concat_int_int.l1.partial_correctness a0) ?_ _ _ h) ⟨rfl, rfl, rfl, rfl, trivial⟩ rfl
      clear h
      intro f' ih v29 v30 h
      refine wSeq ?_
      refine rg (cp (oLt rfl tm tm) (s2 rfl rfl) <| .nil) (by kernel_rfl) ?_
      refine pSeq ?_
      refine wSeq ?_
      rcases ic h with ⟨hp32, h⟩ | ⟨hp32, h⟩
      · refine wCT hp32 tm (s1 rfl) ?_
        refine wSkip ?_
        refine pSeq ?_
        refine wSeq ?_
        refine wBlock ?_
        refine wSeq ?_
        obtain ⟨y33, hy33, h⟩ := bd h
        refine rg (cp (oIdx u69 z59 hy33 tm tm) (s2 rfl rfl) <| cp (oLd t59 tm) (s1 rfl) <| cp (oAs tm) (s1 rfl) <| .nil) (by kernel_rfl) ?_
        refine pSeq ?_
        obtain ⟨hc34, h⟩ := ib h
        refine rg (cp (oMv tm) (s1 rfl) <| cp (oMv tm) (s1 rfl) <| cw (oApp (n := 0) (id' := 33) el59 (by decide) rfl (by decide) hc34 tm tm) (s2 rfl rfl) <| cp (oAs tm) (s1 rfl) <| .nil) (by kernel_rfl) ?_
        refine pBlkN ?_
        refine pSeq ?_
        refine rg (cp (oAdd tm (cI (by decide))) (s1 rfl) <| cp (oMv tm) (s1 rfl) <| .nil) (by kernel_rfl) ?_
        refine pSub (Γ' := [(6, .v 33), (25, .d ((kL (kL (kI .i64))).sig a0)), (26, .d ((kI .i64).sig (a0.length : Int))), (27, .d ((kI .i64).sig (IntKind.i64.wrap (v30 + 1))))]) ⟨rfl, rfl, rfl, rfl, trivial⟩ ?_
        refine pRen 33 1006 rfl ?_
        exact pLoop (lW (ih _ _ h) ⟨rfl, rfl, rfl, rfl, trivial⟩ rfl)
      · refine wCF hp32 tm (s1 rfl) ?_
        refine wExit ?_
        refine pThenX ?_
        refine pThenX ?_
        refine pBlkX ?_
        exact pJ1 _ (so h) ⟨rfl, trivial⟩ rfl
    · rintro x31 rfl
      replace h := hk1
      refine pSeq ?_
      refine wSeq ?_
      refine rg (cp (oMv tm) (s1 rfl) <| cp (oAs tm) (s1 rfl) <| .nil) (by kernel_rfl) ?_
      refine pSeq ?_
      refine wFrzR (n := 0) (id := 1006) [2] rfl rfl ⟨rfl, trivial⟩ ?_
      refine wRet ?_
      obtain rfl := so h
      exact pR1 (.inl rfl) rfl (.tmp rfl <| .nil)

theorem mutant_less.ok {a0 : List Int} {a1 : Int} {r : List (List Int)} (h : mutant_less.f a0 a1 = some r) : FnA Tryd.prog 106 [(kL (kI .i64)).sig a0, (kI .i64).sig a1] ((kL (kL (kI .i64))).sig r) := by
  refine fnIntro Tryd.func106 rfl (by kernel_rfl) fun H0 w0 => ?_
  unfold mutant_less.f at h
  refine wSeq ?_
  refine rg (cp (oAs cV) trivial <| .nil) (by kernel_rfl) ?_
  refine pSeq ?_
  refine wSeq ?_
  obtain ⟨y1, hy1, h⟩ := bd h
  refine rg (cp (oMv tm) (s1 rfl) <| cp (oMv tm) (s1 rfl) <| cp (oSub tm (cI (by decide))) (s1 rfl) <| cp (oCall rfl (mutant_start.ok hy1) b139 (opds_cons tm (opds_cons tm opds_nil))) (s2 rfl rfl) <| cp (oAs tm) (s1 rfl) <| .nil) (by kernel_rfl) ?_
  refine pSeq ?_
  refine wSeq ?_
  obtain ⟨y2, hy2, h⟩ := bd h
  refine rg (cp (oMv tm) (s1 rfl) <| cp (oMv tm) (s1 rfl) <| cp (oSub tm (cI (by decide))) (s1 rfl) <| cp (oCall rfl (mutant_start.ok hy2) b139 (opds_cons tm (opds_cons tm opds_nil))) (s2 rfl rfl) <| cp (oAs tm) (s1 rfl) <| .nil) (by kernel_rfl) ?_
  refine pSeq ?_
  refine wSeq ?_
  obtain ⟨hc3, h⟩ := ib h
  obtain ⟨hc4, h⟩ := ib h
  obtain ⟨y5, hy5, h⟩ := bd h
  obtain ⟨hc6, h⟩ := ib h
  obtain ⟨hc7, h⟩ := ib h
  obtain ⟨hc8, h⟩ := ib h
  obtain ⟨y9, hy9, h⟩ := bd h
  refine rgD hm (cp (oMv tm) (s1 rfl) <| cp (oMv tm) (s1 rfl) <| cp (oCutHi u59 z3 hc3.1 hc3.2 tm tm) (s2 rfl rfl) <| cp (oMv tm) (s1 rfl) <| cp (oMv tm) (s1 rfl) <| cp (oAdd tm (cI (by decide))) (s1 rfl) <| cp (oCutLo u59 z3 hc4.1 hc4.2 tm tm) (s2 rfl rfl) <| cp (oLit (d := (kL (kI .i64))) el69 (by decide) rfl rfl rfl (e1 tm (e1 tm e0))) (s2 rfl rfl) <| cp (oCall rfl (slices_Concat_int_int.ok hy5) b140 (opds_cons tm opds_nil)) (s1 rfl) <| cp (oMv tm) (s1 rfl) <| cp (oMv tm) (s1 rfl) <| cp (oCutHi u59 z3 hc6.1 hc6.2 tm tm) (s2 rfl rfl) <| cp (oMv tm) (s1 rfl) <| cp (oMv tm) (s1 rfl) <| cp (oMv tm) (s1 rfl) <| cp (oCut u59 z3 hc7.1 hc7.2.1 hc7.2.2 tm tm tm) (s3 rfl rfl rfl) <| cp (oMv tm) (s1 rfl) <| cp (oMv tm) (s1 rfl) <| cp (oAdd tm (cI (by decide))) (s1 rfl) <| cp (oCutLo u59 z3 hc8.1 hc8.2 tm tm) (s2 rfl rfl) <| cp (oLit (d := (kL (kI .i64))) el69 (by decide) rfl rfl rfl (e1 tm (e1 tm (e1 tm e0)))) (s3 rfl rfl rfl) <| cp (oCall rfl (slices_Concat_int_int.ok hy9) b140 (opds_cons tm opds_nil)) (s1 rfl) <| cp (oLit (d := (kL (kI .i64))) el69 (by decide) rfl rfl rfl (e1 tm (e1 tm e0))) (s2 rfl rfl) <| cp (oAs tm) (s1 rfl) <| .nil) (by kernel_rfl) (by kernel_rfl) ?_
  refine pSeq ?_
  refine wRet ?_
  obtain rfl := so h
  exact pR1 (.inl rfl) rfl (.tmp rfl <| .nil)

theorem mutant_weaker.ok {a0 : List Int} {r : List (List Int)} (h : mutant_weaker.f a0 = some r) : FnA Tryd.prog 72 [(kL (kI .i64)).sig a0] ((kL (kL (kI .i64))).sig r) := by
  refine fnIntro Tryd.func72 rfl (by kernel_rfl) fun H0 w0 => ?_
  unfold mutant_weaker.f at h
  refine wSeq ?_
  refine rg (cp (oAs cV) trivial <| .nil) (by kernel_rfl) ?_
  refine pSeq ?_
  refine wSeq ?_
  refine rg (cp (oAs (cI (by decide))) trivial <| cp (oAs (cI (by decide))) trivial <| .nil) (by kernel_rfl) ?_
  refine pSeq ?_
  refine wSeq ?_
  refine wSeq ?_
  obtain ⟨y1, hy1, h⟩ := bd h
  refine rg (cp (oMv tm) (s1 rfl) <| cp (oCall rfl (rule_Right.ok hy1) b73 (opds_cons tm (opds_cons cB opds_nil))) (s1 rfl) <| .nil) (by kernel_rfl) ?_
  refine pSeq ?_
  rcases ic h with ⟨hp2, h⟩ | ⟨hp2, h⟩
  · refine wBT hp2 tm (s1 rfl) ?_
    refine rg (cp (oAs (cI (by decide))) trivial <| cp (oAs (cI (by decide))) trivial <| .nil) (by kernel_rfl) ?_
    refine pSeq ?_
    refine wSeq ?_
    refine rg (cp (oAs cV) trivial <| .nil) (by kernel_rfl) ?_
    refine pSeq ?_
    refine wSeq ?_
    refine wSeq ?_
    obtain ⟨y3, hy3, h⟩ := bd h
    refine rg (cp (oMv tm) (s1 rfl) <| cp (oMv tm) (s1 rfl) <| cp (oLit (d := (kI .i64)) el59 (by decide) rfl rfl rfl (e1 tm e0)) (s1 rfl) <| cp (oCall rfl (slices_Equal_int_int.ok hy3) b75 (opds_cons tm (opds_cons tm opds_nil))) (s2 rfl rfl) <| cp (oNot tm) (s1 rfl) <| .nil) (by kernel_rfl) ?_
    refine pSeq ?_
    rcases ic h with ⟨hp4, h⟩ | ⟨hp4, h⟩
    · refine wBT hp4 tm (s1 rfl) ?_
      refine wNil (kL (kI .i64)) 59 1005 5 rfl rfl ?_
      obtain ⟨hc5, h⟩ := ib h
      refine rg (cp (oMv tm) (s1 rfl) <| cp (oMv tm) (s1 rfl) <| cp (oLit (d := (kI .i64)) el59 (by decide) rfl rfl rfl (e1 tm e0)) (s1 rfl) <| cp (oLit (d := (kL (kI .i64))) el69 (by decide) rfl rfl rfl (e1 tm e0)) (s1 rfl) <| cw (oApp (n := 0) (id' := 19) el69 (by decide) rfl (by decide) hc5 tm tm) (s2 rfl rfl) <| cp (oAs tm) (s1 rfl) <| .nil) (by kernel_rfl) ?_
      refine pSeq ?_
      refine wSeq ?_
      refine wSeq ?_
      refine rg (cp (oMv tm) (s1 rfl) <| cp (oLenL u59 tm) (s1 rfl) <| cp (oMv (cI (by decide))) trivial <| .nil) (by kernel_rfl) ?_
      refine pSeq ?_
      refine wWeak (Γ' := [(0, .d ((kL (kI .i64)).sig a0)), (4, .d ((kI .i64).sig 12)), (5, .v 19), (20, .d ((kL (kI .i64)).sig a0)), (21, .d ((kI .i64).sig (a0.length : Int))), (22, .d ((kI .i64).sig 0))]) ⟨rfl, rfl, rfl, rfl, rfl, rfl, trivial⟩ ?_
      refine wRen 19 1005 rfl ?_
      obtain ⟨o1, h, hk1⟩ := bd h
      refine wK1 (fun x28 => x28 = o1) (fun x28 => [(5, .v 1005)]) (fun x28 => [.row 1005 59 (kL (kI .i64)) x28]) ?_ ?_
      · refine wBlock (wLoop ?_)
        refine lW (pc2 o1 (fun v26 v27 => [(0, .d ((kL (kI .i64)).sig a0)), (4, .d ((kI .i64).sig 12)), (5, .v 1005), (20, .d ((kL (kI .i64)).sig a0)), (21, .d ((kI .i64).sig (a0.length : Int))), (22, .d ((kI .i64).sig v27))]) (fun v26 v27 => [.row 1005 59 (kL (kI .i64)) v26]) (mutant_weaker.l0.partial_correctness a0) ?_ _ _ h) ⟨rfl, rfl, rfl, rfl, rfl, rfl, trivial⟩ rfl
        clear h
        intro f' ih v26 v27 h
        refine wSeq ?_
        refine rg (cp (oLt rfl tm tm) (s2 rfl rfl) <| .nil) (by kernel_rfl) ?_
        refine pSeq ?_
        refine wSeq ?_
        rcases ic h with ⟨hp29, h⟩ | ⟨hp29, h⟩
        · refine wCT hp29 tm (s1 rfl) ?_
          refine wSkip ?_
          refine pSeq ?_
          obtain ⟨o2, h, hk2⟩ := bd h
          refine wJ1 (fun x34 => x34 = o2) (fun x34 => [(0, .d ((kL (kI .i64)).sig a0)), (4, .d ((kI .i64).sig 12)), (5, .v 1005), (20, .d ((kL (kI .i64)).sig a0)), (21, .d ((kI .i64).sig (a0.length : Int))), (22, .d ((kI .i64).sig v27))]) (fun x34 => [.row 1005 59 (kL (kI .i64)) x34]) ?_ ?_
          · refine wBlock ?_
            refine wSeq ?_
            obtain ⟨y35, hy35, h⟩ := bd h
            refine rg (cp (oMv tm) (s1 rfl) <| cp (oIdx u59 z3 hy35 tm tm) (s2 rfl rfl) <| cp (oLd t3 tm) (s1 rfl) <| cp (oAs tm) (s1 rfl) <| cp (oAs tm) (s1 rfl) <| .nil) (by kernel_rfl) ?_
            refine pSeq ?_
            refine wSeq ?_
            refine rg (cp (oMv tm) (s1 rfl) <| cp (oMv tm) (s1 rfl) <| cp (oEq rfl tm tm) (s2 rfl rfl) <| .nil) (by kernel_rfl) ?_
            refine pSeq ?_
            rcases ic h with ⟨hp36, h⟩ | ⟨hp36, h⟩
            · refine wCT hp36 tm (s1 rfl) ?_
              obtain ⟨y37, hy37, h⟩ := bd h
              obtain ⟨hc38, h⟩ := ib h
              refine rg (cp (oMv tm) (s1 rfl) <| cp (oMv tm) (s1 rfl) <| cp (oMv tm) (s1 rfl) <| cp (oCall rfl (mutant_less.ok hy37) b106 (opds_cons tm (opds_cons tm opds_nil))) (s2 rfl rfl) <| cw (oApp (n := 0) (id' := 34) el69 (by decide) rfl (by decide) hc38 tm tm) (s2 rfl rfl) <| cp (oAs tm) (s1 rfl) <| .nil) (by kernel_rfl) ?_
              refine pBlkN ?_
              refine pSub (Γ' := [(0, .d ((kL (kI .i64)).sig a0)), (4, .d ((kI .i64).sig 12)), (5, .v 34), (20, .d ((kL (kI .i64)).sig a0)), (21, .d ((kI .i64).sig (a0.length : Int))), (22, .d ((kI .i64).sig v27))]) ⟨rfl, rfl, rfl, rfl, rfl, rfl, trivial⟩ ?_
              refine pRen 34 1005 rfl ?_
              exact pJ1 _ (so h) ⟨rfl, rfl, rfl, rfl, rfl, rfl, trivial⟩ rfl
            · refine wCF hp36 tm (s1 rfl) ?_
              refine wSkip ?_
              refine pBlkN ?_
              exact pJ1 _ (so h) ⟨rfl, rfl, rfl, rfl, rfl, rfl, trivial⟩ rfl
          · rintro x34 rfl
            replace h := hk2
            refine rg (cp (oAdd tm (cI (by decide))) (s1 rfl) <| cp (oMv tm) (s1 rfl) <| .nil) (by kernel_rfl) ?_
            exact pLoop (lW (ih _ _ h) ⟨rfl, rfl, rfl, rfl, rfl, rfl, trivial⟩ rfl)
        · refine wCF hp29 tm (s1 rfl) ?_
          refine wExit ?_
          refine pThenX ?_
          refine pThenX ?_
          refine pBlkX ?_
          exact pJ1 _ (so h) ⟨rfl, trivial⟩ rfl
      · rintro x28 rfl
        replace h := hk1
        refine pSeq ?_
        refine wSeq ?_
        refine rg (cp (oMv tm) (s1 rfl) <| cp (oAs tm) (s1 rfl) <| .nil) (by kernel_rfl) ?_
        refine pSeq ?_
        refine wFrzR (n := 0) (id := 1005) [2] rfl rfl ⟨rfl, trivial⟩ ?_
        refine wRet ?_
        obtain rfl := so h
        exact pR1 (.inl rfl) rfl (.tmp rfl <| .nil)
    · refine wBF hp4 tm (s1 rfl) ?_
      refine wSkip ?_
      refine pSeq ?_
      refine wSeq ?_
      refine wSeq ?_
      refine rg (cp (oMv tm) (s1 rfl) <| cp (oLenL u59 tm) (s1 rfl) <| cp (oMv (cI (by decide))) trivial <| .nil) (by kernel_rfl) ?_
      refine pSeq ?_
      refine wNil (kL (kI .i64)) 59 1005 5 rfl rfl ?_
      obtain ⟨o1, h, hk1⟩ := bd h
      refine wK1 (fun x61 => x61 = o1) (fun x61 => [(5, .v 1005)]) (fun x61 => [.row 1005 59 (kL (kI .i64)) x61]) ?_ ?_
      · refine wBlock (wLoop ?_)
        refine lW (pc2 o1 (fun v59 v60 => [(0, .d ((kL (kI .i64)).sig a0)), (4, .d ((kI .i64).sig 12)), (5, .v 1005), (20, .d ((kL (kI .i64)).sig a0)), (21, .d ((kI .i64).sig (a0.length : Int))), (22, .d ((kI .i64).sig v60))]) (fun v59 v60 => [.row 1005 59 (kL (kI .i64)) v59]) (mutant_weaker.l1.partial_correctness a0) ?_ _ _ h) ⟨rfl, rfl, rfl, rfl, rfl, rfl, trivial⟩ rfl
        clear h
        intro f' ih v59 v60 h
        refine wSeq ?_
        refine rg (cp (oLt rfl tm tm) (s2 rfl rfl) <| .nil) (by kernel_rfl) ?_
        refine pSeq ?_
        refine wSeq ?_
        rcases ic h with ⟨hp62, h⟩ | ⟨hp62, h⟩
        · refine wCT hp62 tm (s1 rfl) ?_
          refine wSkip ?_
          refine pSeq ?_
          obtain ⟨o2, h, hk2⟩ := bd h
          refine wJ1 (fun x67 => x67 = o2) (fun x67 => [(0, .d ((kL (kI .i64)).sig a0)), (4, .d ((kI .i64).sig 12)), (5, .v 1005), (20, .d ((kL (kI .i64)).sig a0)), (21, .d ((kI .i64).sig (a0.length : Int))), (22, .d ((kI .i64).sig v60))]) (fun x67 => [.row 1005 59 (kL (kI .i64)) x67]) ?_ ?_
          · refine wBlock ?_
            refine wSeq ?_
            obtain ⟨y68, hy68, h⟩ := bd h
            refine rg (cp (oMv tm) (s1 rfl) <| cp (oIdx u59 z3 hy68 tm tm) (s2 rfl rfl) <| cp (oLd t3 tm) (s1 rfl) <| cp (oAs tm) (s1 rfl) <| cp (oAs tm) (s1 rfl) <| .nil) (by kernel_rfl) ?_
            refine pSeq ?_
            refine wSeq ?_
            refine rg (cp (oMv tm) (s1 rfl) <| cp (oMv tm) (s1 rfl) <| cp (oEq rfl tm tm) (s2 rfl rfl) <| .nil) (by kernel_rfl) ?_
            refine pSeq ?_
            rcases ic h with ⟨hp69, h⟩ | ⟨hp69, h⟩
            · refine wCT hp69 tm (s1 rfl) ?_
              obtain ⟨y70, hy70, h⟩ := bd h
              obtain ⟨hc71, h⟩ := ib h
              refine rg (cp (oMv tm) (s1 rfl) <| cp (oMv tm) (s1 rfl) <| cp (oMv tm) (s1 rfl) <| cp (oCall rfl (mutant_less.ok hy70) b106 (opds_cons tm (opds_cons tm opds_nil))) (s2 rfl rfl) <| cw (oApp (n := 0) (id' := 34) el69 (by decide) rfl (by decide) hc71 tm tm) (s2 rfl rfl) <| cp (oAs tm) (s1 rfl) <| .nil) (by kernel_rfl) ?_
              refine pBlkN ?_
              refine pSub (Γ' := [(0, .d ((kL (kI .i64)).sig a0)), (4, .d ((kI .i64).sig 12)), (5, .v 34), (20, .d ((kL (kI .i64)).sig a0)), (21, .d ((kI .i64).sig (a0.length : Int))), (22, .d ((kI .i64).sig v60))]) ⟨rfl, rfl, rfl, rfl, rfl, rfl, trivial⟩ ?_
              refine pRen 34 1005 rfl ?_
              exact pJ1 _ (so h) ⟨rfl, rfl, rfl, rfl, rfl, rfl, trivial⟩ rfl
            · refine wCF hp69 tm (s1 rfl) ?_
              refine wSkip ?_
              refine pBlkN ?_
              exact pJ1 _ (so h) ⟨rfl, rfl, rfl, rfl, rfl, rfl, trivial⟩ rfl
          · rintro x67 rfl
            replace h := hk2
            refine rg (cp (oAdd tm (cI (by decide))) (s1 rfl) <| cp (oMv tm) (s1 rfl) <| .nil) (by kernel_rfl) ?_
            exact pLoop (lW (ih _ _ h) ⟨rfl, rfl, rfl, rfl, rfl, rfl, trivial⟩ rfl)
        · refine wCF hp62 tm (s1 rfl) ?_
          refine wExit ?_
          refine pThenX ?_
          refine pThenX ?_
          refine pBlkX ?_
          exact pJ1 _ (so h) ⟨rfl, trivial⟩ rfl
      · rintro x61 rfl
        replace h := hk1
        refine pSeq ?_
        refine wSeq ?_
        refine rg (cp (oMv tm) (s1 rfl) <| cp (oAs tm) (s1 rfl) <| .nil) (by kernel_rfl) ?_
        refine pSeq ?_
        refine wFrzR (n := 0) (id := 1005) [2] rfl rfl ⟨rfl, trivial⟩ ?_
        refine wRet ?_
        obtain rfl := so h
        exact pR1 (.inl rfl) rfl (.tmp rfl <| .nil)
  · refine wBF hp2 tm (s1 rfl) ?_
    refine wSkip ?_
    refine pSeq ?_
    refine wSeq ?_
    refine rg (cp (oAs cV) trivial <| .nil) (by kernel_rfl) ?_
    refine pSeq ?_
    refine wSeq ?_
    refine wSeq ?_
    obtain ⟨y72, hy72, h⟩ := bd h
    refine rg (cp (oMv tm) (s1 rfl) <| cp (oMv tm) (s1 rfl) <| cp (oLit (d := (kI .i64)) el59 (by decide) rfl rfl rfl (e1 tm e0)) (s1 rfl) <| cp (oCall rfl (slices_Equal_int_int.ok hy72) b75 (opds_cons tm (opds_cons tm opds_nil))) (s2 rfl rfl) <| cp (oNot tm) (s1 rfl) <| .nil) (by kernel_rfl) ?_
    refine pSeq ?_
    rcases ic h with ⟨hp73, h⟩ | ⟨hp73, h⟩
    · refine wBT hp73 tm (s1 rfl) ?_
      refine wNil (kL (kI .i64)) 59 1005 5 rfl rfl ?_
      obtain ⟨hc74, h⟩ := ib h
      refine rg (cp (oMv tm) (s1 rfl) <| cp (oMv tm) (s1 rfl) <| cp (oLit (d := (kI .i64)) el59 (by decide) rfl rfl rfl (e1 tm e0)) (s1 rfl) <| cp (oLit (d := (kL (kI .i64))) el69 (by decide) rfl rfl rfl (e1 tm e0)) (s1 rfl) <| cw (oApp (n := 0) (id' := 19) el69 (by decide) rfl (by decide) hc74 tm tm) (s2 rfl rfl) <| cp (oAs tm) (s1 rfl) <| .nil) (by kernel_rfl) ?_
      refine pSeq ?_
      refine wSeq ?_
      refine wSeq ?_
      refine rg (cp (oMv tm) (s1 rfl) <| cp (oLenL u59 tm) (s1 rfl) <| cp (oMv (cI (by decide))) trivial <| .nil) (by kernel_rfl) ?_
      refine pSeq ?_
      refine wWeak (Γ' := [(0, .d ((kL (kI .i64)).sig a0)), (4, .d ((kI .i64).sig 3)), (5, .v 19), (20, .d ((kL (kI .i64)).sig a0)), (21, .d ((kI .i64).sig (a0.length : Int))), (22, .d ((kI .i64).sig 0))]) ⟨rfl, rfl, rfl, rfl, rfl, rfl, trivial⟩ ?_
      refine wRen 19 1005 rfl ?_
      obtain ⟨o1, h, hk1⟩ := bd h
      refine wK1 (fun x97 => x97 = o1) (fun x97 => [(5, .v 1005)]) (fun x97 => [.row 1005 59 (kL (kI .i64)) x97]) ?_ ?_
      · refine wBlock (wLoop ?_)
        refine lW (pc2 o1 (fun v95 v96 => [(0, .d ((kL (kI .i64)).sig a0)), (4, .d ((kI .i64).sig 3)), (5, .v 1005), (20, .d ((kL (kI .i64)).sig a0)), (21, .d ((kI .i64).sig (a0.length : Int))), (22, .d ((kI .i64).sig v96))]) (fun v95 v96 => [.row 1005 59 (kL (kI .i64)) v95]) (mutant_weaker.l2.partial_correctness a0) ?_ _ _ h) ⟨rfl, rfl, rfl, rfl, rfl, rfl, trivial⟩ rfl
        clear h
        intro f' ih v95 v96 h
        refine wSeq ?_
        refine rg (cp (oLt rfl tm tm) (s2 rfl rfl) <| .nil) (by kernel_rfl) ?_
        refine pSeq ?_
        refine wSeq ?_
        rcases ic h with ⟨hp98, h⟩ | ⟨hp98, h⟩
        · refine wCT hp98 tm (s1 rfl) ?_
          refine wSkip ?_
          refine pSeq ?_
          obtain ⟨o2, h, hk2⟩ := bd h
          refine wJ1 (fun x103 => x103 = o2) (fun x103 => [(0, .d ((kL (kI .i64)).sig a0)), (4, .d ((kI .i64).sig 3)), (5, .v 1005), (20, .d ((kL (kI .i64)).sig a0)), (21, .d ((kI .i64).sig (a0.length : Int))), (22, .d ((kI .i64).sig v96))]) (fun x103 => [.row 1005 59 (kL (kI .i64)) x103]) ?_ ?_
          · refine wBlock ?_
            refine wSeq ?_
            obtain ⟨y104, hy104, h⟩ := bd h
            refine rg (cp (oMv tm) (s1 rfl) <| cp (oIdx u59 z3 hy104 tm tm) (s2 rfl rfl) <| cp (oLd t3 tm) (s1 rfl) <| cp (oAs tm) (s1 rfl) <| cp (oAs tm) (s1 rfl) <| .nil) (by kernel_rfl) ?_
            refine pSeq ?_
            refine wSeq ?_
            refine rg (cp (oMv tm) (s1 rfl) <| cp (oMv tm) (s1 rfl) <| cp (oEq rfl tm tm) (s2 rfl rfl) <| .nil) (by kernel_rfl) ?_
            refine pSeq ?_
            rcases ic h with ⟨hp105, h⟩ | ⟨hp105, h⟩
            · refine wCT hp105 tm (s1 rfl) ?_
              obtain ⟨y106, hy106, h⟩ := bd h
              obtain ⟨hc107, h⟩ := ib h
              refine rg (cp (oMv tm) (s1 rfl) <| cp (oMv tm) (s1 rfl) <| cp (oMv tm) (s1 rfl) <| cp (oCall rfl (mutant_less.ok hy106) b106 (opds_cons tm (opds_cons tm opds_nil))) (s2 rfl rfl) <| cw (oApp (n := 0) (id' := 34) el69 (by decide) rfl (by decide) hc107 tm tm) (s2 rfl rfl) <| cp (oAs tm) (s1 rfl) <| .nil) (by kernel_rfl) ?_
              refine pBlkN ?_
              refine pSub (Γ' := [(0, .d ((kL (kI .i64)).sig a0)), (4, .d ((kI .i64).sig 3)), (5, .v 34), (20, .d ((kL (kI .i64)).sig a0)), (21, .d ((kI .i64).sig (a0.length : Int))), (22, .d ((kI .i64).sig v96))]) ⟨rfl, rfl, rfl, rfl, rfl, rfl, trivial⟩ ?_
              refine pRen 34 1005 rfl ?_
              exact pJ1 _ (so h) ⟨rfl, rfl, rfl, rfl, rfl, rfl, trivial⟩ rfl
            · refine wCF hp105 tm (s1 rfl) ?_
              refine wSkip ?_
              refine pBlkN ?_
              exact pJ1 _ (so h) ⟨rfl, rfl, rfl, rfl, rfl, rfl, trivial⟩ rfl
          · rintro x103 rfl
            replace h := hk2
            refine rg (cp (oAdd tm (cI (by decide))) (s1 rfl) <| cp (oMv tm) (s1 rfl) <| .nil) (by kernel_rfl) ?_
            exact pLoop (lW (ih _ _ h) ⟨rfl, rfl, rfl, rfl, rfl, rfl, trivial⟩ rfl)
        · refine wCF hp98 tm (s1 rfl) ?_
          refine wExit ?_
          refine pThenX ?_
          refine pThenX ?_
          refine pBlkX ?_
          exact pJ1 _ (so h) ⟨rfl, trivial⟩ rfl
      · rintro x97 rfl
        replace h := hk1
        refine pSeq ?_
        refine wSeq ?_
        refine rg (cp (oMv tm) (s1 rfl) <| cp (oAs tm) (s1 rfl) <| .nil) (by kernel_rfl) ?_
        refine pSeq ?_
        refine wFrzR (n := 0) (id := 1005) [2] rfl rfl ⟨rfl, trivial⟩ ?_
        refine wRet ?_
        obtain rfl := so h
        exact pR1 (.inl rfl) rfl (.tmp rfl <| .nil)
    · refine wBF hp73 tm (s1 rfl) ?_
      refine wSkip ?_
      refine pSeq ?_
      refine wSeq ?_
      refine wSeq ?_
      refine rg (cp (oMv tm) (s1 rfl) <| cp (oLenL u59 tm) (s1 rfl) <| cp (oMv (cI (by decide))) trivial <| .nil) (by kernel_rfl) ?_
      refine pSeq ?_
      refine wNil (kL (kI .i64)) 59 1005 5 rfl rfl ?_
      obtain ⟨o1, h, hk1⟩ := bd h
      refine wK1 (fun x130 => x130 = o1) (fun x130 => [(5, .v 1005)]) (fun x130 => [.row 1005 59 (kL (kI .i64)) x130]) ?_ ?_
      · refine wBlock (wLoop ?_)
        refine lW (pc2 o1 (fun v128 v129 => [(0, .d ((kL (kI .i64)).sig a0)), (4, .d ((kI .i64).sig 3)), (5, .v 1005), (20, .d ((kL (kI .i64)).sig a0)), (21, .d ((kI .i64).sig (a0.length : Int))), (22, .d ((kI .i64).sig v129))]) (fun v128 v129 => [.row 1005 59 (kL (kI .i64)) v128]) (mutant_weaker.l3.partial_correctness a0) ?_ _ _ h) ⟨rfl, rfl, rfl, rfl, rfl, rfl, trivial⟩ rfl
        clear h
        intro f' ih v128 v129 h
        refine wSeq ?_
        refine rg (cp (oLt rfl tm tm) (s2 rfl rfl) <| .nil) (by kernel_rfl) ?_
        refine pSeq ?_
        refine wSeq ?_
        rcases ic h with ⟨hp131, h⟩ | ⟨hp131, h⟩
        · refine wCT hp131 tm (s1 rfl) ?_
          refine wSkip ?_
          refine pSeq ?_
          obtain ⟨o2, h, hk2⟩ := bd h
          refine wJ1 (fun x136 => x136 = o2) (fun x136 => [(0, .d ((kL (kI .i64)).sig a0)), (4, .d ((kI .i64).sig 3)), (5, .v 1005), (20, .d ((kL (kI .i64)).sig a0)), (21, .d ((kI .i64).sig (a0.length : Int))), (22, .d ((kI .i64).sig v129))]) (fun x136 => [.row 1005 59 (kL (kI .i64)) x136]) ?_ ?_
          · refine wBlock ?_
            refine wSeq ?_
            obtain ⟨y137, hy137, h⟩ := bd h
            refine rg (cp (oMv tm) (s1 rfl) <| cp (oIdx u59 z3 hy137 tm tm) (s2 rfl rfl) <| cp (oLd t3 tm) (s1 rfl) <| cp (oAs tm) (s1 rfl) <| cp (oAs tm) (s1 rfl) <| .nil) (by kernel_rfl) ?_
            refine pSeq ?_
            refine wSeq ?_
            refine rg (cp (oMv tm) (s1 rfl) <| cp (oMv tm) (s1 rfl) <| cp (oEq rfl tm tm) (s2 rfl rfl) <| .nil) (by kernel_rfl) ?_
            refine pSeq ?_
            rcases ic h with ⟨hp138, h⟩ | ⟨hp138, h⟩
            · refine wCT hp138 tm (s1 rfl) ?_
              obtain ⟨y139, hy139, h⟩ := bd h
              obtain ⟨hc140, h⟩ := ib h
              refine rg (cp (oMv tm) (s1 rfl) <| cp (oMv tm) (s1 rfl) <| cp (oMv tm) (s1 rfl) <| cp (oCall rfl (mutant_less.ok hy139) b106 (opds_cons tm (opds_cons tm opds_nil))) (s2 rfl rfl) <| cw (oApp (n := 0) (id' := 34) el69 (by decide) rfl (by decide) hc140 tm tm) (s2 rfl rfl) <| cp (oAs tm) (s1 rfl) <| .nil) (by kernel_rfl) ?_
              refine pBlkN ?_
              refine pSub (Γ' := [(0, .d ((kL (kI .i64)).sig a0)), (4, .d ((kI .i64).sig 3)), (5, .v 34), (20, .d ((kL (kI .i64)).sig a0)), (21, .d ((kI .i64).sig (a0.length : Int))), (22, .d ((kI .i64).sig v129))]) ⟨rfl, rfl, rfl, rfl, rfl, rfl, trivial⟩ ?_
              refine pRen 34 1005 rfl ?_
              exact pJ1 _ (so h) ⟨rfl, rfl, rfl, rfl, rfl, rfl, trivial⟩ rfl
            · refine wCF hp138 tm (s1 rfl) ?_
              refine wSkip ?_
              refine pBlkN ?_
              exact pJ1 _ (so h) ⟨rfl, rfl, rfl, rfl, rfl, rfl, trivial⟩ rfl
          · rintro x136 rfl
            replace h := hk2
            refine rg (cp (oAdd tm (cI (by decide))) (s1 rfl) <| cp (oMv tm) (s1 rfl) <| .nil) (by kernel_rfl) ?_
            exact pLoop (lW (ih _ _ h) ⟨rfl, rfl, rfl, rfl, rfl, rfl, trivial⟩ rfl)
        · refine wCF hp131 tm (s1 rfl) ?_
          refine wExit ?_
          refine pThenX ?_
          refine pThenX ?_
          refine pBlkX ?_
          exact pJ1 _ (so h) ⟨rfl, trivial⟩ rfl
      · rintro x130 rfl
        replace h := hk1
        refine pSeq ?_
        refine wSeq ?_
        refine rg (cp (oMv tm) (s1 rfl) <| cp (oAs tm) (s1 rfl) <| .nil) (by kernel_rfl) ?_
        refine pSeq ?_
        refine wFrzR (n := 0) (id := 1005) [2] rfl rfl ⟨rfl, trivial⟩ ?_
        refine wRet ?_
        obtain rfl := so h
        exact pR1 (.inl rfl) rfl (.tmp rfl <| .nil)

theorem mutant_spots_1.ok {a1 : api_Table} : FnY Tryd.prog 70 (fun z => (kR f_mutant_spot).sig z) (fun z => (kL (kI .i64)).sig z) [sP (kR f_api_Table) a1] (fun {σ} a_y a_s => mutant_spots_1.f a_y a_s a1) := by
  refine fnIntroY 7777 Tryd.func70 rfl (by kernel_rfl) (fun σ A a_y a_s a_r h bs H0 w0 => ?_)
  replace h : mutant_spots_1.f a_y a_s a1 = some a_r := h
  unfold mutant_spots_1.f at h
  refine wSeq ?_
  refine rg (cp (oFld (fs := f_api_Table) (k := 0) rfl o24_0 tm) (s1 rfl) <| cp (oLd t22 tm) (s1 rfl) <| cp (oLenL u22 tm) (s1 rfl) <| cp (oMv (cI (by decide))) trivial <| .nil) (by kernel_rfl) ?_
  refine pSeq ?_
  obtain ⟨o1, h, hk1⟩ := bd h
  refine wK1 (fun x123 => .inr x123 = o1) (fun x123 => []) (fun x123 => [.abs 7777 A x123]) ?_ ?_
  · refine wBlock (wLoop ?_)
    refine lW (pc2 o1 (fun v121 v122 => [(0, .d (sYield Tryd.prog A a_y (fun z => (kR f_mutant_spot).sig z) (fun z => (kL (kI .i64)).sig z))), (10, .d ((kL (kR f_api_Row)).sig a1.Rows)), (11, .d ((kI .i64).sig (a1.Rows.length : Int))), (12, .d ((kI .i64).sig v122))]) (fun v121 v122 => [.abs 7777 A v121]) (mutant_spots_1.l8.partial_correctness a_y a1) ?_ _ _ h) ⟨rfl, rfl, rfl, rfl, trivial⟩ rfl
    clear h
    intro f' ih v121 v122 h
    refine wSeq ?_
    refine rg (cp (oLt rfl tm tm) (s2 rfl rfl) <| .nil) (by kernel_rfl) ?_
    refine pSeq ?_
    refine wSeq ?_
    rcases ic h with ⟨hp124, h⟩ | ⟨hp124, h⟩
    · refine wCT hp124 tm (s1 rfl) ?_
      refine wSkip ?_
      refine pSeq ?_
      refine wSeq ?_
      refine wBlock ?_
      refine wSeq ?_
      obtain ⟨y125, hy125, h⟩ := bd h
      refine rg (cp (oMv tm) (s1 rfl) <| cp (oIdx u22 z61 hy125 tm tm) (s2 rfl rfl) <| cp (oLd t61 tm) (s1 rfl) <| cw (oAlloc (id := 4) (ls := [.d (kL (kI .i64)) [], .d (kL (kI .i64)) [], .d (kL (kI .i64)) []]) ze61 (fun g => ⟨[(.slice none 0 0)], _, rfl, zL g.H, ⟨[(.slice none 0 0)], _, rfl, zL g.H, ⟨[(.slice none 0 0)], _, rfl, zL g.H, rfl⟩⟩⟩)) trivial <| cp (oAs tm) (s1 rfl) <| cwn (oStA (n := 0) (fs := f_api_Row) rfl rfl z61 tm tm) (s2 rfl rfl) <| .nil) (by kernel_rfl) ?_
      refine pSeq ?_
      refine wSeq ?_
      obtain ⟨y126, hy126, h⟩ := bd h
      refine rg (cr (oLdA (n := 0) (fs := f_api_Row) (u := ⟨y125.May, y125.Res, y125.Pc⟩) rfl ⟨rfl, rfl, rfl, trivial⟩ t61 tm) (s1 rfl) <| cp (oCall rfl (mutant_rules.ok hy126) b71 (opds_cons tm opds_nil)) (s1 rfl) <| cp (oLenL u69 tm) (s1 rfl) <| cp (oMv (cI (by decide))) trivial <| .nil) (by kernel_rfl) ?_
      refine pSeq ?_
      obtain ⟨o2, h, hk2⟩ := bd h
      refine wK1 (fun x165 => .inr x165 = o2) (fun x165 => [(0, .d (sYield Tryd.prog A a_y (fun z => (kR f_mutant_spot).sig z) (fun z => (kL (kI .i64)).sig z))), (10, .d ((kL (kR f_api_Row)).sig a1.Rows)), (11, .d ((kI .i64).sig (a1.Rows.length : Int))), (12, .d ((kI .i64).sig v122))]) (fun x165 => [.box 4 61 [.d (kL (kI .i64)) y125.May, .d (kL (kI .i64)) y125.Res, .d (kL (kI .i64)) y125.Pc], .abs 7777 A x165]) ?_ ?_
      · refine wBlock (wLoop ?_)
        refine lW (pc2 o2 (fun v163 v164 => [(0, .d (sYield Tryd.prog A a_y (fun z => (kR f_mutant_spot).sig z) (fun z => (kL (kI .i64)).sig z))), (3, .d ((kI .i64).sig v122)), (10, .d ((kL (kR f_api_Row)).sig a1.Rows)), (11, .d ((kI .i64).sig (a1.Rows.length : Int))), (12, .d ((kI .i64).sig v122)), (18, .d ((kL (kL (kI .i64))).sig y126)), (19, .d ((kI .i64).sig (y126.length : Int))), (20, .d ((kI .i64).sig v164))]) (fun v163 v164 => [.box 4 61 [.d (kL (kI .i64)) y125.May, .d (kL (kI .i64)) y125.Res, .d (kL (kI .i64)) y125.Pc], .abs 7777 A v163]) (mutant_spots_1.l11.partial_correctness a_y v122 y126) ?_ _ _ h) ⟨rfl, rfl, rfl, rfl, rfl, rfl, rfl, rfl, trivial⟩ rfl
        clear h
        intro f' ih v163 v164 h
        refine wSeq ?_
        refine rg (cp (oLt rfl tm tm) (s2 rfl rfl) <| .nil) (by kernel_rfl) ?_
        refine pSeq ?_
        refine wSeq ?_
        rcases ic h with ⟨hp166, h⟩ | ⟨hp166, h⟩
        · refine wCT hp166 tm (s1 rfl) ?_
          refine wSkip ?_
          refine pSeq ?_
          refine wSeq ?_
          refine wBlock ?_
          refine wSeq ?_
          obtain ⟨y167, hy167, h⟩ := bd h
          refine rg (cp (oMv tm) (s1 rfl) <| cp (oIdx u69 z59 hy167 tm tm) (s2 rfl rfl) <| cp (oLd t59 tm) (s1 rfl) <| cp (oAs tm) (s1 rfl) <| cp (oAs tm) (s1 rfl) <| .nil) (by kernel_rfl) ?_
          refine pSeq ?_
          refine wSeq ?_
          obtain ⟨y168, hy168, h⟩ := bd h
          refine rg (cp (oMv tm) (s1 rfl) <| cp (oCall rfl (mutant_weaker.ok hy168) b72 (opds_cons tm opds_nil)) (s1 rfl) <| cp (oLenL u69 tm) (s1 rfl) <| cp (oMv (cI (by decide))) trivial <| .nil) (by kernel_rfl) ?_
          refine pSeq ?_
          obtain ⟨o3, h, hk3⟩ := bd h
          refine wK1 (fun x179 => .inr x179 = o3) (fun x179 => [(0, .d (sYield Tryd.prog A a_y (fun z => (kR f_mutant_spot).sig z) (fun z => (kL (kI .i64)).sig z))), (3, .d ((kI .i64).sig v122)), (10, .d ((kL (kR f_api_Row)).sig a1.Rows)), (11, .d ((kI .i64).sig (a1.Rows.length : Int))), (12, .d ((kI .i64).sig v122)), (18, .d ((kL (kL (kI .i64))).sig y126)), (19, .d ((kI .i64).sig (y126.length : Int))), (20, .d ((kI .i64).sig v164))]) (fun x179 => [.box 4 61 [.d (kL (kI .i64)) y125.May, .d (kL (kI .i64)) y125.Res, .d (kL (kI .i64)) y125.Pc], .abs 7777 A x179]) ?_ ?_
          · refine wBlock (wLoop ?_)
            refine lW (pc2 o3 (fun v177 v178 => [(0, .d (sYield Tryd.prog A a_y (fun z => (kR f_mutant_spot).sig z) (fun z => (kL (kI .i64)).sig z))), (3, .d ((kI .i64).sig v122)), (5, .d ((kI .i64).sig v164)), (10, .d ((kL (kR f_api_Row)).sig a1.Rows)), (11, .d ((kI .i64).sig (a1.Rows.length : Int))), (12, .d ((kI .i64).sig v122)), (18, .d ((kL (kL (kI .i64))).sig y126)), (19, .d ((kI .i64).sig (y126.length : Int))), (20, .d ((kI .i64).sig v164)), (26, .d ((kL (kL (kI .i64))).sig y168)), (27, .d ((kI .i64).sig (y168.length : Int))), (28, .d ((kI .i64).sig v178))]) (fun v177 v178 => [.box 4 61 [.d (kL (kI .i64)) y125.May, .d (kL (kI .i64)) y125.Res, .d (kL (kI .i64)) y125.Pc], .abs 7777 A v177]) (mutant_spots_1.l12.partial_correctness a_y v122 v164 y168) ?_ _ _ h) ⟨rfl, rfl, rfl, rfl, rfl, rfl, rfl, rfl, rfl, rfl, rfl, rfl, trivial⟩ rfl
            clear h
            intro f' ih v177 v178 h
            refine wSeq ?_
            refine rg (cp (oLt rfl tm tm) (s2 rfl rfl) <| .nil) (by kernel_rfl) ?_
            refine pSeq ?_
            refine wSeq ?_
            rcases ic h with ⟨hp180, h⟩ | ⟨hp180, h⟩
            · refine wCT hp180 tm (s1 rfl) ?_
              refine wSkip ?_
              refine pSeq ?_
              refine wSeq ?_
              refine wBlock ?_
              refine wSeq ?_
              obtain ⟨y181, hy181, h⟩ := bd h
              refine rg (cp (oMv tm) (s1 rfl) <| cp (oIdx u69 z59 hy181 tm tm) (s2 rfl rfl) <| cp (oLd t59 tm) (s1 rfl) <| cp (oAs tm) (s1 rfl) <| cp (oAs tm) (s1 rfl) <| .nil) (by kernel_rfl) ?_
              refine pSeq ?_
              refine wSeq ?_
              obtain ⟨y182, hy182, h⟩ := bd h
              refine rg (cp (oMv tm) (s1 rfl) <| cp (oMv tm) (s1 rfl) <| cp (oMv tm) (s1 rfl) <| cp (oMv tm) (s1 rfl) <| cp (oBuild (fs := f_mutant_spot) (u := ⟨v122, v164, v178⟩) rfl ze66 pl66 po66 (.op (zc := [(.int .i64 0)]) tm rfl (.op (zc := [(.int .i64 0)]) tm rfl (.op (zc := [(.int .i64 0)]) tm rfl .nil)))) (s3 rfl rfl rfl) <| cp (oMv tm) (s1 rfl) <| cm (oYield (n := 1) (id' := 39) rfl hy182 tm tm tm) (s3 rfl rfl rfl) <| cp (oNot tm) (s1 rfl) <| .nil) (by kernel_rfl) ?_
              refine pSeq ?_
              rcases ic h with ⟨hp183, h⟩ | ⟨hp183, h⟩
              · refine wBT hp183 tm (s1 rfl) ?_
                refine wRet ?_
                refine pBlkR ?_
                refine pThenR ?_
                refine pThenR ?_
                refine pBlkR ?_
                refine pThenR ?_
                obtain rfl := so h
                replace h := hk3
                refine pBlkR ?_
                refine pThenR ?_
                refine pThenR ?_
                refine pBlkR ?_
                refine pThenR ?_
                obtain rfl := so h
                replace h := hk2
                refine pBlkR ?_
                refine pThenR ?_
                refine pThenR ?_
                refine pBlkR ?_
                refine pThenR ?_
                obtain rfl := so h
                replace h := hk1
                obtain rfl := so h
                exact pRY (n := 1) (.inl rfl) rfl rfl rfl
              · refine wBF hp183 tm (s1 rfl) ?_
                refine wSkip ?_
                refine pBlkN ?_
                refine pSeq ?_
                refine rg (cp (oAdd tm (cI (by decide))) (s1 rfl) <| cp (oMv tm) (s1 rfl) <| .nil) (by kernel_rfl) ?_
                refine pSub (Γ' := [(0, .d (sYield Tryd.prog A a_y (fun z => (kR f_mutant_spot).sig z) (fun z => (kL (kI .i64)).sig z))), (3, .d ((kI .i64).sig v122)), (5, .d ((kI .i64).sig v164)), (10, .d ((kL (kR f_api_Row)).sig a1.Rows)), (11, .d ((kI .i64).sig (a1.Rows.length : Int))), (12, .d ((kI .i64).sig v122)), (18, .d ((kL (kL (kI .i64))).sig y126)), (19, .d ((kI .i64).sig (y126.length : Int))), (20, .d ((kI .i64).sig v164)), (26, .d ((kL (kL (kI .i64))).sig y168)), (27, .d ((kI .i64).sig (y168.length : Int))), (28, .d ((kI .i64).sig (IntKind.i64.wrap (v178 + 1))))]) ⟨rfl, rfl, rfl, rfl, rfl, rfl, rfl, rfl, rfl, rfl, rfl, rfl, trivial⟩ ?_
                refine pRen 39 7777 rfl ?_
                exact pLoop (lW (ih _ _ h) ⟨rfl, rfl, rfl, rfl, rfl, rfl, rfl, rfl, rfl, rfl, rfl, rfl, trivial⟩ rfl)
            · refine wCF hp180 tm (s1 rfl) ?_
              refine wExit ?_
              refine pThenX ?_
              refine pThenX ?_
              refine pBlkX ?_
              exact pJ1 _ (so h) ⟨rfl, rfl, rfl, rfl, rfl, rfl, rfl, rfl, trivial⟩ rfl
          · rintro x179 rfl
            replace h := hk3
            refine pBlkN ?_
            refine pSeq ?_
            refine rg (cp (oAdd tm (cI (by decide))) (s1 rfl) <| cp (oMv tm) (s1 rfl) <| .nil) (by kernel_rfl) ?_
            exact pLoop (lW (ih _ _ h) ⟨rfl, rfl, rfl, rfl, rfl, rfl, rfl, rfl, trivial⟩ rfl)
        · refine wCF hp166 tm (s1 rfl) ?_
          refine wExit ?_
          refine pThenX ?_
          refine pThenX ?_
          refine pBlkX ?_
          exact pJ1 _ (so h) ⟨rfl, rfl, rfl, rfl, trivial⟩ rfl
      · rintro x165 rfl
        replace h := hk2
        refine pBlkN ?_
        refine pSeq ?_
        refine rg (cp (oAdd tm (cI (by decide))) (s1 rfl) <| cp (oMv tm) (s1 rfl) <| .nil) (by kernel_rfl) ?_
        refine pDrop (.cons _ (.cons_cons _ .slnil)) ?_
        exact pLoop (lW (ih _ _ h) ⟨rfl, rfl, rfl, rfl, trivial⟩ rfl)
    · refine wCF hp124 tm (s1 rfl) ?_
      refine wExit ?_
      refine pThenX ?_
      refine pThenX ?_
      refine pBlkX ?_
      exact pJ1 _ (so h) trivial rfl
  · rintro x123 rfl
    replace h := hk1
    obtain rfl := so h
    exact pRY (n := 0) (.inr rfl) rfl rfl rfl

theorem mutant_spots.ok {a0 : api_Table} {r : api_Table} (h : mutant_spots.f a0 = some r) : FnA Tryd.prog 31 [(kR f_api_Table).sig a0] ((sClo 70 [sP (kR f_api_Table) r])) := by
  refine fnIntro Tryd.func31 rfl (by kernel_rfl) fun H0 w0 => ?_
  unfold mutant_spots.f at h
  refine wSeq ?_
  refine rg (cp (oBox tm) (s1 rfl) <| cp (oAs cV) trivial <| .nil) (by kernel_rfl) ?_
  refine pSeq ?_
  refine wSeq ?_
  refine rg (cp (oMkC (caps := [sP (kR f_api_Table) a0]) rfl (opds_cons tm opds_nil)) (s1 rfl) <| cp (oAs tm) (s1 rfl) <| .nil) (by kernel_rfl) ?_
  refine pSeq ?_
  refine wRet ?_
  obtain rfl := so h
  exact pR1 (.inl rfl) rfl (.tmp rfl <| .nil)

theorem slices_Clone_api_Row_api_Row_nn.okN {a0 : List api_Row} {r : (List api_Row)} (h : slices_Clone_api_Row_api_Row_nn.f a0 = some r) : FnS Tryd.prog 32 [.d (sNN (kR f_api_Row) a0)] [] [] (.v 80000) [.row 80000 61 (kR f_api_Row) r] := by
  refine fnIntroS Tryd.func32 rfl (by kernel_rfl) fun X H0 w0 pv => ?_
  unfold slices_Clone_api_Row_api_Row_nn.f at h
  refine wSeq ?_
  refine rg (cp (oAs cV) trivial <| .nil) (by kernel_rfl) ?_
  refine pSeq ?_
  refine wSeq ?_
  refine wSeq ?_
  refine rg (cp (oMv tm) (s1 rfl) <| cp (oEqNF (d := (kR f_api_Row)) u22 tm cV) (s1 rfl) <| .nil) (by kernel_rfl) ?_
  refine pSeq ?_
  refine wCondF tm (s1 rfl) ?_
  refine wSkip ?_
  refine pSeq ?_
  refine wSeq ?_
  obtain ⟨hc1, h⟩ := ib h
  refine rg (cw (oLitR (id := 5) (d := (kR f_api_Row)) el22 (by decide) rfl rfl rfl e0) trivial <| cp (oMv tm) (s1 rfl) <| cw (oApp (n := 0) (id' := 7) el22 (by decide) rfl (by decide) hc1 tm tNN) (s2 rfl rfl) <| cp (oAs tm) (s1 rfl) <| .nil) (by kernel_rfl) ?_
  refine pSeq ?_
  refine wRet ?_
  obtain rfl := so h
  refine pSub (Γ' := [(2, .v 7)]) ⟨rfl, trivial⟩ ?_
  refine pRen 7 80000 rfl ?_
  exact pSv [0] rfl rfl (.inl rfl) rfl rfl
theorem slices_Clone_api_Row_api_Row_nn.ok {a0 : List api_Row} {r : (List api_Row)} (h : slices_Clone_api_Row_api_Row_nn.f a0 = some r) : FnS Tryd.prog 32 [.d ((kL (kR f_api_Row)).sig a0)] [] [] (.v 80000) [.row 80000 61 (kR f_api_Row) r] :=
  libClone clone32_nil (by rintro rfl; have h' := h; unfold slices_Clone_api_Row_api_Row_nn.f at h'; split at h' <;> cases h'; rfl) (slices_Clone_api_Row_api_Row_nn.okN h)

theorem mutant_All.ok {a0 : api_Table} {r : (List api_Table) × Int} (h : mutant_All.f a0 = some r) : FnA Tryd.prog 8 [(kR f_api_Table).sig a0] (tup [(kL (kR f_api_Table)).sig r.1, (kI .i64).sig r.2]) := by
  refine fnIntro Tryd.func8 rfl (by kernel_rfl) fun H0 w0 => ?_
  unfold mutant_All.f at h
  refine wSeq ?_
  refine rg (cp (oBox tm) (s1 rfl) <| cp (oAs cV) trivial <| cp (oAs (cI (by decide))) trivial <| .nil) (by kernel_rfl) ?_
  refine pSeq ?_
  refine wSeq ?_
  refine wSeq ?_
  obtain ⟨y1, hy1, h⟩ := bd h
  refine rg (cp (oLd t24 tm) (s1 rfl) <| cp (oCall rfl (table_Check.ok hy1) b10 (opds_cons tm opds_nil)) (s1 rfl) <| cp (oMv tm) (s1 rfl) <| cp (oExt (k := 0) rfl tm) (s1 rfl) <| cp (oExt (k := 1) rfl tm) (s1 rfl) <| cp (oAs tm) (s1 rfl) <| cp (oAs tm) (s1 rfl) <| .nil) (by kernel_rfl) ?_
  refine pSeq ?_
  refine wSeq ?_
  refine rg (cp (oMv tm) (s1 rfl) <| cp (oNe rfl tm (cI (by decide))) (s1 rfl) <| .nil) (by kernel_rfl) ?_
  refine pSeq ?_
  rcases ic h with ⟨hp2, h⟩ | ⟨hp2, h⟩
  · refine wNT hp2 tm (s1 rfl) ?_
    refine wSkip ?_
    refine pSeq ?_
    refine wSeq ?_
    refine rg (cw (oAlloc (id := 6) (ls := [.d (kN api_Table) []]) ze26 (fun g => ⟨[(.slice none 0 0)], _, rfl, zN g.H, rfl⟩)) trivial <| .nil) (by kernel_rfl) ?_
    refine pSeq ?_
    refine wSeq ?_
    refine wSeq ?_
    obtain ⟨y3, hy3, h⟩ := bd h
    refine rg (cp (oLd t24 tm) (s1 rfl) <| cp (oCall rfl (mutant_spots.ok hy3) b31 (opds_cons tm opds_nil)) (s1 rfl) <| .nil) (by kernel_rfl) ?_
    refine pSeq ?_
    refine wBlock ?_
    refine wNilL (kR f_api_Table) 24 5300 (n := 0) (k := 0) rfl rfl rfl ?_
    obtain ⟨y58, hy58, h⟩ := bd h
    refine wRange (Γ' := [(1, .d (sP (kR f_api_Table) a0)), (6, .p 6 0)]) (Γ2 := fun v39 v40 => [(1, .d (sP (kR f_api_Table) a0)), (6, .p 6 0), (7, .p 7 0), (8, .d ((kL (kI .i64)).sig v40))]) (fun (v38 : (List api_Table)) => [.row 5300 24 (kR f_api_Table) v38, .box 6 26 [.v 5300]]) (fun (v38 : (List api_Table)) v39 v40 => [.box 7 66 [.d (kI .i64) v39.op_, .d (kI .i64) v39.which_, .d (kI .i64) v39.n_], .row 5300 24 (kR f_api_Table) v38, .box 6 26 [.v 5300]]) [] [6] (mutant_All.y0 a0) ([] : List api_Table) rfl (mutant_spots_1.ok (a1 := y3)) b70 hy58 rfl ⟨rfl, rfl, trivial⟩ rfl rfl rfl ?_ ?_ ?_
    · intro X H0 w0 l pv v38 v39 v40
      refine wSeq ?_
      refine rg (cw (oAlloc (id := 7) (ls := [.d (kI .i64) 0, .d (kI .i64) 0, .d (kI .i64) 0]) ze66 (fun g => ⟨[(.int .i64 0)], _, rfl, zI_i64 g.H, ⟨[(.int .i64 0)], _, rfl, zI_i64 g.H, ⟨[(.int .i64 0)], _, rfl, zI_i64 g.H, rfl⟩⟩⟩)) trivial <| cwn (oStA (n := 0) (fs := f_mutant_spot) rfl rfl z66 tm tm) (s2 rfl rfl) <| .nil) (by kernel_rfl) ?_
      refine pSeq ?_
      refine rg (cp (oAs tm) (s1 rfl) <| .nil) (by kernel_rfl) ?_
      exact qA ⟨rfl, rfl, rfl, rfl, trivial⟩
    · intro X H0 w0 l pv v38 v39 v40 o h
      unfold mutant_All.y0 at h
      obtain ⟨o2, h, hk2⟩ := bd h
      refine wK1 (fun x49 => x49 = o2) (fun x49 => []) (fun x49 => [.box 7 66 [.d (kI .i64) v39.op_, .d (kI .i64) v39.which_, .d (kI .i64) v39.n_], .row 5300 24 (kR f_api_Table) x49, .box 6 26 [.v 5300]]) ?_ ?_
      · refine wBlock ?_
        refine wSeq ?_
        obtain ⟨y50, hy50, h⟩ := bd h
        refine rg (cp (oFld (fs := f_api_Table) (k := 0) rfl o24_0 tm) (s1 rfl) <| cp (oLd t22 tm) (s1 rfl) <| cm (oCallS (rest := [.box 7 66 [.d (kI .i64) v39.op_, .d (kI .i64) v39.which_, .d (kI .i64) v39.n_], .row 5300 24 (kR f_api_Table) v38, .box 6 26 [.v 5300]]) (R' := [.row 380080 61 (kR f_api_Row) y50, .box 7 66 [.d (kI .i64) v39.op_, .d (kI .i64) v39.which_, .d (kI .i64) v39.n_], .row 5300 24 (kR f_api_Table) v38, .box 6 26 [.v 5300]]) (out' := .v 380080) [] [(80000, 380080)] [] [0, 1, 2] [0, 1, 2, 3] rfl (slices_Clone_api_Row_api_Row_nn.ok hy50) b32 (oE1 tm oE0) rfl rfl rfl rfl rfl rfl rfl rfl) (s1 rfl) <| cp (oAs tm) (s1 rfl) <| .nil) (by kernel_rfl) ?_
        refine pSeq ?_
        refine wSeq ?_
        refine wSeq ?_
        obtain ⟨y51, hy51, h⟩ := bd h
        refine rg (cp (oMv tm) (s1 rfl) <| cp (oFldP o66_0 tm) (s1 rfl) <| cr (oLdB (n := 1) (k := 0) rfl rfl rfl t3 tm) (s1 rfl) <| cr (oIdxR (n := 0) u22 z61 rfl hy51 tm tm) (s2 rfl rfl) <| cp (oAs tm) (s1 rfl) <| .nil) (by kernel_rfl) ?_
        refine pSeq ?_
        refine wSeq ?_
        refine rg (cp (oFldP o66_1 tm) (s1 rfl) <| cr (oLdB (n := 1) (k := 1) rfl rfl rfl t3 tm) (s1 rfl) <| .nil) (by kernel_rfl) ?_
        refine pSeq ?_
        refine wWeak (Γ' := [(6, .p 6 0), (8, .d ((kL (kI .i64)).sig v40)), (9, .v 380080), (10, .e 380080 (Int.toNat v39.op_ * ((kR f_api_Row)).sz)), (31, .d ((kI .i64).sig v39.which_))]) ⟨rfl, rfl, rfl, rfl, rfl, trivial⟩ ?_
        refine wRen 380080 1009 rfl ?_
        obtain ⟨o3, h, hk3⟩ := bd h
        refine wK1 (fun x54 => x54 = o3) (fun x54 => [(6, .p 6 0), (9, .v 1009)]) (fun x54 => [.row 1009 61 (kR f_api_Row) x54, .box 7 66 [.d (kI .i64) v39.op_, .d (kI .i64) v39.which_, .d (kI .i64) v39.n_], .row 5300 24 (kR f_api_Table) v38, .box 6 26 [.v 5300]]) ?_ ?_
        · refine wBlock ?_
          refine wSeq ?_
          refine rg (cp (oEq rfl tm (cI (by decide))) (s1 rfl) <| cp (oAs tm) (s1 rfl) <| .nil) (by kernel_rfl) ?_
          refine pSeq ?_
          rcases ic h with ⟨hp55, h⟩ | ⟨hp55, h⟩
          · refine wCT hp55 tm (s1 rfl) ?_
            refine rg (cp (oMv tm) (s1 rfl) <| cp (oMv tm) (s1 rfl) <| cp (oNilE tm) (s1 rfl) <| cp (oFldE o61_0 tm) (s1 rfl) <| cwn (oStEF (n := 0) (k := 0) (fs := f_api_Row) (u' := (⟨v40, y51.Res, y51.Pc⟩ : api_Row)) rfl hy51 rfl ⟨rfl, rfl, trivial⟩ rfl z59 tm tm) (s2 rfl rfl) <| .nil) (by kernel_rfl) ?_
            refine pBlkN ?_
            exact pJ1 _ (so h) ⟨rfl, rfl, trivial⟩ rfl
          · refine wCF hp55 tm (s1 rfl) ?_
            refine wSeq ?_
            refine rg (cp (oEq rfl tm (cI (by decide))) (s1 rfl) <| cp (oAs tm) (s1 rfl) <| .nil) (by kernel_rfl) ?_
            refine pSeq ?_
            rcases ic h with ⟨hp56, h⟩ | ⟨hp56, h⟩
            · refine wCT hp56 tm (s1 rfl) ?_
              refine rg (cp (oMv tm) (s1 rfl) <| cp (oMv tm) (s1 rfl) <| cp (oNilE tm) (s1 rfl) <| cp (oFldE o61_1 tm) (s1 rfl) <| cwn (oStEF (n := 0) (k := 1) (fs := f_api_Row) (u' := (⟨y51.May, v40, y51.Pc⟩ : api_Row)) rfl hy51 rfl ⟨rfl, rfl, trivial⟩ rfl z59 tm tm) (s2 rfl rfl) <| .nil) (by kernel_rfl) ?_
              refine pBlkN ?_
              exact pJ1 _ (so h) ⟨rfl, rfl, trivial⟩ rfl
            · refine wCF hp56 tm (s1 rfl) ?_
              refine rg (cp (oMv tm) (s1 rfl) <| cp (oMv tm) (s1 rfl) <| cp (oNilE tm) (s1 rfl) <| cp (oFldE o61_2 tm) (s1 rfl) <| cwn (oStEF (n := 0) (k := 2) (fs := f_api_Row) (u' := (⟨y51.May, y51.Res, v40⟩ : api_Row)) rfl hy51 rfl ⟨rfl, rfl, trivial⟩ rfl z59 tm tm) (s2 rfl rfl) <| .nil) (by kernel_rfl) ?_
              refine pBlkN ?_
              exact pJ1 _ (so h) ⟨rfl, rfl, trivial⟩ rfl
        · rintro x54 rfl
          replace h := hk3
          refine pSeq ?_
          refine wFrzR (n := 0) (id := 1009) [9] rfl rfl ⟨rfl, trivial⟩ ?_
          obtain ⟨hc57, h⟩ := ib h
          refine rg (cr (oLdN (n := 2) (k := 0) rfl rfl rfl t26 tm) (s1 rfl) <| cp (oMv tm) (s1 rfl) <| cp (oBuild (fs := f_api_Table) (u := ⟨x54⟩) rfl ze24 pl24 po24 (.op (zc := [(.slice none 0 0)]) tm rfl .nil)) (s1 rfl) <| cp (oLit (d := (kR f_api_Table)) el26 (by decide) rfl rfl rfl (e1 tm e0)) (s1 rfl) <| cw (oApp (n := 1) (id' := 52) el26 (by decide) rfl (by decide) hc57 tm tm) (s2 rfl rfl) <| cwn (oStN (n := 2) (m := 1) (k := 0) rfl rfl rfl rfl z26 rfl tm tm) (s2 rfl rfl) <| .nil) (by kernel_rfl) ?_
          refine pBlkN ?_
          refine pSub (Γ' := []) trivial ?_
          refine pRen 52 5300 rfl ?_
          exact pJ1 _ (so h) trivial rfl
      · rintro x49 rfl
        replace h := hk2
        refine pDrop (.cons _ (.cons_cons _ (.cons_cons _ .slnil))) ?_
        obtain rfl := so h
        exact qN
    · rcases ic h with ⟨hj58, h⟩ | ⟨hj58, h⟩
      · refine jp0 hj58 ?_
        refine pBlkN ?_
        refine pSeq ?_
        refine wSeq ?_
        refine rg (cr (oLdN (n := 1) (k := 0) rfl rfl rfl t26 tm) (s1 rfl) <| cp (oAs tm) (s1 rfl) <| cp (oAs (cI (by decide))) trivial <| .nil) (by kernel_rfl) ?_
        refine pSeq ?_
        refine wFrzR (n := 0) (id := 5300) [2] rfl rfl ⟨rfl, trivial⟩ ?_
        refine wRet ?_
        obtain rfl := so h
        exact pRn (.inl rfl) rfl rfl (.tmp rfl <| .tmp rfl <| .nil)
      · cases h
  · refine wNF hp2 tm (s1 rfl) ?_
    refine wSeq ?_
    refine rg (cp (oMv tm) (s1 rfl) <| cp (oAs cV) trivial <| cp (oAs tm) (s1 rfl) <| .nil) (by kernel_rfl) ?_
    refine pSeq ?_
    refine wNil (kR f_api_Table) 24 9002 2 rfl rfl ?_
    refine wFrzR (n := 0) (id := 9002) [2] rfl rfl ⟨rfl, trivial⟩ ?_
    refine wRet ?_
    refine pThenR ?_
    obtain rfl := so h
    exact pRn (.inl rfl) rfl rfl (.tmp rfl <| .tmp rfl <| .nil)

theorem mutant_Weaker.ok {a0 : List Int} {r : (List (List Int)) × Int} (h : mutant_Weaker.f a0 = some r) : FnA Tryd.prog 33 [(kL (kI .i64)).sig a0] (tup [(kL (kL (kI .i64))).sig r.1, (kI .i64).sig r.2]) := by
  refine fnIntro Tryd.func33 rfl (by kernel_rfl) fun H0 w0 => ?_
  unfold mutant_Weaker.f at h
  refine wSeq ?_
  refine rg (cp (oAs cV) trivial <| cp (oAs (cI (by decide))) trivial <| .nil) (by kernel_rfl) ?_
  refine pSeq ?_
  refine wSeq ?_
  obtain ⟨o1, h, hk1⟩ := bd h
  refine wJ1 (fun x4 => x4 = o1) (fun x4 => [(0, .d ((kL (kI .i64)).sig a0)), (11, .d (kB.sig x4))]) (fun x4 => []) ?_ ?_
  · obtain ⟨y5, hy5, h⟩ := bd h
    rcases ic h with ⟨hp6, h⟩ | ⟨hp6, h⟩
    · obtain ⟨y7, hy7, h⟩ := bd h
      refine rg (cp (oMv tm) (s1 rfl) <| cp (oCall rfl (rule_Right.ok hy5) b73 (opds_cons tm (opds_cons cB opds_nil))) (s1 rfl) <| cp (oNot tm) (s1 rfl) <| cp (oMv tm) (s1 rfl) <| cgB hp6 rfl rfl (oMv tm) (s1 rfl) <| cgB hp6 rfl rfl (oCall rfl (rule_Right.ok hy7) b73 (opds_cons tm (opds_cons cB opds_nil))) (s1 rfl) <| cgB hp6 rfl rfl (oNot tm) (s1 rfl) <| cp (oPkT hp6 tm tm) (s2 rfl rfl) <| .nil) (by kernel_rfl) ?_
      exact pJ1 _ (so h) ⟨rfl, rfl, trivial⟩ rfl
    · refine rg (cp (oMv tm) (s1 rfl) <| cp (oCall rfl (rule_Right.ok hy5) b73 (opds_cons tm (opds_cons cB opds_nil))) (s1 rfl) <| cp (oNot tm) (s1 rfl) <| cp (oMv tm) (s1 rfl) <| csB (nb hp6) rfl rfl <| csB (nb hp6) rfl rfl <| csB (nb hp6) rfl rfl <| cp (oPkF (nb hp6) tm cB) (s1 rfl) <| .nil) (by kernel_rfl) ?_
      exact pJ1 _ (so h) ⟨rfl, rfl, trivial⟩ rfl
  · rintro x4 rfl
    replace h := hk1
    rcases ic h with ⟨hp8, h⟩ | ⟨hp8, h⟩
    · refine wBT hp8 tm (s1 rfl) ?_
      refine wSeq ?_
      refine rg (cp (oAs cV) trivial <| cp (oAs (cI (by decide))) trivial <| .nil) (by kernel_rfl) ?_
      refine pSeq ?_
      refine wNil (kL (kI .i64)) 59 9002 2 rfl rfl ?_
      refine wFrzR (n := 0) (id := 9002) [2] rfl rfl ⟨rfl, trivial⟩ ?_
      refine wRet ?_
      refine pThenR ?_
      obtain rfl := so h
      exact pRn (.inl rfl) rfl rfl (.tmp rfl <| .tmp rfl <| .nil)
    · refine wBF hp8 tm (s1 rfl) ?_
      refine wSkip ?_
      refine pSeq ?_
      refine wSeq ?_
      obtain ⟨y9, hy9, h⟩ := bd h
      refine rg (cp (oMv tm) (s1 rfl) <| cp (oCall rfl (mutant_weaker.ok hy9) b72 (opds_cons tm opds_nil)) (s1 rfl) <| cp (oAs tm) (s1 rfl) <| cp (oAs (cI (by decide))) trivial <| .nil) (by kernel_rfl) ?_
      refine pSeq ?_
      refine wRet ?_
      obtain rfl := so h
      exact pRn (.inl rfl) rfl rfl (.tmp rfl <| .tmp rfl <| .nil)

theorem reticentref04_Same.ok {a0 : List Int} {a1 : List Int} {r : Bool} (h : reticentref04_Same.f a0 a1 = some r) : FnA Tryd.prog 34 [(kL (kI .i64)).sig a0, (kL (kI .i64)).sig a1] (kB.sig r) := by
  refine fnIntro Tryd.func34 rfl (by kernel_rfl) fun H0 w0 => ?_
  unfold reticentref04_Same.f at h
  refine wSeq ?_
  refine rg (cp (oAs cB) trivial <| .nil) (by kernel_rfl) ?_
  refine pSeq ?_
  refine wSeq ?_
  refine wSeq ?_
  refine rg (cp (oMv tm) (s1 rfl) <| cp (oLenL u59 tm) (s1 rfl) <| cp (oMv tm) (s1 rfl) <| cp (oLenL u59 tm) (s1 rfl) <| cp (oNe rfl tm tm) (s2 rfl rfl) <| .nil) (by kernel_rfl) ?_
  refine pSeq ?_
  rcases ic h with ⟨hp1, h⟩ | ⟨hp1, h⟩
  · refine wNT hp1 tm (s1 rfl) ?_
    refine wSkip ?_
    refine pSeq ?_
    refine wSeq ?_
    refine wSeq ?_
    refine rg (cp (oMv tm) (s1 rfl) <| cp (oLenL u59 tm) (s1 rfl) <| cp (oMv (cI (by decide))) trivial <| .nil) (by kernel_rfl) ?_
    refine pSeq ?_
    obtain ⟨o1, h, hk1⟩ := bd h
    refine wK0 (.inr () = o1) ([]) ([]) ?_ ?_
    · refine wBlock (wLoop ?_)
      refine lW (pc1 o1 (fun v10 => [(0, .d ((kL (kI .i64)).sig a0)), (1, .d ((kL (kI .i64)).sig a1)), (12, .d ((kI .i64).sig (a0.length : Int))), (13, .d ((kI .i64).sig v10))]) (fun v10 => []) (reticentref04_Same.l0.partial_correctness a0 a1) ?_ _ h) ⟨rfl, rfl, rfl, rfl, trivial⟩ rfl
      clear h
      intro f' ih v10 h
      refine wSeq ?_
      refine rg (cp (oLt rfl tm tm) (s2 rfl rfl) <| .nil) (by kernel_rfl) ?_
      refine pSeq ?_
      refine wSeq ?_
      rcases ic h with ⟨hp11, h⟩ | ⟨hp11, h⟩
      · refine wCT hp11 tm (s1 rfl) ?_
        refine wSkip ?_
        refine pSeq ?_
        refine wSeq ?_
        refine wBlock ?_
        refine wSeq ?_
        refine rg (cp (oMv tm) (s1 rfl) <| cp (oAs tm) (s1 rfl) <| .nil) (by kernel_rfl) ?_
        refine pSeq ?_
        refine wSeq ?_
        obtain ⟨y12, hy12, h⟩ := bd h
        obtain ⟨y13, hy13, h⟩ := bd h
        refine rgD hm (cp (oMv tm) (s1 rfl) <| cp (oMv tm) (s1 rfl) <| cp (oIdx u59 z3 hy12 tm tm) (s2 rfl rfl) <| cp (oLd t3 tm) (s1 rfl) <| cp (oMv tm) (s1 rfl) <| cp (oMv tm) (s1 rfl) <| cp (oIdx u59 z3 hy13 tm tm) (s2 rfl rfl) <| cp (oLd t3 tm) (s1 rfl) <| cp (oNe rfl tm tm) (s2 rfl rfl) <| .nil) (by kernel_rfl) (by kernel_rfl) ?_
        refine pSeq ?_
        rcases ic h with ⟨hp14, h⟩ | ⟨hp14, h⟩
        · refine wNT hp14 tm (s1 rfl) ?_
          refine wSkip ?_
          refine pBlkN ?_
          refine pSeq ?_
          refine rg (cp (oAdd tm (cI (by decide))) (s1 rfl) <| cp (oMv tm) (s1 rfl) <| .nil) (by kernel_rfl) ?_
          exact pLoop (lW (ih _ h) ⟨rfl, rfl, rfl, rfl, trivial⟩ rfl)
        · refine wNF hp14 tm (s1 rfl) ?_
          refine wSeq ?_
          refine rg (cp (oAs cB) trivial <| .nil) (by kernel_rfl) ?_
          refine pSeq ?_
          refine wRet ?_
          refine pBlkR ?_
          refine pThenR ?_
          refine pThenR ?_
          refine pBlkR ?_
          refine pThenR ?_
          obtain rfl := so h
          replace h := hk1
          refine pThenR ?_
          obtain rfl := so h
          exact pR1 (.inl rfl) rfl (.tmp rfl <| .nil)
      · refine wCF hp11 tm (s1 rfl) ?_
        refine wExit ?_
        refine pThenX ?_
        refine pThenX ?_
        refine pBlkX ?_
        exact pJ0 (so h) trivial rfl
    · rintro rfl
      replace h := hk1
      refine pSeq ?_
      refine wSeq ?_
      refine rg (cp (oAs cB) trivial <| .nil) (by kernel_rfl) ?_
      refine pSeq ?_
      refine wRet ?_
      obtain rfl := so h
      exact pR1 (.inl rfl) rfl (.tmp rfl <| .nil)
  · refine wNF hp1 tm (s1 rfl) ?_
    refine wSeq ?_
    refine rg (cp (oAs cB) trivial <| .nil) (by kernel_rfl) ?_
    refine pSeq ?_
    refine wRet ?_
    refine pThenR ?_
    obtain rfl := so h
    exact pR1 (.inl rfl) rfl (.tmp rfl <| .nil)

theorem reticentlaw24_alive.ok {r : Bool} (h : reticentlaw24_alive.f = some r) : FnA Tryd.prog 9 [] (kB.sig r) := by
  refine fnIntro Tryd.func9 rfl (by kernel_rfl) fun H0 w0 => ?_
  unfold reticentlaw24_alive.f at h
  refine wSeq ?_
  refine rg (cp (oAs cB) trivial <| .nil) (by kernel_rfl) ?_
  refine pSeq ?_
  refine wSeq ?_
  obtain ⟨y1, hy1, h⟩ := bd h
  refine rg (cp (oLit (d := (kI .i64)) el59 (by decide) rfl rfl rfl (e1 (cI (by decide)) (e1 (cI (by decide)) (e1 (cI (by decide)) e0)))) trivial <| cp (oCall rfl (mutant_Weaker.ok hy1) b33 (opds_cons tm opds_nil)) (s1 rfl) <| cp (oMv tm) (s1 rfl) <| cp (oExt (k := 0) rfl tm) (s1 rfl) <| cp (oExt (k := 1) rfl tm) (s1 rfl) <| cp (oAs tm) (s1 rfl) <| cp (oAs tm) (s1 rfl) <| .nil) (by kernel_rfl) ?_
  refine pSeq ?_
  obtain ⟨o1, h, hk1⟩ := bd h
  refine wJ1 (fun x12 => x12 = o1) (fun x12 => [(0, .d (kB.sig x12))]) (fun x12 => []) ?_ ?_
  · rcases ic h with ⟨hp13, h⟩ | ⟨hp13, h⟩
    · rcases ic h with ⟨hp14, h⟩ | ⟨hp14, h⟩
      · obtain ⟨y15, hy15, h⟩ := bd h
        obtain ⟨y16, hy16, h⟩ := bd h
        rcases ic h with ⟨hp17, h⟩ | ⟨hp17, h⟩
        · obtain ⟨y18, hy18, h⟩ := bd h
          obtain ⟨y19, hy19, h⟩ := bd h
          rcases ic h with ⟨hp20, h⟩ | ⟨hp20, h⟩
          · obtain ⟨y21, hy21, h⟩ := bd h
            obtain ⟨y22, hy22, h⟩ := bd h
            refine rg (cp (oMv tm) (s1 rfl) <| cp (oEq rfl tm (cI (by decide))) (s1 rfl) <| cp (oMv tm) (s1 rfl) <| cgB (decide_eq_true hp13) rfl rfl (oMv tm) (s1 rfl) <| cgB (decide_eq_true hp13) rfl rfl (oLenL u69 tm) (s1 rfl) <| cgB (decide_eq_true hp13) rfl rfl (oEq rfl tm (cI (by decide))) (s1 rfl) <| cp (oPkT (decide_eq_true hp13) tm tm) (s2 rfl rfl) <| cp (oMv tm) (s1 rfl) <| cgB (decide_eq_true hp14) rfl rfl (oMv tm) (s1 rfl) <| cgB (decide_eq_true hp14) rfl rfl (oIdx u69 z59 hy15 tm (cI (by decide))) (s1 rfl) <| cgB (decide_eq_true hp14) rfl rfl (oLd t59 tm) (s1 rfl) <| cgB (decide_eq_true hp14) rfl rfl (oLit (d := (kI .i64)) el59 (by decide) rfl rfl rfl (e1 (cI (by decide)) e0)) trivial <| cgB (decide_eq_true hp14) rfl rfl (oCall rfl (reticentref04_Same.ok hy16) b34 (opds_cons tm (opds_cons tm opds_nil))) (s2 rfl rfl) <| cp (oPkT (decide_eq_true hp14) tm tm) (s2 rfl rfl) <| cp (oMv tm) (s1 rfl) <| cgB hp17 rfl rfl (oMv tm) (s1 rfl) <| cgB hp17 rfl rfl (oIdx u69 z59 hy18 tm (cI (by decide))) (s1 rfl) <| cgB hp17 rfl rfl (oLd t59 tm) (s1 rfl) <| cgB hp17 rfl rfl (oLit (d := (kI .i64)) el59 (by decide) rfl rfl rfl (e1 (cI (by decide)) e0)) trivial <| cgB hp17 rfl rfl (oCall rfl (reticentref04_Same.ok hy19) b34 (opds_cons tm (opds_cons tm opds_nil))) (s2 rfl rfl) <| cp (oPkT hp17 tm tm) (s2 rfl rfl) <| cp (oMv tm) (s1 rfl) <| cgB hp20 rfl rfl (oMv tm) (s1 rfl) <| cgB hp20 rfl rfl (oIdx u69 z59 hy21 tm (cI (by decide))) (s1 rfl) <| cgB hp20 rfl rfl (oLd t59 tm) (s1 rfl) <| cgB hp20 rfl rfl (oLit (d := (kI .i64)) el59 (by decide) rfl rfl rfl (e1 (cI (by decide)) e0)) trivial <| cgB hp20 rfl rfl (oCall rfl (reticentref04_Same.ok hy22) b34 (opds_cons tm (opds_cons tm opds_nil))) (s2 rfl rfl) <| cp (oPkT hp20 tm tm) (s2 rfl rfl) <| cp (oAs tm) (s1 rfl) <| .nil) (by kernel_rfl) ?_
            exact pJ1 _ (so h) ⟨rfl, trivial⟩ rfl
          · refine rg (cp (oMv tm) (s1 rfl) <| cp (oEq rfl tm (cI (by decide))) (s1 rfl) <| cp (oMv tm) (s1 rfl) <| cgB (decide_eq_true hp13) rfl rfl (oMv tm) (s1 rfl) <| cgB (decide_eq_true hp13) rfl rfl (oLenL u69 tm) (s1 rfl) <| cgB (decide_eq_true hp13) rfl rfl (oEq rfl tm (cI (by decide))) (s1 rfl) <| cp (oPkT (decide_eq_true hp13) tm tm) (s2 rfl rfl) <| cp (oMv tm) (s1 rfl) <| cgB (decide_eq_true hp14) rfl rfl (oMv tm) (s1 rfl) <| cgB (decide_eq_true hp14) rfl rfl (oIdx u69 z59 hy15 tm (cI (by decide))) (s1 rfl) <| cgB (decide_eq_true hp14) rfl rfl (oLd t59 tm) (s1 rfl) <| cgB (decide_eq_true hp14) rfl rfl (oLit (d := (kI .i64)) el59 (by decide) rfl rfl rfl (e1 (cI (by decide)) e0)) trivial <| cgB (decide_eq_true hp14) rfl rfl (oCall rfl (reticentref04_Same.ok hy16) b34 (opds_cons tm (opds_cons tm opds_nil))) (s2 rfl rfl) <| cp (oPkT (decide_eq_true hp14) tm tm) (s2 rfl rfl) <| cp (oMv tm) (s1 rfl) <| cgB hp17 rfl rfl (oMv tm) (s1 rfl) <| cgB hp17 rfl rfl (oIdx u69 z59 hy18 tm (cI (by decide))) (s1 rfl) <| cgB hp17 rfl rfl (oLd t59 tm) (s1 rfl) <| cgB hp17 rfl rfl (oLit (d := (kI .i64)) el59 (by decide) rfl rfl rfl (e1 (cI (by decide)) e0)) trivial <| cgB hp17 rfl rfl (oCall rfl (reticentref04_Same.ok hy19) b34 (opds_cons tm (opds_cons tm opds_nil))) (s2 rfl rfl) <| cp (oPkT hp17 tm tm) (s2 rfl rfl) <| cp (oMv tm) (s1 rfl) <| csB (nb hp20) rfl rfl <| csB (nb hp20) rfl rfl <| csB (nb hp20) rfl rfl <| csB (nb hp20) rfl rfl <| csB (nb hp20) rfl rfl <| cp (oPkF (nb hp20) tm cB) (s1 rfl) <| cp (oAs tm) (s1 rfl) <| .nil) (by kernel_rfl) ?_
            exact pJ1 _ (so h) ⟨rfl, trivial⟩ rfl
        · refine rg (cp (oMv tm) (s1 rfl) <| cp (oEq rfl tm (cI (by decide))) (s1 rfl) <| cp (oMv tm) (s1 rfl) <| cgB (decide_eq_true hp13) rfl rfl (oMv tm) (s1 rfl) <| cgB (decide_eq_true hp13) rfl rfl (oLenL u69 tm) (s1 rfl) <| cgB (decide_eq_true hp13) rfl rfl (oEq rfl tm (cI (by decide))) (s1 rfl) <| cp (oPkT (decide_eq_true hp13) tm tm) (s2 rfl rfl) <| cp (oMv tm) (s1 rfl) <| cgB (decide_eq_true hp14) rfl rfl (oMv tm) (s1 rfl) <| cgB (decide_eq_true hp14) rfl rfl (oIdx u69 z59 hy15 tm (cI (by decide))) (s1 rfl) <| cgB (decide_eq_true hp14) rfl rfl (oLd t59 tm) (s1 rfl) <| cgB (decide_eq_true hp14) rfl rfl (oLit (d := (kI .i64)) el59 (by decide) rfl rfl rfl (e1 (cI (by decide)) e0)) trivial <| cgB (decide_eq_true hp14) rfl rfl (oCall rfl (reticentref04_Same.ok hy16) b34 (opds_cons tm (opds_cons tm opds_nil))) (s2 rfl rfl) <| cp (oPkT (decide_eq_true hp14) tm tm) (s2 rfl rfl) <| cp (oMv tm) (s1 rfl) <| csB (nb hp17) rfl rfl <| csB (nb hp17) rfl rfl <| csB (nb hp17) rfl rfl <| csB (nb hp17) rfl rfl <| csB (nb hp17) rfl rfl <| cp (oPkF (nb hp17) tm cB) (s1 rfl) <| cp (oMv tm) (s1 rfl) <| csB rfl rfl rfl <| csB rfl rfl rfl <| csB rfl rfl rfl <| csB rfl rfl rfl <| csB rfl rfl rfl <| cp (oPkF rfl tm cB) (s1 rfl) <| cp (oAs tm) (s1 rfl) <| .nil) (by kernel_rfl) ?_
          exact pJ1 _ (so h) ⟨rfl, trivial⟩ rfl
      · refine rg (cp (oMv tm) (s1 rfl) <| cp (oEq rfl tm (cI (by decide))) (s1 rfl) <| cp (oMv tm) (s1 rfl) <| cgB (decide_eq_true hp13) rfl rfl (oMv tm) (s1 rfl) <| cgB (decide_eq_true hp13) rfl rfl (oLenL u69 tm) (s1 rfl) <| cgB (decide_eq_true hp13) rfl rfl (oEq rfl tm (cI (by decide))) (s1 rfl) <| cp (oPkT (decide_eq_true hp13) tm tm) (s2 rfl rfl) <| cp (oMv tm) (s1 rfl) <| csB (decide_eq_false hp14) rfl rfl <| csB (decide_eq_false hp14) rfl rfl <| csB (decide_eq_false hp14) rfl rfl <| csB (decide_eq_false hp14) rfl rfl <| csB (decide_eq_false hp14) rfl rfl <| cp (oPkF (decide_eq_false hp14) tm cB) (s1 rfl) <| cp (oMv tm) (s1 rfl) <| csB rfl rfl rfl <| csB rfl rfl rfl <| csB rfl rfl rfl <| csB rfl rfl rfl <| csB rfl rfl rfl <| cp (oPkF rfl tm cB) (s1 rfl) <| cp (oMv tm) (s1 rfl) <| csB rfl rfl rfl <| csB rfl rfl rfl <| csB rfl rfl rfl <| csB rfl rfl rfl <| csB rfl rfl rfl <| cp (oPkF rfl tm cB) (s1 rfl) <| cp (oAs tm) (s1 rfl) <| .nil) (by kernel_rfl) ?_
        exact pJ1 _ (so h) ⟨rfl, trivial⟩ rfl
    · refine rg (cp (oMv tm) (s1 rfl) <| cp (oEq rfl tm (cI (by decide))) (s1 rfl) <| cp (oMv tm) (s1 rfl) <| csB (decide_eq_false hp13) rfl rfl <| csB (decide_eq_false hp13) rfl rfl <| csB (decide_eq_false hp13) rfl rfl <| cp (oPkF (decide_eq_false hp13) tm cB) (s1 rfl) <| cp (oMv tm) (s1 rfl) <| csB rfl rfl rfl <| csB rfl rfl rfl <| csB rfl rfl rfl <| csB rfl rfl rfl <| csB rfl rfl rfl <| cp (oPkF rfl tm cB) (s1 rfl) <| cp (oMv tm) (s1 rfl) <| csB rfl rfl rfl <| csB rfl rfl rfl <| csB rfl rfl rfl <| csB rfl rfl rfl <| csB rfl rfl rfl <| cp (oPkF rfl tm cB) (s1 rfl) <| cp (oMv tm) (s1 rfl) <| csB rfl rfl rfl <| csB rfl rfl rfl <| csB rfl rfl rfl <| csB rfl rfl rfl <| csB rfl rfl rfl <| cp (oPkF rfl tm cB) (s1 rfl) <| cp (oAs tm) (s1 rfl) <| .nil) (by kernel_rfl) ?_
      exact pJ1 _ (so h) ⟨rfl, trivial⟩ rfl
  · rintro x12 rfl
    replace h := hk1
    refine wRet ?_
    obtain rfl := so h
    exact pR1 (.inl rfl) rfl (.tmp rfl <| .nil)

theorem slices_EqualFunc_api_Row_api_Row_api_Row_api_Row.ok {a0 : List api_Row} {a1 : List api_Row} {a2 : api_Row → api_Row → Option Bool} {r : Bool} (h : slices_EqualFunc_api_Row_api_Row_api_Row_api_Row.f a0 a1 a2 = some r) : FnA Tryd.prog 37 [(kL (kR f_api_Row)).sig a0, (kL (kR f_api_Row)).sig a1, (sFun Tryd.prog (rl2 (kR f_api_Row) (kR f_api_Row) kB a2))] (kB.sig r) := by
  refine fnIntro Tryd.func37 rfl (by kernel_rfl) fun H0 w0 => ?_
  unfold slices_EqualFunc_api_Row_api_Row_api_Row_api_Row.f at h
  refine wSeq ?_
  refine rg (cp (oAs cB) trivial <| .nil) (by kernel_rfl) ?_
  refine pSeq ?_
  refine wSeq ?_
  refine wSeq ?_
  refine rg (cp (oMv tm) (s1 rfl) <| cp (oLenL u22 tm) (s1 rfl) <| cp (oMv tm) (s1 rfl) <| cp (oLenL u22 tm) (s1 rfl) <| cp (oNe rfl tm tm) (s2 rfl rfl) <| .nil) (by kernel_rfl) ?_
  refine pSeq ?_
  rcases ic h with ⟨hp1, h⟩ | ⟨hp1, h⟩
  · refine wNT hp1 tm (s1 rfl) ?_
    refine wSkip ?_
    refine pSeq ?_
    refine wSeq ?_
    refine wSeq ?_
    refine rg (cp (oMv tm) (s1 rfl) <| cp (oLenL u22 tm) (s1 rfl) <| cp (oMv (cI (by decide))) trivial <| .nil) (by kernel_rfl) ?_
    refine pSeq ?_
    obtain ⟨o1, h, hk1⟩ := bd h
    refine wK0 (.inr () = o1) ([]) ([]) ?_ ?_
    · refine wBlock (wLoop ?_)
      refine lW (pc1 o1 (fun v12 => [(1, .d ((kL (kR f_api_Row)).sig a1)), (2, .d ((sFun Tryd.prog (rl2 (kR f_api_Row) (kR f_api_Row) kB a2)))), (15, .d ((kL (kR f_api_Row)).sig a0)), (16, .d ((kI .i64).sig (a0.length : Int))), (17, .d ((kI .i64).sig v12))]) (fun v12 => []) (slices_EqualFunc_api_Row_api_Row_api_Row_api_Row.l0.partial_correctness a0 a1 a2) ?_ _ h) ⟨rfl, rfl, rfl, rfl, rfl, trivial⟩ rfl
      clear h
      intro f' ih v12 h
      refine wSeq ?_
      refine rg (cp (oLt rfl tm tm) (s2 rfl rfl) <| .nil) (by kernel_rfl) ?_
      refine pSeq ?_
      refine wSeq ?_
      rcases ic h with ⟨hp13, h⟩ | ⟨hp13, h⟩
      · refine wCT hp13 tm (s1 rfl) ?_
        refine wSkip ?_
        refine pSeq ?_
        refine wSeq ?_
        refine wBlock ?_
        refine wSeq ?_
        obtain ⟨y14, hy14, h⟩ := bd h
        refine rg (cp (oMv tm) (s1 rfl) <| cp (oIdx u22 z61 hy14 tm tm) (s2 rfl rfl) <| cp (oLd t61 tm) (s1 rfl) <| cw (oAlloc (id := 8) (ls := [.d (kL (kI .i64)) [], .d (kL (kI .i64)) [], .d (kL (kI .i64)) []]) ze61 (fun g => ⟨[(.slice none 0 0)], _, rfl, zL g.H, ⟨[(.slice none 0 0)], _, rfl, zL g.H, ⟨[(.slice none 0 0)], _, rfl, zL g.H, rfl⟩⟩⟩)) trivial <| cp (oAs tm) (s1 rfl) <| cwn (oStA (n := 0) (fs := f_api_Row) rfl rfl z61 tm tm) (s2 rfl rfl) <| .nil) (by kernel_rfl) ?_
        refine pSeq ?_
        refine wSeq ?_
        obtain ⟨y15, hy15, h⟩ := bd h
        refine rg (cp (oMv tm) (s1 rfl) <| cp (oMv tm) (s1 rfl) <| cp (oIdx u22 z61 hy15 tm tm) (s2 rfl rfl) <| cp (oLd t61 tm) (s1 rfl) <| cw (oAlloc (id := 9) (ls := [.d (kL (kI .i64)) [], .d (kL (kI .i64)) [], .d (kL (kI .i64)) []]) ze61 (fun g => ⟨[(.slice none 0 0)], _, rfl, zL g.H, ⟨[(.slice none 0 0)], _, rfl, zL g.H, ⟨[(.slice none 0 0)], _, rfl, zL g.H, rfl⟩⟩⟩)) trivial <| cwn (oStA (n := 0) (fs := f_api_Row) rfl rfl z61 tm tm) (s2 rfl rfl) <| .nil) (by kernel_rfl) ?_
        refine pSeq ?_
        refine wSeq ?_
        obtain ⟨y16, hy16, h⟩ := bd h
        refine rg (cp (oMv tm) (s1 rfl) <| cr (oLdA (n := 1) (fs := f_api_Row) (u := ⟨y14.May, y14.Res, y14.Pc⟩) rfl ⟨rfl, rfl, rfl, trivial⟩ t61 tm) (s1 rfl) <| cr (oLdA (n := 0) (fs := f_api_Row) (u := ⟨y15.May, y15.Res, y15.Pc⟩) rfl ⟨rfl, rfl, rfl, trivial⟩ t61 tm) (s1 rfl) <| cp (oCallV rfl (rl2i hy16) tm (opds_cons tm (opds_cons tm opds_nil))) (s3 rfl rfl rfl) <| cp (oNot tm) (s1 rfl) <| .nil) (by kernel_rfl) ?_
        refine pSeq ?_
        rcases ic h with ⟨hp17, h⟩ | ⟨hp17, h⟩
        · refine wBT hp17 tm (s1 rfl) ?_
          refine wSeq ?_
          refine rg (cp (oAs cB) trivial <| .nil) (by kernel_rfl) ?_
          refine pSeq ?_
          refine wRet ?_
          refine pBlkR ?_
          refine pThenR ?_
          refine pThenR ?_
          refine pBlkR ?_
          refine pThenR ?_
          obtain rfl := so h
          replace h := hk1
          refine pThenR ?_
          obtain rfl := so h
          exact pR1 (.inl rfl) rfl (.tmp rfl <| .nil)
        · refine wBF hp17 tm (s1 rfl) ?_
          refine wSkip ?_
          refine pBlkN ?_
          refine pSeq ?_
          refine rg (cp (oAdd tm (cI (by decide))) (s1 rfl) <| cp (oMv tm) (s1 rfl) <| .nil) (by kernel_rfl) ?_
          refine pDrop (.cons _ (.cons _ .slnil)) ?_
          exact pLoop (lW (ih _ h) ⟨rfl, rfl, rfl, rfl, rfl, trivial⟩ rfl)
      · refine wCF hp13 tm (s1 rfl) ?_
        refine wExit ?_
        refine pThenX ?_
        refine pThenX ?_
        refine pBlkX ?_
        exact pJ0 (so h) trivial rfl
    · rintro rfl
      replace h := hk1
      refine pSeq ?_
      refine wSeq ?_
      refine rg (cp (oAs cB) trivial <| .nil) (by kernel_rfl) ?_
      refine pSeq ?_
      refine wRet ?_
      obtain rfl := so h
      exact pR1 (.inl rfl) rfl (.tmp rfl <| .nil)
  · refine wNF hp1 tm (s1 rfl) ?_
    refine wSeq ?_
    refine rg (cp (oAs cB) trivial <| .nil) (by kernel_rfl) ?_
    refine pSeq ?_
    refine wRet ?_
    refine pThenR ?_
    obtain rfl := so h
    exact pR1 (.inl rfl) rfl (.tmp rfl <| .nil)

theorem table_likeRow.ok {a0 : api_Row} {a1 : api_Row} {r : Bool} (h : table_likeRow.f a0 a1 = some r) : FnA Tryd.prog 38 [(kR f_api_Row).sig a0, (kR f_api_Row).sig a1] (kB.sig r) := by
  refine fnIntro Tryd.func38 rfl (by kernel_rfl) fun H0 w0 => ?_
  unfold table_likeRow.f at h
  refine wSeq ?_
  refine rg (cp (oBox tm) (s1 rfl) <| cp (oBox tm) (s1 rfl) <| cp (oAs cB) trivial <| .nil) (by kernel_rfl) ?_
  refine pSeq ?_
  obtain ⟨o1, h, hk1⟩ := bd h
  refine wJ1 (fun x6 => x6 = o1) (fun x6 => [(4, .d (kB.sig x6))]) (fun x6 => []) ?_ ?_
  · obtain ⟨y7, hy7, h⟩ := bd h
    rcases ic h with ⟨hp8, h⟩ | ⟨hp8, h⟩
    · obtain ⟨y9, hy9, h⟩ := bd h
      rcases ic h with ⟨hp10, h⟩ | ⟨hp10, h⟩
      · obtain ⟨y11, hy11, h⟩ := bd h
        refine rg (cp (oFld (fs := f_api_Row) (k := 0) rfl o61_0 tm) (s1 rfl) <| cp (oLd t59 tm) (s1 rfl) <| cp (oFld (fs := f_api_Row) (k := 0) rfl o61_0 tm) (s1 rfl) <| cp (oLd t59 tm) (s1 rfl) <| cp (oCall rfl (slices_Equal_int_int.ok hy7) b75 (opds_cons tm (opds_cons tm opds_nil))) (s2 rfl rfl) <| cp (oMv tm) (s1 rfl) <| cgB hp8 rfl rfl (oFld (fs := f_api_Row) (k := 1) rfl o61_1 tm) (s1 rfl) <| cgB hp8 rfl rfl (oLd t59 tm) (s1 rfl) <| cgB hp8 rfl rfl (oFld (fs := f_api_Row) (k := 1) rfl o61_1 tm) (s1 rfl) <| cgB hp8 rfl rfl (oLd t59 tm) (s1 rfl) <| cgB hp8 rfl rfl (oCall rfl (slices_Equal_int_int.ok hy9) b75 (opds_cons tm (opds_cons tm opds_nil))) (s2 rfl rfl) <| cp (oPkT hp8 tm tm) (s2 rfl rfl) <| cp (oMv tm) (s1 rfl) <| cgB hp10 rfl rfl (oFld (fs := f_api_Row) (k := 2) rfl o61_2 tm) (s1 rfl) <| cgB hp10 rfl rfl (oLd t59 tm) (s1 rfl) <| cgB hp10 rfl rfl (oFld (fs := f_api_Row) (k := 2) rfl o61_2 tm) (s1 rfl) <| cgB hp10 rfl rfl (oLd t59 tm) (s1 rfl) <| cgB hp10 rfl rfl (oCall rfl (slices_Equal_int_int.ok hy11) b75 (opds_cons tm (opds_cons tm opds_nil))) (s2 rfl rfl) <| cp (oPkT hp10 tm tm) (s2 rfl rfl) <| cp (oAs tm) (s1 rfl) <| .nil) (by kernel_rfl) ?_
        exact pJ1 _ (so h) ⟨rfl, trivial⟩ rfl
      · refine rg (cp (oFld (fs := f_api_Row) (k := 0) rfl o61_0 tm) (s1 rfl) <| cp (oLd t59 tm) (s1 rfl) <| cp (oFld (fs := f_api_Row) (k := 0) rfl o61_0 tm) (s1 rfl) <| cp (oLd t59 tm) (s1 rfl) <| cp (oCall rfl (slices_Equal_int_int.ok hy7) b75 (opds_cons tm (opds_cons tm opds_nil))) (s2 rfl rfl) <| cp (oMv tm) (s1 rfl) <| cgB hp8 rfl rfl (oFld (fs := f_api_Row) (k := 1) rfl o61_1 tm) (s1 rfl) <| cgB hp8 rfl rfl (oLd t59 tm) (s1 rfl) <| cgB hp8 rfl rfl (oFld (fs := f_api_Row) (k := 1) rfl o61_1 tm) (s1 rfl) <| cgB hp8 rfl rfl (oLd t59 tm) (s1 rfl) <| cgB hp8 rfl rfl (oCall rfl (slices_Equal_int_int.ok hy9) b75 (opds_cons tm (opds_cons tm opds_nil))) (s2 rfl rfl) <| cp (oPkT hp8 tm tm) (s2 rfl rfl) <| cp (oMv tm) (s1 rfl) <| csB (nb hp10) rfl rfl <| csB (nb hp10) rfl rfl <| csB (nb hp10) rfl rfl <| csB (nb hp10) rfl rfl <| csB (nb hp10) rfl rfl <| cp (oPkF (nb hp10) tm cB) (s1 rfl) <| cp (oAs tm) (s1 rfl) <| .nil) (by kernel_rfl) ?_
        exact pJ1 _ (so h) ⟨rfl, trivial⟩ rfl
    · refine rg (cp (oFld (fs := f_api_Row) (k := 0) rfl o61_0 tm) (s1 rfl) <| cp (oLd t59 tm) (s1 rfl) <| cp (oFld (fs := f_api_Row) (k := 0) rfl o61_0 tm) (s1 rfl) <| cp (oLd t59 tm) (s1 rfl) <| cp (oCall rfl (slices_Equal_int_int.ok hy7) b75 (opds_cons tm (opds_cons tm opds_nil))) (s2 rfl rfl) <| cp (oMv tm) (s1 rfl) <| csB (nb hp8) rfl rfl <| csB (nb hp8) rfl rfl <| csB (nb hp8) rfl rfl <| csB (nb hp8) rfl rfl <| csB (nb hp8) rfl rfl <| cp (oPkF (nb hp8) tm cB) (s1 rfl) <| cp (oMv tm) (s1 rfl) <| csB rfl rfl rfl <| csB rfl rfl rfl <| csB rfl rfl rfl <| csB rfl rfl rfl <| csB rfl rfl rfl <| cp (oPkF rfl tm cB) (s1 rfl) <| cp (oAs tm) (s1 rfl) <| .nil) (by kernel_rfl) ?_
      exact pJ1 _ (so h) ⟨rfl, trivial⟩ rfl
  · rintro x6 rfl
    replace h := hk1
    refine wRet ?_
    obtain rfl := so h
    exact pR1 (.inl rfl) rfl (.tmp rfl <| .nil)

theorem table_Like.ok {a0 : api_Table} {a1 : api_Table} {r : Bool} (h : table_Like.f a0 a1 = some r) : FnA Tryd.prog 11 [(kR f_api_Table).sig a0, (kR f_api_Table).sig a1] (kB.sig r) := by
  refine fnIntro Tryd.func11 rfl (by kernel_rfl) fun H0 w0 => ?_
  unfold table_Like.f at h
  refine wSeq ?_
  refine rg (cp (oBox tm) (s1 rfl) <| cp (oBox tm) (s1 rfl) <| cp (oAs cB) trivial <| .nil) (by kernel_rfl) ?_
  refine pSeq ?_
  refine wSeq ?_
  obtain ⟨y1, hy1, h⟩ := bd h
  refine rg (cp (oFld (fs := f_api_Table) (k := 0) rfl o24_0 tm) (s1 rfl) <| cp (oLd t22 tm) (s1 rfl) <| cp (oFld (fs := f_api_Table) (k := 0) rfl o24_0 tm) (s1 rfl) <| cp (oLd t22 tm) (s1 rfl) <| cp (oCall rfl (slices_EqualFunc_api_Row_api_Row_api_Row_api_Row.ok hy1) b37 (opds_cons tm (opds_cons tm (opds_cons (oFn b38 (rl2n table_likeRow.ok)) opds_nil)))) (s2 rfl rfl) <| cp (oAs tm) (s1 rfl) <| .nil) (by kernel_rfl) ?_
  refine pSeq ?_
  refine wRet ?_
  obtain rfl := so h
  exact pR1 (.inl rfl) rfl (.tmp rfl <| .nil)

theorem reticentlaw24_MutantDiffers.ok {a0 : api_Table} {r : Bool} (h : reticentlaw24_MutantDiffers.f a0 = some r) : FnA Tryd.prog 3 [(kR f_api_Table).sig a0] (kB.sig r) := by
  refine fnIntro Tryd.func3 rfl (by kernel_rfl) fun H0 w0 => ?_
  unfold reticentlaw24_MutantDiffers.f at h
  refine wSeq ?_
  refine rg (cw (oBoxS (id := 1) (fs := f_api_Table) tm) (s1 rfl) <| cp (oAs cB) trivial <| .nil) (by kernel_rfl) ?_
  refine pSeq ?_
  refine wSeq ?_
  obtain ⟨y1, hy1, h⟩ := bd h
  refine rg (cr (oLdA (n := 0) (fs := f_api_Table) (u := ⟨a0.Rows⟩) rfl ⟨rfl, trivial⟩ t24 tm) (s1 rfl) <| cp (oCall rfl (reticentlaw24_few.ok hy1) b7 (opds_cons tm opds_nil)) (s1 rfl) <| cwn (oStA (n := 0) (fs := f_api_Table) rfl rfl z24 tm tm) (s2 rfl rfl) <| .nil) (by kernel_rfl) ?_
  refine pSeq ?_
  refine wSeq ?_
  obtain ⟨y2, hy2, h⟩ := bd h
  refine rg (cr (oLdA (n := 0) (fs := f_api_Table) (u := ⟨y1.Rows⟩) rfl ⟨rfl, trivial⟩ t24 tm) (s1 rfl) <| cp (oCall rfl (mutant_All.ok hy2) b8 (opds_cons tm opds_nil)) (s1 rfl) <| cp (oMv tm) (s1 rfl) <| cp (oExt (k := 0) rfl tm) (s1 rfl) <| cp (oExt (k := 1) rfl tm) (s1 rfl) <| cp (oAs tm) (s1 rfl) <| cp (oAs tm) (s1 rfl) <| .nil) (by kernel_rfl) ?_
  refine pSeq ?_
  refine wSeq ?_
  refine wSeq ?_
  refine rg (cp (oMv tm) (s1 rfl) <| cp (oNe rfl tm (cI (by decide))) (s1 rfl) <| .nil) (by kernel_rfl) ?_
  refine pSeq ?_
  rcases ic h with ⟨hp3, h⟩ | ⟨hp3, h⟩
  · refine wNT hp3 tm (s1 rfl) ?_
    refine wSkip ?_
    refine pSeq ?_
    refine wSeq ?_
    refine wSeq ?_
    refine rg (cp (oMv tm) (s1 rfl) <| cp (oLenL u26 tm) (s1 rfl) <| cp (oMv (cI (by decide))) trivial <| .nil) (by kernel_rfl) ?_
    refine pSeq ?_
    obtain ⟨o1, h, hk1⟩ := bd h
    refine wK0 (.inr () = o1) ([]) ([.box 1 24 [.d (kL (kR f_api_Row)) y1.Rows]]) ?_ ?_
    · refine wBlock (wLoop ?_)
      refine lW (pc1 o1 (fun v94 => [(1, .p 1 0), (26, .d ((kL (kR f_api_Table)).sig y2.1)), (27, .d ((kI .i64).sig (y2.1.length : Int))), (28, .d ((kI .i64).sig v94))]) (fun v94 => [.box 1 24 [.d (kL (kR f_api_Row)) y1.Rows]]) (reticentlaw24_MutantDiffers.l2.partial_correctness y1 y2) ?_ _ h) ⟨rfl, rfl, rfl, rfl, trivial⟩ rfl
      clear h
      intro f' ih v94 h
      refine wSeq ?_
      refine rg (cp (oLt rfl tm tm) (s2 rfl rfl) <| .nil) (by kernel_rfl) ?_
      refine pSeq ?_
      refine wSeq ?_
      rcases ic h with ⟨hp95, h⟩ | ⟨hp95, h⟩
      · refine wCT hp95 tm (s1 rfl) ?_
        refine wSkip ?_
        refine pSeq ?_
        refine wSeq ?_
        refine wBlock ?_
        refine wSeq ?_
        obtain ⟨y96, hy96, h⟩ := bd h
        refine rg (cp (oIdx u26 z24 hy96 tm tm) (s2 rfl rfl) <| cp (oLd t24 tm) (s1 rfl) <| cw (oAlloc (id := 6) (ls := [.d (kL (kR f_api_Row)) []]) ze24 (fun g => ⟨[(.slice none 0 0)], _, rfl, zL g.H, rfl⟩)) trivial <| cwn (oStA (n := 0) (fs := f_api_Table) rfl rfl z24 tm tm) (s2 rfl rfl) <| .nil) (by kernel_rfl) ?_
        refine pSeq ?_
        refine wSeq ?_
        obtain ⟨y97, hy97, h⟩ := bd h
        refine rg (cr (oLdA (n := 0) (fs := f_api_Table) (u := ⟨y96.Rows⟩) rfl ⟨rfl, trivial⟩ t24 tm) (s1 rfl) <| cp (oCall rfl (table_Check.ok hy97) b10 (opds_cons tm opds_nil)) (s1 rfl) <| cp (oMv tm) (s1 rfl) <| cp (oExt (k := 0) rfl tm) (s1 rfl) <| cp (oExt (k := 1) rfl tm) (s1 rfl) <| cp (oAs tm) (s1 rfl) <| cp (oAs tm) (s1 rfl) <| .nil) (by kernel_rfl) ?_
        refine pSeq ?_
        refine wSeq ?_
        obtain ⟨o2, h, hk2⟩ := bd h
        refine wJ1 (fun x101 => x101 = o2) (fun x101 => [(1, .p 1 0), (6, .p 6 0), (26, .d ((kL (kR f_api_Table)).sig y2.1)), (27, .d ((kI .i64).sig (y2.1.length : Int))), (28, .d ((kI .i64).sig v94)), (47, .d (kB.sig x101))]) (fun x101 => [.box 6 24 [.d (kL (kR f_api_Row)) y96.Rows], .box 1 24 [.d (kL (kR f_api_Row)) y1.Rows]]) ?_ ?_
        · rcases ic h with ⟨hp102, h⟩ | ⟨hp102, h⟩
          · rcases ic h with ⟨hp103, h⟩ | ⟨hp103, h⟩
            · obtain ⟨y104, hy104, h⟩ := bd h
              refine rg (cp (oMv tm) (s1 rfl) <| cp (oNe rfl tm (cI (by decide))) (s1 rfl) <| cp (oMv tm) (s1 rfl) <| cgB (nf hp102) rfl rfl (oMv tm) (s1 rfl) <| cgB (nf hp102) rfl rfl (oNe rfl tm (cI (by decide))) (s1 rfl) <| cp (oPkF (nf hp102) tm tm) (s2 rfl rfl) <| cp (oMv tm) (s1 rfl) <| crgB (nf hp103) rfl rfl (oLdA (n := 0) (fs := f_api_Table) (u := ⟨y96.Rows⟩) rfl ⟨rfl, trivial⟩ t24 tm) (s1 rfl) <| crgB (nf hp103) rfl rfl (oLdA (n := 1) (fs := f_api_Table) (u := ⟨y1.Rows⟩) rfl ⟨rfl, trivial⟩ t24 tm) (s1 rfl) <| cgB (nf hp103) rfl rfl (oCall rfl (table_Like.ok hy104) b11 (opds_cons tm (opds_cons tm opds_nil))) (s2 rfl rfl) <| cp (oPkF (nf hp103) tm tm) (s2 rfl rfl) <| .nil) (by kernel_rfl) ?_
              exact pJ1 _ (so h) ⟨rfl, rfl, rfl, rfl, rfl, rfl, trivial⟩ rfl
            · refine rg (cp (oMv tm) (s1 rfl) <| cp (oNe rfl tm (cI (by decide))) (s1 rfl) <| cp (oMv tm) (s1 rfl) <| cgB (nf hp102) rfl rfl (oMv tm) (s1 rfl) <| cgB (nf hp102) rfl rfl (oNe rfl tm (cI (by decide))) (s1 rfl) <| cp (oPkF (nf hp102) tm tm) (s2 rfl rfl) <| cp (oMv tm) (s1 rfl) <| csB (nt hp103) rfl rfl <| csB (nt hp103) rfl rfl <| csB (nt hp103) rfl rfl <| cp (oPkT (nt hp103) tm cB) (s1 rfl) <| .nil) (by kernel_rfl) ?_
              exact pJ1 _ (so h) ⟨rfl, rfl, rfl, rfl, rfl, rfl, trivial⟩ rfl
          · refine rg (cp (oMv tm) (s1 rfl) <| cp (oNe rfl tm (cI (by decide))) (s1 rfl) <| cp (oMv tm) (s1 rfl) <| csB (nt hp102) rfl rfl <| csB (nt hp102) rfl rfl <| cp (oPkT (nt hp102) tm cB) (s1 rfl) <| cp (oMv tm) (s1 rfl) <| csB rfl rfl rfl <| csB rfl rfl rfl <| csB rfl rfl rfl <| cp (oPkT rfl tm cB) (s1 rfl) <| .nil) (by kernel_rfl) ?_
            exact pJ1 _ (so h) ⟨rfl, rfl, rfl, rfl, rfl, rfl, trivial⟩ rfl
        · rintro x101 rfl
          replace h := hk2
          rcases ic h with ⟨hp105, h⟩ | ⟨hp105, h⟩
          · refine wBT hp105 tm (s1 rfl) ?_
            refine wSeq ?_
            refine rg (cp (oAs cB) trivial <| .nil) (by kernel_rfl) ?_
            refine pSeq ?_
            refine wRet ?_
            refine pThenR ?_
            refine pBlkR ?_
            refine pThenR ?_
            refine pThenR ?_
            refine pBlkR ?_
            refine pThenR ?_
            obtain rfl := so h
            replace h := hk1
            refine pThenR ?_
            obtain rfl := so h
            exact pR1 (.inl rfl) rfl (.tmp rfl <| .nil)
          · refine wBF hp105 tm (s1 rfl) ?_
            refine wSkip ?_
            refine pSeq ?_
            refine wSeq ?_
            refine rg (cp (oAs (cI (by decide))) trivial <| .nil) (by kernel_rfl) ?_
            refine pSeq ?_
            refine wSeq ?_
            refine wSeq ?_
            refine rg (cp (oFldP o24_0 tm) (s1 rfl) <| cr (oLdB (n := 0) (k := 0) rfl rfl rfl t22 tm) (s1 rfl) <| cp (oLenL u22 tm) (s1 rfl) <| cp (oMv (cI (by decide))) trivial <| .nil) (by kernel_rfl) ?_
            refine pSeq ?_
            obtain ⟨o2, h, hk2⟩ := bd h
            refine wK1 (fun x128 => x128 = o2) (fun x128 => [(1, .p 1 0), (9, .d ((kI .i64).sig x128)), (26, .d ((kL (kR f_api_Table)).sig y2.1)), (27, .d ((kI .i64).sig (y2.1.length : Int))), (28, .d ((kI .i64).sig v94))]) (fun x128 => [.box 6 24 [.d (kL (kR f_api_Row)) y96.Rows], .box 1 24 [.d (kL (kR f_api_Row)) y1.Rows]]) ?_ ?_
            · refine wBlock (wLoop ?_)
              refine lW (pc2 o2 (fun v126 v127 => [(1, .p 1 0), (6, .p 6 0), (9, .d ((kI .i64).sig v127)), (26, .d ((kL (kR f_api_Table)).sig y2.1)), (27, .d ((kI .i64).sig (y2.1.length : Int))), (28, .d ((kI .i64).sig v94)), (50, .d ((kI .i64).sig (y96.Rows.length : Int))), (51, .d ((kI .i64).sig v126))]) (fun v126 v127 => [.box 6 24 [.d (kL (kR f_api_Row)) y96.Rows], .box 1 24 [.d (kL (kR f_api_Row)) y1.Rows]]) (reticentlaw24_MutantDiffers.l3.partial_correctness y1 y96) ?_ _ _ h) ⟨rfl, rfl, rfl, rfl, rfl, rfl, rfl, rfl, trivial⟩ rfl
              clear h
              intro f' ih v126 v127 h
              refine wSeq ?_
              refine rg (cp (oLt rfl tm tm) (s2 rfl rfl) <| .nil) (by kernel_rfl) ?_
              refine pSeq ?_
              refine wSeq ?_
              rcases ic h with ⟨hp129, h⟩ | ⟨hp129, h⟩
              · refine wCT hp129 tm (s1 rfl) ?_
                refine wSkip ?_
                refine pSeq ?_
                obtain ⟨o3, h, hk3⟩ := bd h
                refine wJ1 (fun x134 => x134 = o3) (fun x134 => [(1, .p 1 0), (6, .p 6 0), (9, .d ((kI .i64).sig x134)), (26, .d ((kL (kR f_api_Table)).sig y2.1)), (27, .d ((kI .i64).sig (y2.1.length : Int))), (28, .d ((kI .i64).sig v94)), (50, .d ((kI .i64).sig (y96.Rows.length : Int))), (51, .d ((kI .i64).sig v126))]) (fun x134 => [.box 6 24 [.d (kL (kR f_api_Row)) y96.Rows], .box 1 24 [.d (kL (kR f_api_Row)) y1.Rows]]) ?_ ?_
                · refine wBlock ?_
                  refine wSeq ?_
                  refine rg (cp (oMv tm) (s1 rfl) <| cp (oAs tm) (s1 rfl) <| .nil) (by kernel_rfl) ?_
                  refine pSeq ?_
                  refine wSeq ?_
                  obtain ⟨hc135, h⟩ := ib h
                  obtain ⟨hc136, h⟩ := ib h
                  obtain ⟨y137, hy137, h⟩ := bd h
                  refine rgD hm (cp (oFldP o24_0 tm) (s1 rfl) <| cr (oLdB (n := 0) (k := 0) rfl rfl rfl t22 tm) (s1 rfl) <| cp (oMv tm) (s1 rfl) <| cp (oMv tm) (s1 rfl) <| cp (oAdd tm (cI (by decide))) (s1 rfl) <| cp (oCut u22 z61 hc135.1 hc135.2.1 hc135.2.2 tm tm tm) (s3 rfl rfl rfl) <| cp (oBuild (fs := f_api_Table) (u := ⟨lCut y96.Rows v126 (IntKind.i64.wrap (v126 + 1))⟩) rfl ze24 pl24 po24 (.op (zc := [(.slice none 0 0)]) tm rfl .nil)) (s1 rfl) <| cp (oFldP o24_0 tm) (s1 rfl) <| cr (oLdB (n := 1) (k := 0) rfl rfl rfl t22 tm) (s1 rfl) <| cp (oMv tm) (s1 rfl) <| cp (oMv tm) (s1 rfl) <| cp (oAdd tm (cI (by decide))) (s1 rfl) <| cp (oCut u22 z61 hc136.1 hc136.2.1 hc136.2.2 tm tm tm) (s3 rfl rfl rfl) <| cp (oBuild (fs := f_api_Table) (u := ⟨lCut y1.Rows v126 (IntKind.i64.wrap (v126 + 1))⟩) rfl ze24 pl24 po24 (.op (zc := [(.slice none 0 0)]) tm rfl .nil)) (s1 rfl) <| cp (oCall rfl (table_Like.ok hy137) b11 (opds_cons tm (opds_cons tm opds_nil))) (s2 rfl rfl) <| cp (oNot tm) (s1 rfl) <| .nil) (by kernel_rfl) (by kernel_rfl) ?_
                  refine pSeq ?_
                  rcases ic h with ⟨hp138, h⟩ | ⟨hp138, h⟩
                  · refine wBT hp138 tm (s1 rfl) ?_
                    refine rg (cp (oMv tm) (s1 rfl) <| cp (oAdd tm (cI (by decide))) (s1 rfl) <| cp (oAs tm) (s1 rfl) <| .nil) (by kernel_rfl) ?_
                    refine pBlkN ?_
                    exact pJ1 _ (so h) ⟨rfl, rfl, rfl, rfl, rfl, rfl, rfl, rfl, trivial⟩ rfl
                  · refine wBF hp138 tm (s1 rfl) ?_
                    refine wSkip ?_
                    refine pBlkN ?_
                    exact pJ1 _ (so h) ⟨rfl, rfl, rfl, rfl, rfl, rfl, rfl, rfl, trivial⟩ rfl
                · rintro x134 rfl
                  replace h := hk3
                  refine rg (cp (oAdd tm (cI (by decide))) (s1 rfl) <| cp (oMv tm) (s1 rfl) <| .nil) (by kernel_rfl) ?_
                  exact pLoop (lW (ih _ _ h) ⟨rfl, rfl, rfl, rfl, rfl, rfl, rfl, rfl, trivial⟩ rfl)
              · refine wCF hp129 tm (s1 rfl) ?_
                refine wExit ?_
                refine pThenX ?_
                refine pThenX ?_
                refine pBlkX ?_
                exact pJ1 _ (so h) ⟨rfl, rfl, rfl, rfl, rfl, trivial⟩ rfl
            · rintro x128 rfl
              replace h := hk2
              refine pSeq ?_
              refine wSeq ?_
              refine rg (cp (oMv tm) (s1 rfl) <| cp (oNe rfl tm (cI (by decide))) (s1 rfl) <| .nil) (by kernel_rfl) ?_
              refine pSeq ?_
              rcases ic h with ⟨hp139, h⟩ | ⟨hp139, h⟩
              · refine wNT hp139 tm (s1 rfl) ?_
                refine wSkip ?_
                refine pBlkN ?_
                refine pSeq ?_
                refine rg (cp (oAdd tm (cI (by decide))) (s1 rfl) <| cp (oMv tm) (s1 rfl) <| .nil) (by kernel_rfl) ?_
                refine pDrop (.cons _ (.cons_cons _ .slnil)) ?_
                exact pLoop (lW (ih _ h) ⟨rfl, rfl, rfl, rfl, trivial⟩ rfl)
              · refine wNF hp139 tm (s1 rfl) ?_
                refine wSeq ?_
                refine rg (cp (oAs cB) trivial <| .nil) (by kernel_rfl) ?_
                refine pSeq ?_
                refine wRet ?_
                refine pBlkR ?_
                refine pThenR ?_
                refine pThenR ?_
                refine pBlkR ?_
                refine pThenR ?_
                obtain rfl := so h
                replace h := hk1
                refine pThenR ?_
                obtain rfl := so h
                exact pR1 (.inl rfl) rfl (.tmp rfl <| .nil)
      · refine wCF hp95 tm (s1 rfl) ?_
        refine wExit ?_
        refine pThenX ?_
        refine pThenX ?_
        refine pBlkX ?_
        exact pJ0 (so h) trivial rfl
    · rintro rfl
      replace h := hk1
      refine pSeq ?_
      refine wSeq ?_
      obtain ⟨y140, hy140, h⟩ := bd h
      refine rg (cp (oCall rfl (reticentlaw24_alive.ok hy140) b9 opds_nil) trivial <| cp (oAs tm) (s1 rfl) <| .nil) (by kernel_rfl) ?_
      refine pSeq ?_
      refine wRet ?_
      obtain rfl := so h
      exact pR1 (.inl rfl) rfl (.tmp rfl <| .nil)
  · refine wNF hp3 tm (s1 rfl) ?_
    obtain ⟨o1, h, hk1⟩ := bd h
    refine wJ1 (fun x143 => x143 = o1) (fun x143 => [(2, .d (kB.sig x143))]) (fun x143 => [.box 1 24 [.d (kL (kR f_api_Row)) y1.Rows]]) ?_ ?_
    · obtain ⟨y144, hy144, h⟩ := bd h
      rcases ic h with ⟨hp145, h⟩ | ⟨hp145, h⟩
      · refine rg (cp (oCall rfl (reticentlaw24_alive.ok hy144) b9 opds_nil) trivial <| cp (oMv tm) (s1 rfl) <| cgB hp145 rfl rfl (oMv tm) (s1 rfl) <| cgB hp145 rfl rfl (oLenL u26 tm) (s1 rfl) <| cgB hp145 rfl rfl (oEq rfl tm (cI (by decide))) (s1 rfl) <| cp (oPkT hp145 tm tm) (s2 rfl rfl) <| cp (oAs tm) (s1 rfl) <| .nil) (by kernel_rfl) ?_
        exact pJ1 _ (so h) ⟨rfl, trivial⟩ rfl
      · refine rg (cp (oCall rfl (reticentlaw24_alive.ok hy144) b9 opds_nil) trivial <| cp (oMv tm) (s1 rfl) <| csB (nb hp145) rfl rfl <| csB (nb hp145) rfl rfl <| csB (nb hp145) rfl rfl <| cp (oPkF (nb hp145) tm cB) (s1 rfl) <| cp (oAs tm) (s1 rfl) <| .nil) (by kernel_rfl) ?_
        exact pJ1 _ (so h) ⟨rfl, trivial⟩ rfl
    · rintro x143 rfl
      replace h := hk1
      refine wRet ?_
      refine pThenR ?_
      obtain rfl := so h
      exact pR1 (.inl rfl) rfl (.tmp rfl <| .nil)

end Go.Proofs.YtkmobcaobmchpaaDoor.MD
