import Derived.Test.YthpmbokenhpakaaDLD
import Derived.Test.YthpmbokenhpakaaProg
set_option linter.unusedVariables false
set_option maxRecDepth 10000
namespace Go.Proofs.Ythpmbokenhpakaa.LD
open Go Go.Proofs.Ythpmbokenhpakaa.Ab

theorem hm : Try.prog.follows .mixedOrders = true := by kernel_rfl
theorem ze148 : zeroIs Try.prog 148 [(.slice none 0 0)] := by unfold zeroIs; kernel_rfl
theorem t148 : tinf Try.prog 148 = some (false, 1) := by kernel_rfl
theorem u148 : Try.prog.underlying 148 = some (.slice 107) := by kernel_rfl
theorem z107 : sizeIs Try.prog 107 1 := by unfold sizeIs; kernel_rfl
theorem t107 : tinf Try.prog 107 = some (false, 1) := by kernel_rfl
theorem u107 : Try.prog.underlying 107 = some (.bool) := by kernel_rfl
theorem z148 : sizeIs Try.prog 148 1 := by unfold sizeIs; kernel_rfl
theorem u22 : Try.prog.underlying 22 = some (.slice 3) := by kernel_rfl
theorem z3 : sizeIs Try.prog 3 1 := by unfold sizeIs; kernel_rfl
theorem t3 : tinf Try.prog 3 = some (false, 1) := by kernel_rfl
theorem el148 : ElTy Try.prog 148 107 1 1 := ⟨by kernel_rfl, by kernel_rfl⟩
theorem b112 : bodied Try.prog 112 := by unfold bodied; kernel_rfl
theorem b85 : bodied Try.prog 85 := by unfold bodied; kernel_rfl
theorem u4 : Try.prog.underlying 4 = some (.bool) := by kernel_rfl
theorem u29 : Try.prog.underlying 29 = some (.slice 22) := by kernel_rfl
theorem z22 : sizeIs Try.prog 22 1 := by unfold sizeIs; kernel_rfl
theorem t22 : tinf Try.prog 22 = some (false, 1) := by kernel_rfl
theorem el22 : ElTy Try.prog 22 3 1 8 := ⟨by kernel_rfl, by kernel_rfl⟩
theorem u3 : Try.prog.underlying 3 = some (.int .i64) := by kernel_rfl
theorem ze3 : zeroIs Try.prog 3 [(.int .i64 0)] := by unfold zeroIs; kernel_rfl
theorem zI_i64 : ∀ H, (kI .i64).reps H [.int .i64 0] 0 := fun _ => ⟨rfl, by decide⟩
theorem b135 : bodied Try.prog 135 := by unfold bodied; kernel_rfl
theorem b123 : bodied Try.prog 123 := by unfold bodied; kernel_rfl
theorem el29 : ElTy Try.prog 29 22 1 24 := ⟨by kernel_rfl, by kernel_rfl⟩
theorem b124 : bodied Try.prog 124 := by unfold bodied; kernel_rfl
theorem b47 : bodied Try.prog 47 := by unfold bodied; kernel_rfl
theorem b95 : bodied Try.prog 95 := by unfold bodied; kernel_rfl
theorem b96 : bodied Try.prog 96 := by unfold bodied; kernel_rfl
theorem b65 : bodied Try.prog 65 := by unfold bodied; kernel_rfl
theorem b63 : bodied Try.prog 63 := by unfold bodied; kernel_rfl
theorem b18 : bodied Try.prog 18 := by unfold bodied; kernel_rfl
theorem b21 : bodied Try.prog 21 := by unfold bodied; kernel_rfl
theorem b66 : bodied Try.prog 66 := by unfold bodied; kernel_rfl
theorem b15 : bodied Try.prog 15 := by unfold bodied; kernel_rfl
theorem b67 : bodied Try.prog 67 := by unfold bodied; kernel_rfl
theorem b19 : bodied Try.prog 19 := by unfold bodied; kernel_rfl
theorem b20 : bodied Try.prog 20 := by unfold bodied; kernel_rfl

theorem rule_made_1.ok {a0 : Bool} {a1 : List Bool} {r : (List Bool) × Bool} (h : rule_made_1.f a0 a1 = some r) : FnS Try.prog 112 [.d (kB.sig a0), .p 70100 0] [.box 70100 148 [.v 70101], .row 70101 107 kB a1] [70100] (.d (kB.sig r.2)) [.box 70100 148 [.v 70101], .row 70101 107 kB r.1] := by
  refine fnIntroS Try.func112 rfl (by kernel_rfl) fun X H0 w0 pv => ?_
  unfold rule_made_1.f at h
  refine wSeq ?_
  refine rg (cp (oAs cB) trivial <| .nil) (by kernel_rfl) ?_
  refine pSeq ?_
  refine wSeq ?_
  refine rg (cr (oLdN (n := 0) (k := 0) rfl rfl rfl t148 tm) (s1 rfl) <| cr (oLenR (n := 1) u148 rfl tm) (s1 rfl) <| cp (oSub tm (cI (by decide))) (s1 rfl) <| cp (oAs tm) (s1 rfl) <| .nil) (by kernel_rfl) ?_
  refine pSeq ?_
  refine wSeq ?_
  refine wWeak (Γ' := [(0, .d (kB.sig a0)), (1, .p 70100 0), (4, .d ((kI .i64).sig (IntKind.i64.wrap ((a1.length : Int) - 1))))]) ⟨rfl, rfl, rfl, trivial⟩ ?_
  refine wRen 70101 3510000 rfl ?_
  obtain ⟨o1, h, hk1⟩ := bd h
  refine wJ1 (fun x5 => x5 = o1) (fun x5 => [(1, .p 70100 0), (4, .d ((kI .i64).sig (IntKind.i64.wrap ((a1.length : Int) - 1)))), (26, .d (kB.sig x5))]) (fun x5 => [.box 70100 148 [.v 3510000], .row 3510000 107 kB a1]) ?_ ?_
  · rcases ic h with ⟨hp6, h⟩ | ⟨hp6, h⟩
    · refine rg (cp (oMv tm) (s1 rfl) <| cp (oLt rfl tm (cI (by decide))) (s1 rfl) <| cp (oMv tm) (s1 rfl) <| csB (decide_eq_true hp6) rfl rfl <| csB (decide_eq_true hp6) rfl rfl <| csB (decide_eq_true hp6) rfl rfl <| csB (decide_eq_true hp6) rfl rfl <| csB (decide_eq_true hp6) rfl rfl <| csB (decide_eq_true hp6) rfl rfl <| cp (oPkT (decide_eq_true hp6) tm cB) (s1 rfl) <| cp (oMv tm) (s1 rfl) <| csB rfl rfl rfl <| csB rfl rfl rfl <| csB rfl rfl rfl <| csB rfl rfl rfl <| csB rfl rfl rfl <| csB rfl rfl rfl <| csB rfl rfl rfl <| cp (oPkT rfl tm cB) (s1 rfl) <| .nil) (by kernel_rfl) ?_
      exact pJ1 _ (so h) ⟨rfl, rfl, rfl, trivial⟩ rfl
    · obtain ⟨y7, hy7, h⟩ := bd h
      rcases ic h with ⟨hp8, h⟩ | ⟨hp8, h⟩
      · obtain ⟨y9, hy9, h⟩ := bd h
        refine rg (cp (oMv tm) (s1 rfl) <| cp (oLt rfl tm (cI (by decide))) (s1 rfl) <| cp (oMv tm) (s1 rfl) <| crgB (decide_eq_false hp6) rfl rfl (oLdN (n := 0) (k := 0) rfl rfl rfl t148 tm) (s1 rfl) <| cgB (decide_eq_false hp6) rfl rfl (oMv tm) (s1 rfl) <| crgB (decide_eq_false hp6) rfl rfl (oIdxR (n := 1) u148 z107 rfl hy7 tm tm) (s2 rfl rfl) <| crgB (decide_eq_false hp6) rfl rfl (oLdE (n := 1) rfl hy7 rfl t107 tm) (s1 rfl) <| cgB (decide_eq_false hp6) rfl rfl (oMv tm) (s1 rfl) <| cgB (decide_eq_false hp6) rfl rfl (oBNe u107 rfl tm tm) (s2 rfl rfl) <| cp (oPkF (decide_eq_false hp6) tm tm) (s2 rfl rfl) <| cp (oMv tm) (s1 rfl) <| crgB (nf hp8) rfl rfl (oLdN (n := 0) (k := 0) rfl rfl rfl t148 tm) (s1 rfl) <| cgB (nf hp8) rfl rfl (oMv tm) (s1 rfl) <| cgB (nf hp8) rfl rfl (oSub tm (cI (by decide))) (s1 rfl) <| crgB (nf hp8) rfl rfl (oIdxR (n := 1) u148 z107 rfl hy9 tm tm) (s2 rfl rfl) <| crgB (nf hp8) rfl rfl (oLdE (n := 1) rfl hy9 rfl t107 tm) (s1 rfl) <| cgB (nf hp8) rfl rfl (oMv tm) (s1 rfl) <| cgB (nf hp8) rfl rfl (oBNe u107 rfl tm tm) (s2 rfl rfl) <| cp (oPkF (nf hp8) tm tm) (s2 rfl rfl) <| .nil) (by kernel_rfl) ?_
        exact pJ1 _ (so h) ⟨rfl, rfl, rfl, trivial⟩ rfl
      · refine rg (cp (oMv tm) (s1 rfl) <| cp (oLt rfl tm (cI (by decide))) (s1 rfl) <| cp (oMv tm) (s1 rfl) <| crgB (decide_eq_false hp6) rfl rfl (oLdN (n := 0) (k := 0) rfl rfl rfl t148 tm) (s1 rfl) <| cgB (decide_eq_false hp6) rfl rfl (oMv tm) (s1 rfl) <| crgB (decide_eq_false hp6) rfl rfl (oIdxR (n := 1) u148 z107 rfl hy7 tm tm) (s2 rfl rfl) <| crgB (decide_eq_false hp6) rfl rfl (oLdE (n := 1) rfl hy7 rfl t107 tm) (s1 rfl) <| cgB (decide_eq_false hp6) rfl rfl (oMv tm) (s1 rfl) <| cgB (decide_eq_false hp6) rfl rfl (oBNe u107 rfl tm tm) (s2 rfl rfl) <| cp (oPkF (decide_eq_false hp6) tm tm) (s2 rfl rfl) <| cp (oMv tm) (s1 rfl) <| csB (nt hp8) rfl rfl <| csB (nt hp8) rfl rfl <| csB (nt hp8) rfl rfl <| csB (nt hp8) rfl rfl <| csB (nt hp8) rfl rfl <| csB (nt hp8) rfl rfl <| csB (nt hp8) rfl rfl <| cp (oPkT (nt hp8) tm cB) (s1 rfl) <| .nil) (by kernel_rfl) ?_
        exact pJ1 _ (so h) ⟨rfl, rfl, rfl, trivial⟩ rfl
  · rintro x5 rfl
    replace h := hk1
    rcases ic h with ⟨hp10, h⟩ | ⟨hp10, h⟩
    · refine wBT hp10 tm (s1 rfl) ?_
      refine wSeq ?_
      refine rg (cp (oAs cB) trivial <| .nil) (by kernel_rfl) ?_
      refine pSeq ?_
      refine wRet ?_
      refine pThenR ?_
      obtain rfl := so h
      refine pSub (Γ' := [(3, .d (kB.sig false))]) ⟨rfl, trivial⟩ ?_
      refine pRen 3510000 70101 rfl ?_
      exact pS1 [0, 1] rfl rfl (.inl rfl) rfl (.tmp rfl <| .nil)
    · refine wBF hp10 tm (s1 rfl) ?_
      refine wSkip ?_
      refine pSeq ?_
      refine wSeq ?_
      obtain ⟨hc11, h⟩ := ib h
      refine rg (cr (oLdN (n := 0) (k := 0) rfl rfl rfl t148 tm) (s1 rfl) <| cp (oMv tm) (s1 rfl) <| cp (oSub tm (cI (by decide))) (s1 rfl) <| cw (oCutR (n := 1) (id' := 30) u148 z107 rfl hc11.1 hc11.2 tm tm) (s2 rfl rfl) <| cwn (oStN (n := 0) (m := 1) (k := 0) rfl rfl rfl rfl z148 rfl tm tm) (s2 rfl rfl) <| .nil) (by kernel_rfl) ?_
      refine pSeq ?_
      refine wSeq ?_
      refine rg (cp (oAs cB) trivial <| .nil) (by kernel_rfl) ?_
      refine pSeq ?_
      refine wRet ?_
      obtain rfl := so h
      refine pSub (Γ' := [(3, .d (kB.sig true))]) ⟨rfl, trivial⟩ ?_
      refine pRen 30 70101 rfl ?_
      exact pS1 [0, 1] rfl rfl (.inl rfl) rfl (.tmp rfl <| .nil)

theorem rule_made.ok {a0 : List Int} {r : Bool × Bool} (h : rule_made.f a0 = some r) : FnA Try.prog 85 [(kL (kI .i64)).sig a0] (tup [kB.sig r.1, kB.sig r.2]) := by
  refine fnIntro Try.func85 rfl (by kernel_rfl) fun H0 w0 => ?_
  unfold rule_made.f at h
  refine wSeq ?_
  refine rg (cp (oAs cB) trivial <| cp (oAs cB) trivial <| .nil) (by kernel_rfl) ?_
  refine pSeq ?_
  refine wSeq ?_
  refine rg (cw (oAlloc (id := 4) (ls := [.d (kN Bool) []]) ze148 (fun g => ⟨[(.slice none 0 0)], _, rfl, zN g.H, rfl⟩)) trivial <| .nil) (by kernel_rfl) ?_
  refine pSeq ?_
  refine wSeq ?_
  refine rg (cp (oMkN (ids := [4]) (caps := [none]) rfl (oNp tm oN0)) (s1 rfl) <| cp (oAs tm) (s1 rfl) <| .nil) (by kernel_rfl) ?_
  refine pSeq ?_
  refine wSeq ?_
  refine wSeq ?_
  refine rg (cp (oMv tm) (s1 rfl) <| cp (oLenL u22 tm) (s1 rfl) <| cp (oMv (cI (by decide))) trivial <| .nil) (by kernel_rfl) ?_
  refine pSeq ?_
  refine wNilL kB 107 5200 (n := 0) (k := 0) rfl rfl rfl ?_
  obtain ⟨o1, h, hk1⟩ := bd h
  refine wK1 (fun x271 => .inr x271 = o1) (fun x271 => [(0, .d ((kL (kI .i64)).sig a0)), (4, .p 4 0)]) (fun x271 => [.row 5200 107 kB x271, .box 4 148 [.v 5200]]) ?_ ?_
  · refine wBlock (wLoop ?_)
    refine lW (pc2 o1 (fun v269 v270 => [(0, .d ((kL (kI .i64)).sig a0)), (4, .p 4 0), (5, .f [4] (sCloN 112 [none])), (10, .d ((kL (kI .i64)).sig a0)), (11, .d ((kI .i64).sig (a0.length : Int))), (12, .d ((kI .i64).sig v270))]) (fun v269 v270 => [.row 5200 107 kB v269, .box 4 148 [.v 5200]]) (rule_made.l0.partial_correctness a0) ?_ _ _ h) ⟨rfl, rfl, rfl, rfl, rfl, rfl, trivial⟩ rfl
    clear h
    intro f' ih v269 v270 h
    refine wSeq ?_
    refine rg (cp (oLt rfl tm tm) (s2 rfl rfl) <| .nil) (by kernel_rfl) ?_
    refine pSeq ?_
    refine wSeq ?_
    rcases ic h with ⟨hp272, h⟩ | ⟨hp272, h⟩
    · refine wCT hp272 tm (s1 rfl) ?_
      refine wSkip ?_
      refine pSeq ?_
      obtain ⟨o2, h, hk2⟩ := bd h
      refine wJ1 (fun x339 => .inr x339 = o2) (fun x339 => [(0, .d ((kL (kI .i64)).sig a0)), (4, .p 4 0), (5, .f [4] (sCloN 112 [none])), (10, .d ((kL (kI .i64)).sig a0)), (11, .d ((kI .i64).sig (a0.length : Int))), (12, .d ((kI .i64).sig v270))]) (fun x339 => [.row 5200 107 kB x339, .box 4 148 [.v 5200]]) ?_ ?_
      · refine wBlock ?_
        refine wSeq ?_
        obtain ⟨y340, hy340, h⟩ := bd h
        refine rg (cp (oIdx u22 z3 hy340 tm tm) (s2 rfl rfl) <| cp (oLd t3 tm) (s1 rfl) <| cp (oAs tm) (s1 rfl) <| .nil) (by kernel_rfl) ?_
        refine pSeq ?_
        refine wSeq ?_
        refine rg (cp (oAs cB) trivial <| .nil) (by kernel_rfl) ?_
        refine pSeq ?_
        refine wSeq ?_
        refine wSeq ?_
        refine rg (cp (oMv tm) (s1 rfl) <| .nil) (by kernel_rfl) ?_
        refine pSeq ?_
        obtain ⟨o3, h, hk3⟩ := bd h
        refine wK2 (fun x372 x373 => (x372, x373) = o3) (fun x372 x373 => [(0, .d ((kL (kI .i64)).sig a0)), (4, .p 4 0), (5, .f [4] (sCloN 112 [none])), (8, .d (kB.sig x373)), (10, .d ((kL (kI .i64)).sig a0)), (11, .d ((kI .i64).sig (a0.length : Int))), (12, .d ((kI .i64).sig v270))]) (fun x372 x373 => [.row 5200 107 kB x372, .box 4 148 [.v 5200]]) ?_ ?_
        · refine wBlock ?_
          refine wSeq ?_
          refine wSeq ?_
          refine rg (cp (oEq rfl tm (cI (by decide))) (s1 rfl) <| cp (oAs tm) (s1 rfl) <| .nil) (by kernel_rfl) ?_
          refine pSeq ?_
          rcases ic h with ⟨hp374, h⟩ | ⟨hp374, h⟩
          · refine wCT hp374 tm (s1 rfl) ?_
            refine wSkip ?_
            refine pSeq ?_
            refine wCT hp374 tm (s1 rfl) ?_
            obtain ⟨hc375, h⟩ := ib h
            refine rg (cr (oLdN (n := 1) (k := 0) rfl rfl rfl t148 tm) (s1 rfl) <| cp (oLit (d := kB) el148 (by decide) rfl rfl rfl (e1 cB e0)) trivial <| cw (oApp (n := 0) (id' := 22) el148 (by decide) rfl (by decide) hc375 tm tm) (s2 rfl rfl) <| cwn (oStN (n := 1) (m := 0) (k := 0) rfl rfl rfl rfl z148 rfl tm tm) (s2 rfl rfl) <| .nil) (by kernel_rfl) ?_
            refine pBlkN ?_
            refine pSub (Γ' := [(0, .d ((kL (kI .i64)).sig a0)), (4, .p 4 0), (5, .f [4] (sCloN 112 [none])), (8, .d (kB.sig true)), (10, .d ((kL (kI .i64)).sig a0)), (11, .d ((kI .i64).sig (a0.length : Int))), (12, .d ((kI .i64).sig v270))]) ⟨rfl, rfl, rfl, rfl, rfl, rfl, rfl, trivial⟩ ?_
            refine pRen 22 5200 rfl ?_
            exact pJ2 _ _ (so h) ⟨rfl, rfl, rfl, rfl, rfl, rfl, rfl, trivial⟩ rfl
          · refine wCF hp374 tm (s1 rfl) ?_
            refine rg (cp (oEq rfl tm (cI (by decide))) (s1 rfl) <| cp (oAs tm) (s1 rfl) <| .nil) (by kernel_rfl) ?_
            refine pSeq ?_
            rcases ic h with ⟨hp376, h⟩ | ⟨hp376, h⟩
            · refine wCT hp376 tm (s1 rfl) ?_
              obtain ⟨hc377, h⟩ := ib h
              refine rg (cr (oLdN (n := 1) (k := 0) rfl rfl rfl t148 tm) (s1 rfl) <| cp (oLit (d := kB) el148 (by decide) rfl rfl rfl (e1 cB e0)) trivial <| cw (oApp (n := 0) (id' := 22) el148 (by decide) rfl (by decide) hc377 tm tm) (s2 rfl rfl) <| cwn (oStN (n := 1) (m := 0) (k := 0) rfl rfl rfl rfl z148 rfl tm tm) (s2 rfl rfl) <| .nil) (by kernel_rfl) ?_
              refine pBlkN ?_
              refine pSub (Γ' := [(0, .d ((kL (kI .i64)).sig a0)), (4, .p 4 0), (5, .f [4] (sCloN 112 [none])), (8, .d (kB.sig true)), (10, .d ((kL (kI .i64)).sig a0)), (11, .d ((kI .i64).sig (a0.length : Int))), (12, .d ((kI .i64).sig v270))]) ⟨rfl, rfl, rfl, rfl, rfl, rfl, rfl, trivial⟩ ?_
              refine pRen 22 5200 rfl ?_
              exact pJ2 _ _ (so h) ⟨rfl, rfl, rfl, rfl, rfl, rfl, rfl, trivial⟩ rfl
            · refine wCF hp376 tm (s1 rfl) ?_
              refine wSeq ?_
              refine wSeq ?_
              refine rg (cp (oEq rfl tm (cI (by decide))) (s1 rfl) <| cp (oAs tm) (s1 rfl) <| .nil) (by kernel_rfl) ?_
              refine pSeq ?_
              rcases ic h with ⟨hp378, h⟩ | ⟨hp378, h⟩
              · refine wCT hp378 tm (s1 rfl) ?_
                refine wSkip ?_
                refine pSeq ?_
                refine wCT hp378 tm (s1 rfl) ?_
                obtain ⟨hc379, h⟩ := ib h
                refine rg (cr (oLdN (n := 1) (k := 0) rfl rfl rfl t148 tm) (s1 rfl) <| cp (oLit (d := kB) el148 (by decide) rfl rfl rfl (e1 cB e0)) trivial <| cw (oApp (n := 0) (id' := 32) el148 (by decide) rfl (by decide) hc379 tm tm) (s2 rfl rfl) <| cwn (oStN (n := 1) (m := 0) (k := 0) rfl rfl rfl rfl z148 rfl tm tm) (s2 rfl rfl) <| .nil) (by kernel_rfl) ?_
                refine pBlkN ?_
                refine pSub (Γ' := [(0, .d ((kL (kI .i64)).sig a0)), (4, .p 4 0), (5, .f [4] (sCloN 112 [none])), (8, .d (kB.sig true)), (10, .d ((kL (kI .i64)).sig a0)), (11, .d ((kI .i64).sig (a0.length : Int))), (12, .d ((kI .i64).sig v270))]) ⟨rfl, rfl, rfl, rfl, rfl, rfl, rfl, trivial⟩ ?_
                refine pRen 32 5200 rfl ?_
                exact pJ2 _ _ (so h) ⟨rfl, rfl, rfl, rfl, rfl, rfl, rfl, trivial⟩ rfl
              · refine wCF hp378 tm (s1 rfl) ?_
                refine wSeq ?_
                refine rg (cp (oEq rfl tm (cI (by decide))) (s1 rfl) <| cp (oAs tm) (s1 rfl) <| .nil) (by kernel_rfl) ?_
                refine pSeq ?_
                rcases ic h with ⟨hp380, h⟩ | ⟨hp380, h⟩
                · refine wCT hp380 tm (s1 rfl) ?_
                  refine wSkip ?_
                  refine pSeq ?_
                  refine wCT hp380 tm (s1 rfl) ?_
                  obtain ⟨hc381, h⟩ := ib h
                  refine rg (cr (oLdN (n := 1) (k := 0) rfl rfl rfl t148 tm) (s1 rfl) <| cp (oLit (d := kB) el148 (by decide) rfl rfl rfl (e1 cB e0)) trivial <| cw (oApp (n := 0) (id' := 32) el148 (by decide) rfl (by decide) hc381 tm tm) (s2 rfl rfl) <| cwn (oStN (n := 1) (m := 0) (k := 0) rfl rfl rfl rfl z148 rfl tm tm) (s2 rfl rfl) <| .nil) (by kernel_rfl) ?_
                  refine pBlkN ?_
                  refine pSub (Γ' := [(0, .d ((kL (kI .i64)).sig a0)), (4, .p 4 0), (5, .f [4] (sCloN 112 [none])), (8, .d (kB.sig true)), (10, .d ((kL (kI .i64)).sig a0)), (11, .d ((kI .i64).sig (a0.length : Int))), (12, .d ((kI .i64).sig v270))]) ⟨rfl, rfl, rfl, rfl, rfl, rfl, rfl, trivial⟩ ?_
                  refine pRen 32 5200 rfl ?_
                  exact pJ2 _ _ (so h) ⟨rfl, rfl, rfl, rfl, rfl, rfl, rfl, trivial⟩ rfl
                · refine wCF hp380 tm (s1 rfl) ?_
                  refine wSeq ?_
                  refine rg (cp (oEq rfl tm (cI (by decide))) (s1 rfl) <| cp (oAs tm) (s1 rfl) <| .nil) (by kernel_rfl) ?_
                  refine pSeq ?_
                  rcases ic h with ⟨hp382, h⟩ | ⟨hp382, h⟩
                  · refine wCT hp382 tm (s1 rfl) ?_
                    refine wSkip ?_
                    refine pSeq ?_
                    refine wCT hp382 tm (s1 rfl) ?_
                    obtain ⟨hc383, h⟩ := ib h
                    refine rg (cr (oLdN (n := 1) (k := 0) rfl rfl rfl t148 tm) (s1 rfl) <| cp (oLit (d := kB) el148 (by decide) rfl rfl rfl (e1 cB e0)) trivial <| cw (oApp (n := 0) (id' := 32) el148 (by decide) rfl (by decide) hc383 tm tm) (s2 rfl rfl) <| cwn (oStN (n := 1) (m := 0) (k := 0) rfl rfl rfl rfl z148 rfl tm tm) (s2 rfl rfl) <| .nil) (by kernel_rfl) ?_
                    refine pBlkN ?_
                    refine pSub (Γ' := [(0, .d ((kL (kI .i64)).sig a0)), (4, .p 4 0), (5, .f [4] (sCloN 112 [none])), (8, .d (kB.sig true)), (10, .d ((kL (kI .i64)).sig a0)), (11, .d ((kI .i64).sig (a0.length : Int))), (12, .d ((kI .i64).sig v270))]) ⟨rfl, rfl, rfl, rfl, rfl, rfl, rfl, trivial⟩ ?_
                    refine pRen 32 5200 rfl ?_
                    exact pJ2 _ _ (so h) ⟨rfl, rfl, rfl, rfl, rfl, rfl, rfl, trivial⟩ rfl
                  · refine wCF hp382 tm (s1 rfl) ?_
                    refine wSeq ?_
                    refine rg (cp (oEq rfl tm (cI (by decide))) (s1 rfl) <| cp (oAs tm) (s1 rfl) <| .nil) (by kernel_rfl) ?_
                    refine pSeq ?_
                    rcases ic h with ⟨hp384, h⟩ | ⟨hp384, h⟩
                    · refine wCT hp384 tm (s1 rfl) ?_
                      refine wSkip ?_
                      refine pSeq ?_
                      refine wCT hp384 tm (s1 rfl) ?_
                      obtain ⟨hc385, h⟩ := ib h
                      refine rg (cr (oLdN (n := 1) (k := 0) rfl rfl rfl t148 tm) (s1 rfl) <| cp (oLit (d := kB) el148 (by decide) rfl rfl rfl (e1 cB e0)) trivial <| cw (oApp (n := 0) (id' := 32) el148 (by decide) rfl (by decide) hc385 tm tm) (s2 rfl rfl) <| cwn (oStN (n := 1) (m := 0) (k := 0) rfl rfl rfl rfl z148 rfl tm tm) (s2 rfl rfl) <| .nil) (by kernel_rfl) ?_
                      refine pBlkN ?_
                      refine pSub (Γ' := [(0, .d ((kL (kI .i64)).sig a0)), (4, .p 4 0), (5, .f [4] (sCloN 112 [none])), (8, .d (kB.sig true)), (10, .d ((kL (kI .i64)).sig a0)), (11, .d ((kI .i64).sig (a0.length : Int))), (12, .d ((kI .i64).sig v270))]) ⟨rfl, rfl, rfl, rfl, rfl, rfl, rfl, trivial⟩ ?_
                      refine pRen 32 5200 rfl ?_
                      exact pJ2 _ _ (so h) ⟨rfl, rfl, rfl, rfl, rfl, rfl, rfl, trivial⟩ rfl
                    · refine wCF hp384 tm (s1 rfl) ?_
                      refine wSeq ?_
                      refine rg (cp (oEq rfl tm (cI (by decide))) (s1 rfl) <| cp (oAs tm) (s1 rfl) <| .nil) (by kernel_rfl) ?_
                      refine pSeq ?_
                      rcases ic h with ⟨hp386, h⟩ | ⟨hp386, h⟩
                      · refine wCT hp386 tm (s1 rfl) ?_
                        refine wSkip ?_
                        refine pSeq ?_
                        refine wCT hp386 tm (s1 rfl) ?_
                        obtain ⟨hc387, h⟩ := ib h
                        refine rg (cr (oLdN (n := 1) (k := 0) rfl rfl rfl t148 tm) (s1 rfl) <| cp (oLit (d := kB) el148 (by decide) rfl rfl rfl (e1 cB e0)) trivial <| cw (oApp (n := 0) (id' := 32) el148 (by decide) rfl (by decide) hc387 tm tm) (s2 rfl rfl) <| cwn (oStN (n := 1) (m := 0) (k := 0) rfl rfl rfl rfl z148 rfl tm tm) (s2 rfl rfl) <| .nil) (by kernel_rfl) ?_
                        refine pBlkN ?_
                        refine pSub (Γ' := [(0, .d ((kL (kI .i64)).sig a0)), (4, .p 4 0), (5, .f [4] (sCloN 112 [none])), (8, .d (kB.sig true)), (10, .d ((kL (kI .i64)).sig a0)), (11, .d ((kI .i64).sig (a0.length : Int))), (12, .d ((kI .i64).sig v270))]) ⟨rfl, rfl, rfl, rfl, rfl, rfl, rfl, trivial⟩ ?_
                        refine pRen 32 5200 rfl ?_
                        exact pJ2 _ _ (so h) ⟨rfl, rfl, rfl, rfl, rfl, rfl, rfl, trivial⟩ rfl
                      · refine wCF hp386 tm (s1 rfl) ?_
                        refine rg (cp (oEq rfl tm (cI (by decide))) (s1 rfl) <| cp (oAs tm) (s1 rfl) <| .nil) (by kernel_rfl) ?_
                        refine pSeq ?_
                        rcases ic h with ⟨hp388, h⟩ | ⟨hp388, h⟩
                        · refine wCT hp388 tm (s1 rfl) ?_
                          obtain ⟨hc389, h⟩ := ib h
                          refine rg (cr (oLdN (n := 1) (k := 0) rfl rfl rfl t148 tm) (s1 rfl) <| cp (oLit (d := kB) el148 (by decide) rfl rfl rfl (e1 cB e0)) trivial <| cw (oApp (n := 0) (id' := 32) el148 (by decide) rfl (by decide) hc389 tm tm) (s2 rfl rfl) <| cwn (oStN (n := 1) (m := 0) (k := 0) rfl rfl rfl rfl z148 rfl tm tm) (s2 rfl rfl) <| .nil) (by kernel_rfl) ?_
                          refine pBlkN ?_
                          refine pSub (Γ' := [(0, .d ((kL (kI .i64)).sig a0)), (4, .p 4 0), (5, .f [4] (sCloN 112 [none])), (8, .d (kB.sig true)), (10, .d ((kL (kI .i64)).sig a0)), (11, .d ((kI .i64).sig (a0.length : Int))), (12, .d ((kI .i64).sig v270))]) ⟨rfl, rfl, rfl, rfl, rfl, rfl, rfl, trivial⟩ ?_
                          refine pRen 32 5200 rfl ?_
                          exact pJ2 _ _ (so h) ⟨rfl, rfl, rfl, rfl, rfl, rfl, rfl, trivial⟩ rfl
                        · refine wCF hp388 tm (s1 rfl) ?_
                          refine wSeq ?_
                          refine wSeq ?_
                          refine rg (cp (oEq rfl tm (cI (by decide))) (s1 rfl) <| cp (oAs tm) (s1 rfl) <| .nil) (by kernel_rfl) ?_
                          refine pSeq ?_
                          rcases ic h with ⟨hp390, h⟩ | ⟨hp390, h⟩
                          · refine wCT hp390 tm (s1 rfl) ?_
                            refine wSkip ?_
                            refine pSeq ?_
                            refine wCT hp390 tm (s1 rfl) ?_
                            refine wSeq ?_
                            obtain ⟨y391, hy391, h⟩ := bd h
                            refine rg (cp (oMv tm) (s1 rfl) <| cm (oCallN (ins := [.d (kB.sig false)]) (caps := [none]) (kn := [70100]) (rest := []) (R' := [.row 510040 107 kB y391.1, .box 4 148 [.v 510040]]) (out' := .d (kB.sig y391.2)) [(70100, 4), (70101, 5200)] [(70101, 510040)] [1, 0] [] [1, 0] rfl tm (rule_made_1.ok hy391) rfl b112 (oE1 cB oE0) rfl rfl rfl rfl rfl rfl rfl rfl) (s1 rfl) <| cp (oAs tm) (s1 rfl) <| .nil) (by kernel_rfl) ?_
                            refine pSeq ?_
                            obtain ⟨hc392, h⟩ := ib h
                            refine rg (cr (oLdN (n := 1) (k := 0) rfl rfl rfl t148 tm) (s1 rfl) <| cp (oLit (d := kB) el148 (by decide) rfl rfl rfl (e1 cB e0)) trivial <| cw (oApp (n := 0) (id' := 40) el148 (by decide) rfl (by decide) hc392 tm tm) (s2 rfl rfl) <| cwn (oStN (n := 1) (m := 0) (k := 0) rfl rfl rfl rfl z148 rfl tm tm) (s2 rfl rfl) <| .nil) (by kernel_rfl) ?_
                            refine pBlkN ?_
                            refine pSub (Γ' := [(0, .d ((kL (kI .i64)).sig a0)), (4, .p 4 0), (5, .f [4] (sCloN 112 [none])), (8, .d (kB.sig y391.2)), (10, .d ((kL (kI .i64)).sig a0)), (11, .d ((kI .i64).sig (a0.length : Int))), (12, .d ((kI .i64).sig v270))]) ⟨rfl, rfl, rfl, rfl, rfl, rfl, rfl, trivial⟩ ?_
                            refine pRen 40 5200 rfl ?_
                            exact pJ2 _ _ (so h) ⟨rfl, rfl, rfl, rfl, rfl, rfl, rfl, trivial⟩ rfl
                          · refine wCF hp390 tm (s1 rfl) ?_
                            refine rg (cp (oEq rfl tm (cI (by decide))) (s1 rfl) <| cp (oAs tm) (s1 rfl) <| .nil) (by kernel_rfl) ?_
                            refine pSeq ?_
                            rcases ic h with ⟨hp393, h⟩ | ⟨hp393, h⟩
                            · refine wCT hp393 tm (s1 rfl) ?_
                              refine wSeq ?_
                              obtain ⟨y394, hy394, h⟩ := bd h
                              refine rg (cp (oMv tm) (s1 rfl) <| cm (oCallN (ins := [.d (kB.sig false)]) (caps := [none]) (kn := [70100]) (rest := []) (R' := [.row 510040 107 kB y394.1, .box 4 148 [.v 510040]]) (out' := .d (kB.sig y394.2)) [(70100, 4), (70101, 5200)] [(70101, 510040)] [1, 0] [] [1, 0] rfl tm (rule_made_1.ok hy394) rfl b112 (oE1 cB oE0) rfl rfl rfl rfl rfl rfl rfl rfl) (s1 rfl) <| cp (oAs tm) (s1 rfl) <| .nil) (by kernel_rfl) ?_
                              refine pSeq ?_
                              obtain ⟨hc395, h⟩ := ib h
                              refine rg (cr (oLdN (n := 1) (k := 0) rfl rfl rfl t148 tm) (s1 rfl) <| cp (oLit (d := kB) el148 (by decide) rfl rfl rfl (e1 cB e0)) trivial <| cw (oApp (n := 0) (id' := 40) el148 (by decide) rfl (by decide) hc395 tm tm) (s2 rfl rfl) <| cwn (oStN (n := 1) (m := 0) (k := 0) rfl rfl rfl rfl z148 rfl tm tm) (s2 rfl rfl) <| .nil) (by kernel_rfl) ?_
                              refine pBlkN ?_
                              refine pSub (Γ' := [(0, .d ((kL (kI .i64)).sig a0)), (4, .p 4 0), (5, .f [4] (sCloN 112 [none])), (8, .d (kB.sig y394.2)), (10, .d ((kL (kI .i64)).sig a0)), (11, .d ((kI .i64).sig (a0.length : Int))), (12, .d ((kI .i64).sig v270))]) ⟨rfl, rfl, rfl, rfl, rfl, rfl, rfl, trivial⟩ ?_
                              refine pRen 40 5200 rfl ?_
                              exact pJ2 _ _ (so h) ⟨rfl, rfl, rfl, rfl, rfl, rfl, rfl, trivial⟩ rfl
                            · refine wCF hp393 tm (s1 rfl) ?_
                              refine wSeq ?_
                              refine rg (cp (oEq rfl tm (cI (by decide))) (s1 rfl) <| cp (oAs tm) (s1 rfl) <| .nil) (by kernel_rfl) ?_
                              refine pSeq ?_
                              rcases ic h with ⟨hp396, h⟩ | ⟨hp396, h⟩
                              · refine wCT hp396 tm (s1 rfl) ?_
                                refine wSeq ?_
                                obtain ⟨y397, hy397, h⟩ := bd h
                                refine rg (cp (oMv tm) (s1 rfl) <| cm (oCallN (ins := [.d (kB.sig true)]) (caps := [none]) (kn := [70100]) (rest := []) (R' := [.row 540040 107 kB y397.1, .box 4 148 [.v 540040]]) (out' := .d (kB.sig y397.2)) [(70100, 4), (70101, 5200)] [(70101, 540040)] [1, 0] [] [1, 0] rfl tm (rule_made_1.ok hy397) rfl b112 (oE1 cB oE0) rfl rfl rfl rfl rfl rfl rfl rfl) (s1 rfl) <| cp (oAs tm) (s1 rfl) <| .nil) (by kernel_rfl) ?_
                                refine pSeq ?_
                                obtain ⟨hc398, h⟩ := ib h
                                refine rg (cr (oLdN (n := 1) (k := 0) rfl rfl rfl t148 tm) (s1 rfl) <| cp (oLit (d := kB) el148 (by decide) rfl rfl rfl (e1 cB e0)) trivial <| cw (oApp (n := 0) (id' := 47) el148 (by decide) rfl (by decide) hc398 tm tm) (s2 rfl rfl) <| cwn (oStN (n := 1) (m := 0) (k := 0) rfl rfl rfl rfl z148 rfl tm tm) (s2 rfl rfl) <| .nil) (by kernel_rfl) ?_
                                refine pBlkN ?_
                                refine pSub (Γ' := [(0, .d ((kL (kI .i64)).sig a0)), (4, .p 4 0), (5, .f [4] (sCloN 112 [none])), (8, .d (kB.sig y397.2)), (10, .d ((kL (kI .i64)).sig a0)), (11, .d ((kI .i64).sig (a0.length : Int))), (12, .d ((kI .i64).sig v270))]) ⟨rfl, rfl, rfl, rfl, rfl, rfl, rfl, trivial⟩ ?_
                                refine pRen 47 5200 rfl ?_
                                exact pJ2 _ _ (so h) ⟨rfl, rfl, rfl, rfl, rfl, rfl, rfl, trivial⟩ rfl
                              · refine wCF hp396 tm (s1 rfl) ?_
                                refine wSeq ?_
                                refine wSeq ?_
                                refine rg (cp (oEq rfl tm (cI (by decide))) (s1 rfl) <| cp (oAs tm) (s1 rfl) <| .nil) (by kernel_rfl) ?_
                                refine pSeq ?_
                                rcases ic h with ⟨hp399, h⟩ | ⟨hp399, h⟩
                                · refine wCT hp399 tm (s1 rfl) ?_
                                  refine wSkip ?_
                                  refine pSeq ?_
                                  refine wCT hp399 tm (s1 rfl) ?_
                                  refine wSeq ?_
                                  obtain ⟨y400, hy400, h⟩ := bd h
                                  refine rg (cp (oMv tm) (s1 rfl) <| cm (oCallN (ins := [.d (kB.sig true)]) (caps := [none]) (kn := [70100]) (rest := []) (R' := [.row 580040 107 kB y400.1, .box 4 148 [.v 580040]]) (out' := .d (kB.sig y400.2)) [(70100, 4), (70101, 5200)] [(70101, 580040)] [1, 0] [] [1, 0] rfl tm (rule_made_1.ok hy400) rfl b112 (oE1 cB oE0) rfl rfl rfl rfl rfl rfl rfl rfl) (s1 rfl) <| cp (oAs tm) (s1 rfl) <| .nil) (by kernel_rfl) ?_
                                  refine pSeq ?_
                                  obtain ⟨hc401, h⟩ := ib h
                                  refine rg (cr (oLdN (n := 1) (k := 0) rfl rfl rfl t148 tm) (s1 rfl) <| cp (oLit (d := kB) el148 (by decide) rfl rfl rfl (e1 cB e0)) trivial <| cw (oApp (n := 0) (id' := 55) el148 (by decide) rfl (by decide) hc401 tm tm) (s2 rfl rfl) <| cwn (oStN (n := 1) (m := 0) (k := 0) rfl rfl rfl rfl z148 rfl tm tm) (s2 rfl rfl) <| .nil) (by kernel_rfl) ?_
                                  refine pBlkN ?_
                                  refine pSub (Γ' := [(0, .d ((kL (kI .i64)).sig a0)), (4, .p 4 0), (5, .f [4] (sCloN 112 [none])), (8, .d (kB.sig y400.2)), (10, .d ((kL (kI .i64)).sig a0)), (11, .d ((kI .i64).sig (a0.length : Int))), (12, .d ((kI .i64).sig v270))]) ⟨rfl, rfl, rfl, rfl, rfl, rfl, rfl, trivial⟩ ?_
                                  refine pRen 55 5200 rfl ?_
                                  exact pJ2 _ _ (so h) ⟨rfl, rfl, rfl, rfl, rfl, rfl, rfl, trivial⟩ rfl
                                · refine wCF hp399 tm (s1 rfl) ?_
                                  refine rg (cp (oEq rfl tm (cI (by decide))) (s1 rfl) <| cp (oAs tm) (s1 rfl) <| .nil) (by kernel_rfl) ?_
                                  refine pSeq ?_
                                  rcases ic h with ⟨hp402, h⟩ | ⟨hp402, h⟩
                                  · refine wCT hp402 tm (s1 rfl) ?_
                                    refine wSeq ?_
                                    obtain ⟨y403, hy403, h⟩ := bd h
                                    refine rg (cp (oMv tm) (s1 rfl) <| cm (oCallN (ins := [.d (kB.sig true)]) (caps := [none]) (kn := [70100]) (rest := []) (R' := [.row 580040 107 kB y403.1, .box 4 148 [.v 580040]]) (out' := .d (kB.sig y403.2)) [(70100, 4), (70101, 5200)] [(70101, 580040)] [1, 0] [] [1, 0] rfl tm (rule_made_1.ok hy403) rfl b112 (oE1 cB oE0) rfl rfl rfl rfl rfl rfl rfl rfl) (s1 rfl) <| cp (oAs tm) (s1 rfl) <| .nil) (by kernel_rfl) ?_
                                    refine pSeq ?_
                                    obtain ⟨hc404, h⟩ := ib h
                                    refine rg (cr (oLdN (n := 1) (k := 0) rfl rfl rfl t148 tm) (s1 rfl) <| cp (oLit (d := kB) el148 (by decide) rfl rfl rfl (e1 cB e0)) trivial <| cw (oApp (n := 0) (id' := 55) el148 (by decide) rfl (by decide) hc404 tm tm) (s2 rfl rfl) <| cwn (oStN (n := 1) (m := 0) (k := 0) rfl rfl rfl rfl z148 rfl tm tm) (s2 rfl rfl) <| .nil) (by kernel_rfl) ?_
                                    refine pBlkN ?_
                                    refine pSub (Γ' := [(0, .d ((kL (kI .i64)).sig a0)), (4, .p 4 0), (5, .f [4] (sCloN 112 [none])), (8, .d (kB.sig y403.2)), (10, .d ((kL (kI .i64)).sig a0)), (11, .d ((kI .i64).sig (a0.length : Int))), (12, .d ((kI .i64).sig v270))]) ⟨rfl, rfl, rfl, rfl, rfl, rfl, rfl, trivial⟩ ?_
                                    refine pRen 55 5200 rfl ?_
                                    exact pJ2 _ _ (so h) ⟨rfl, rfl, rfl, rfl, rfl, rfl, rfl, trivial⟩ rfl
                                  · refine wCF hp402 tm (s1 rfl) ?_
                                    refine rg (cp (oAs cB) trivial <| .nil) (by kernel_rfl) ?_
                                    refine pBlkN ?_
                                    exact pJ2 _ _ (so h) ⟨rfl, rfl, rfl, rfl, rfl, rfl, rfl, trivial⟩ rfl
        · rintro x372 x373 rfl
          replace h := hk3
          refine pSeq ?_
          refine wSeq ?_
          refine rg (cp (oMv tm) (s1 rfl) <| cp (oNot tm) (s1 rfl) <| .nil) (by kernel_rfl) ?_
          refine pSeq ?_
          rcases ic h with ⟨hp405, h⟩ | ⟨hp405, h⟩
          · refine wBT hp405 tm (s1 rfl) ?_
            refine wSeq ?_
            refine rg (cp (oAs cB) trivial <| cp (oAs cB) trivial <| .nil) (by kernel_rfl) ?_
            refine pSeq ?_
            refine wRet ?_
            refine pBlkR ?_
            refine pThenR ?_
            obtain rfl := so h
            replace h := hk2
            refine pThenR ?_
            refine pBlkR ?_
            refine pThenR ?_
            obtain rfl := so h
            replace h := hk1
            refine pThenR ?_
            obtain rfl := so h
            exact pRn (.inl rfl) rfl rfl (.tmp rfl <| .tmp rfl <| .nil)
          · refine wBF hp405 tm (s1 rfl) ?_
            refine wSkip ?_
            refine pBlkN ?_
            exact pJ1 _ (so h) ⟨rfl, rfl, rfl, rfl, rfl, rfl, trivial⟩ rfl
      · rintro x339 rfl
        replace h := hk2
        refine rg (cp (oAdd tm (cI (by decide))) (s1 rfl) <| cp (oMv tm) (s1 rfl) <| .nil) (by kernel_rfl) ?_
        exact pLoop (lW (ih _ _ h) ⟨rfl, rfl, rfl, rfl, rfl, rfl, trivial⟩ rfl)
    · refine wCF hp272 tm (s1 rfl) ?_
      refine wExit ?_
      refine pThenX ?_
      refine pThenX ?_
      refine pBlkX ?_
      exact pJ1 _ (so h) ⟨rfl, rfl, trivial⟩ rfl
  · rintro x271 rfl
    replace h := hk1
    refine pSeq ?_
    refine wSeq ?_
    obtain ⟨o1, h, hk1⟩ := bd h
    refine wJ1 (fun x407 => x407 = o1) (fun x407 => [(4, .p 4 0), (66, .d (kB.sig x407))]) (fun x407 => [.row 5200 107 kB x271, .box 4 148 [.v 5200]]) ?_ ?_
    · rcases ic h with ⟨hp408, h⟩ | ⟨hp408, h⟩
      · refine rg (cr (oLdN (n := 1) (k := 0) rfl rfl rfl t148 tm) (s1 rfl) <| cr (oLenR (n := 0) u148 rfl tm) (s1 rfl) <| cp (oNe rfl tm (cI (by decide))) (s1 rfl) <| cp (oMv tm) (s1 rfl) <| cgB (nf hp408) rfl rfl (oMv tm) (s1 rfl) <| cgB (nf hp408) rfl rfl (oLenL u22 tm) (s1 rfl) <| cgB (nf hp408) rfl rfl (oGt rfl tm (cI (by decide))) (s1 rfl) <| cp (oPkF (nf hp408) tm tm) (s2 rfl rfl) <| .nil) (by kernel_rfl) ?_
        exact pJ1 _ (so h) ⟨rfl, rfl, trivial⟩ rfl
      · refine rg (cr (oLdN (n := 1) (k := 0) rfl rfl rfl t148 tm) (s1 rfl) <| cr (oLenR (n := 0) u148 rfl tm) (s1 rfl) <| cp (oNe rfl tm (cI (by decide))) (s1 rfl) <| cp (oMv tm) (s1 rfl) <| csB (nt hp408) rfl rfl <| csB (nt hp408) rfl rfl <| csB (nt hp408) rfl rfl <| cp (oPkT (nt hp408) tm cB) (s1 rfl) <| .nil) (by kernel_rfl) ?_
        exact pJ1 _ (so h) ⟨rfl, rfl, trivial⟩ rfl
    · rintro x407 rfl
      replace h := hk1
      rcases ic h with ⟨hp409, h⟩ | ⟨hp409, h⟩
      · refine wBT hp409 tm (s1 rfl) ?_
        refine wSeq ?_
        refine rg (cp (oAs cB) trivial <| cp (oAs cB) trivial <| .nil) (by kernel_rfl) ?_
        refine pSeq ?_
        refine wRet ?_
        refine pThenR ?_
        obtain rfl := so h
        exact pRn (.inl rfl) rfl rfl (.tmp rfl <| .tmp rfl <| .nil)
      · refine wBF hp409 tm (s1 rfl) ?_
        refine wSkip ?_
        refine pSeq ?_
        refine wSeq ?_
        obtain ⟨y410, hy410, h⟩ := bd h
        refine rg (cr (oLdN (n := 1) (k := 0) rfl rfl rfl t148 tm) (s1 rfl) <| cr (oIdxR (n := 0) u148 z107 rfl hy410 tm (cI (by decide))) (s1 rfl) <| cr (oLdE (n := 0) rfl hy410 rfl t107 tm) (s1 rfl) <| cp (oAs tm) (s1 rfl) <| cp (oAs cB) trivial <| .nil) (by kernel_rfl) ?_
        refine pSeq ?_
        refine wRet ?_
        obtain rfl := so h
        exact pRn (.inl rfl) rfl rfl (.tmp rfl <| .tmp rfl <| .nil)

theorem rule_Right.ok {a0 : List Int} {a1 : Bool} {r : Bool} (h : rule_Right.f a0 a1 = some r) : FnA Try.prog 47 [(kL (kI .i64)).sig a0, kB.sig a1] (kB.sig r) := by
  refine fnIntro Try.func47 rfl (by kernel_rfl) fun H0 w0 => ?_
  unfold rule_Right.f at h
  refine wSeq ?_
  refine rg (cp (oAs cB) trivial <| .nil) (by kernel_rfl) ?_
  refine pSeq ?_
  refine wSeq ?_
  obtain ⟨y1, hy1, h⟩ := bd h
  refine rg (cp (oMv tm) (s1 rfl) <| cp (oCall rfl (rule_made.ok hy1) b85 (opds_cons tm opds_nil)) (s1 rfl) <| cp (oMv tm) (s1 rfl) <| cp (oExt (k := 0) rfl tm) (s1 rfl) <| cp (oExt (k := 1) rfl tm) (s1 rfl) <| cp (oAs tm) (s1 rfl) <| cp (oAs tm) (s1 rfl) <| .nil) (by kernel_rfl) ?_
  refine pSeq ?_
  obtain ⟨o1, h, hk1⟩ := bd h
  refine wJ1 (fun x3 => x3 = o1) (fun x3 => [(4, .d (kB.sig x3))]) (fun x3 => []) ?_ ?_
  · rcases ic h with ⟨hp4, h⟩ | ⟨hp4, h⟩
    · refine rg (cp (oMv tm) (s1 rfl) <| cp (oMv tm) (s1 rfl) <| cgB hp4 rfl rfl (oMv tm) (s1 rfl) <| cgB hp4 rfl rfl (oMv tm) (s1 rfl) <| cgB hp4 rfl rfl (oBEq u4 rfl tm tm) (s2 rfl rfl) <| cp (oPkT hp4 tm tm) (s2 rfl rfl) <| cp (oAs tm) (s1 rfl) <| .nil) (by kernel_rfl) ?_
      exact pJ1 _ (so h) ⟨rfl, trivial⟩ rfl
    · refine rg (cp (oMv tm) (s1 rfl) <| cp (oMv tm) (s1 rfl) <| csB (nb hp4) rfl rfl <| csB (nb hp4) rfl rfl <| csB (nb hp4) rfl rfl <| cp (oPkF (nb hp4) tm cB) (s1 rfl) <| cp (oAs tm) (s1 rfl) <| .nil) (by kernel_rfl) ?_
      exact pJ1 _ (so h) ⟨rfl, trivial⟩ rfl
  · rintro x3 rfl
    replace h := hk1
    refine wRet ?_
    obtain rfl := so h
    exact pR1 (.inl rfl) rfl (.tmp rfl <| .nil)

theorem slices_Equal_int_int.ok {a0 : List Int} {a1 : List Int} {r : Bool} (h : slices_Equal_int_int.f a0 a1 = some r) : FnA Try.prog 95 [(kL (kI .i64)).sig a0, (kL (kI .i64)).sig a1] (kB.sig r) := by
  refine fnIntro Try.func95 rfl (by kernel_rfl) fun H0 w0 => ?_
  unfold slices_Equal_int_int.f at h
  refine wSeq ?_
  refine rg (cp (oAs cB) trivial <| .nil) (by kernel_rfl) ?_
  refine pSeq ?_
  refine wSeq ?_
  refine wSeq ?_
  refine rg (cp (oMv tm) (s1 rfl) <| cp (oLenL u22 tm) (s1 rfl) <| cp (oMv tm) (s1 rfl) <| cp (oLenL u22 tm) (s1 rfl) <| cp (oNe rfl tm tm) (s2 rfl rfl) <| .nil) (by kernel_rfl) ?_
  refine pSeq ?_
  rcases ic h with ⟨hp1, h⟩ | ⟨hp1, h⟩
  · refine wNT hp1 tm (s1 rfl) ?_
    refine wSkip ?_
    refine pSeq ?_
    refine wSeq ?_
    refine wSeq ?_
    refine rg (cp (oMv tm) (s1 rfl) <| cp (oLenL u22 tm) (s1 rfl) <| cp (oMv (cI (by decide))) trivial <| .nil) (by kernel_rfl) ?_
    refine pSeq ?_
    obtain ⟨o1, h, hk1⟩ := bd h
    refine wK0 (.inr () = o1) ([]) ([]) ?_ ?_
    · refine wBlock (wLoop ?_)
      refine lW (pc1 o1 (fun v10 => [(0, .d ((kL (kI .i64)).sig a0)), (1, .d ((kL (kI .i64)).sig a1)), (12, .d ((kI .i64).sig (a0.length : Int))), (13, .d ((kI .i64).sig v10))]) (fun v10 => []) (slices_Equal_int_int.l0.partial_correctness a0 a1) ?_ _ h) ⟨rfl, rfl, rfl, rfl, trivial⟩ rfl
      clear h
      intro f' ih v10 h
      refine wSeq ?_
      refine rg (cp (oLt rfl tm tm) (s2 rfl rfl) <| .nil) (by kernel_rfl) ?_
      refine pSeq ?_
      refine wSeq ?_
      rcases ic h with ⟨hp11, h⟩ | ⟨hp11, h⟩
      · refine wCT hp11 tm (s1 rfl) ?_
        refine wSkip ?_
        refine pSeq ?_
        refine wSeq ?_
        refine wBlock ?_
        refine wSeq ?_
        refine rg (cp (oMv tm) (s1 rfl) <| cp (oAs tm) (s1 rfl) <| .nil) (by kernel_rfl) ?_
        refine pSeq ?_
        refine wSeq ?_
        obtain ⟨y12, hy12, h⟩ := bd h
        obtain ⟨y13, hy13, h⟩ := bd h
        refine rgD hm (cp (oMv tm) (s1 rfl) <| cp (oMv tm) (s1 rfl) <| cp (oIdx u22 z3 hy12 tm tm) (s2 rfl rfl) <| cp (oLd t3 tm) (s1 rfl) <| cp (oMv tm) (s1 rfl) <| cp (oMv tm) (s1 rfl) <| cp (oIdx u22 z3 hy13 tm tm) (s2 rfl rfl) <| cp (oLd t3 tm) (s1 rfl) <| cp (oNe rfl tm tm) (s2 rfl rfl) <| .nil) (by kernel_rfl) (by kernel_rfl) ?_
        refine pSeq ?_
        rcases ic h with ⟨hp14, h⟩ | ⟨hp14, h⟩
        · refine wNT hp14 tm (s1 rfl) ?_
          refine wSkip ?_
          refine pBlkN ?_
          refine pSeq ?_
          refine rg (cp (oAdd tm (cI (by decide))) (s1 rfl) <| cp (oMv tm) (s1 rfl) <| .nil) (by kernel_rfl) ?_
          exact pLoop (lW (ih _ h) ⟨rfl, rfl, rfl, rfl, trivial⟩ rfl)
        · refine wNF hp14 tm (s1 rfl) ?_
          refine wSeq ?_
          refine rg (cp (oAs cB) trivial <| .nil) (by kernel_rfl) ?_
          refine pSeq ?_
          refine wRet ?_
          refine pBlkR ?_
          refine pThenR ?_
          refine pThenR ?_
          refine pBlkR ?_
          refine pThenR ?_
          obtain rfl := so h
          replace h := hk1
          refine pThenR ?_
          obtain rfl := so h
          exact pR1 (.inl rfl) rfl (.tmp rfl <| .nil)
      · refine wCF hp11 tm (s1 rfl) ?_
        refine wExit ?_
        refine pThenX ?_
        refine pThenX ?_
        refine pBlkX ?_
        exact pJ0 (so h) trivial rfl
    · rintro rfl
      replace h := hk1
      refine pSeq ?_
      refine wSeq ?_
      refine rg (cp (oAs cB) trivial <| .nil) (by kernel_rfl) ?_
      refine pSeq ?_
      refine wRet ?_
      obtain rfl := so h
      exact pR1 (.inl rfl) rfl (.tmp rfl <| .nil)
  · refine wNF hp1 tm (s1 rfl) ?_
    refine wSeq ?_
    refine rg (cp (oAs cB) trivial <| .nil) (by kernel_rfl) ?_
    refine pSeq ?_
    refine wRet ?_
    refine pThenR ?_
    obtain rfl := so h
    exact pR1 (.inl rfl) rfl (.tmp rfl <| .nil)

theorem mutant_start.ok {a0 : List Int} {a1 : Int} {r : Int} (h : mutant_start.f a0 a1 = some r) : FnA Try.prog 123 [(kL (kI .i64)).sig a0, (kI .i64).sig a1] ((kI .i64).sig r) := by
  refine fnIntro Try.func123 rfl (by kernel_rfl) fun H0 w0 => ?_
  unfold mutant_start.f at h
  refine wSeq ?_
  refine rg (cp (oAs (cI (by decide))) trivial <| .nil) (by kernel_rfl) ?_
  refine pSeq ?_
  refine wSeq ?_
  refine rg (cp (oAs (cI (by decide))) trivial <| .nil) (by kernel_rfl) ?_
  refine pSeq ?_
  refine wSeq ?_
  refine rg (cp (oMv tm) (s1 rfl) <| cp (oAs tm) (s1 rfl) <| .nil) (by kernel_rfl) ?_
  refine pSeq ?_
  obtain ⟨o1, h, hk1⟩ := bd h
  refine wBlock (wLoop ?_)
  refine lW (pc2 o1 (fun v55 v56 => [(0, .d ((kL (kI .i64)).sig a0)), (5, .d ((kI .i64).sig v55)), (6, .d ((kI .i64).sig v56))]) (fun v55 v56 => []) (mutant_start.l0.partial_correctness a0) ?_ _ _ h) ⟨rfl, rfl, rfl, trivial⟩ rfl
  clear h
  intro f' ih v55 v56 h
  obtain ⟨o2, h, hk2⟩ := bd h
  refine wJ1 (fun x70 => .inr x70 = o2) (fun x70 => [(0, .d ((kL (kI .i64)).sig a0)), (5, .d ((kI .i64).sig x70)), (6, .d ((kI .i64).sig v56))]) (fun x70 => []) ?_ ?_
  · refine wBlock ?_
    refine wSeq ?_
    refine rg (cp (oMv tm) (s1 rfl) <| cp (oSub tm (cI (by decide))) (s1 rfl) <| cp (oAs tm) (s1 rfl) <| .nil) (by kernel_rfl) ?_
    refine pSeq ?_
    refine wSeq ?_
    refine wSeq ?_
    obtain ⟨y71, hy71, h⟩ := bd h
    refine rg (cp (oMv tm) (s1 rfl) <| cp (oMv tm) (s1 rfl) <| cp (oIdx u22 z3 hy71 tm tm) (s2 rfl rfl) <| cp (oLd t3 tm) (s1 rfl) <| .nil) (by kernel_rfl) ?_
    refine pSeq ?_
    obtain ⟨o3, h, hk3⟩ := bd h
    refine wK1 (fun x77 => x77 = o3) (fun x77 => [(0, .d ((kL (kI .i64)).sig a0)), (5, .d ((kI .i64).sig x77)), (6, .d ((kI .i64).sig v56))]) (fun x77 => []) ?_ ?_
    · refine wBlock ?_
      refine wSeq ?_
      refine wSeq ?_
      refine rg (cp (oEq rfl tm (cI (by decide))) (s1 rfl) <| cp (oAs tm) (s1 rfl) <| .nil) (by kernel_rfl) ?_
      refine pSeq ?_
      rcases ic h with ⟨hp78, h⟩ | ⟨hp78, h⟩
      · refine wCT hp78 tm (s1 rfl) ?_
        refine wSkip ?_
        refine pSeq ?_
        refine wCT hp78 tm (s1 rfl) ?_
        refine rg (cp (oMv tm) (s1 rfl) <| cp (oAdd tm (cI (by decide))) (s1 rfl) <| cp (oAs tm) (s1 rfl) <| .nil) (by kernel_rfl) ?_
        refine pBlkN ?_
        exact pJ1 _ (so h) ⟨rfl, rfl, rfl, trivial⟩ rfl
      · refine wCF hp78 tm (s1 rfl) ?_
        refine wSeq ?_
        refine rg (cp (oEq rfl tm (cI (by decide))) (s1 rfl) <| cp (oAs tm) (s1 rfl) <| .nil) (by kernel_rfl) ?_
        refine pSeq ?_
        rcases ic h with ⟨hp79, h⟩ | ⟨hp79, h⟩
        · refine wCT hp79 tm (s1 rfl) ?_
          refine wSkip ?_
          refine pSeq ?_
          refine wCT hp79 tm (s1 rfl) ?_
          refine rg (cp (oMv tm) (s1 rfl) <| cp (oAdd tm (cI (by decide))) (s1 rfl) <| cp (oAs tm) (s1 rfl) <| .nil) (by kernel_rfl) ?_
          refine pBlkN ?_
          exact pJ1 _ (so h) ⟨rfl, rfl, rfl, trivial⟩ rfl
        · refine wCF hp79 tm (s1 rfl) ?_
          refine wSeq ?_
          refine rg (cp (oEq rfl tm (cI (by decide))) (s1 rfl) <| cp (oAs tm) (s1 rfl) <| .nil) (by kernel_rfl) ?_
          refine pSeq ?_
          rcases ic h with ⟨hp80, h⟩ | ⟨hp80, h⟩
          · refine wCT hp80 tm (s1 rfl) ?_
            refine wSkip ?_
            refine pSeq ?_
            refine wCT hp80 tm (s1 rfl) ?_
            refine rg (cp (oMv tm) (s1 rfl) <| cp (oAdd tm (cI (by decide))) (s1 rfl) <| cp (oAs tm) (s1 rfl) <| .nil) (by kernel_rfl) ?_
            refine pBlkN ?_
            exact pJ1 _ (so h) ⟨rfl, rfl, rfl, trivial⟩ rfl
          · refine wCF hp80 tm (s1 rfl) ?_
            refine wSeq ?_
            refine rg (cp (oEq rfl tm (cI (by decide))) (s1 rfl) <| cp (oAs tm) (s1 rfl) <| .nil) (by kernel_rfl) ?_
            refine pSeq ?_
            rcases ic h with ⟨hp81, h⟩ | ⟨hp81, h⟩
            · refine wCT hp81 tm (s1 rfl) ?_
              refine wSkip ?_
              refine pSeq ?_
              refine wCT hp81 tm (s1 rfl) ?_
              refine rg (cp (oMv tm) (s1 rfl) <| cp (oAdd tm (cI (by decide))) (s1 rfl) <| cp (oAs tm) (s1 rfl) <| .nil) (by kernel_rfl) ?_
              refine pBlkN ?_
              exact pJ1 _ (so h) ⟨rfl, rfl, rfl, trivial⟩ rfl
            · refine wCF hp81 tm (s1 rfl) ?_
              refine rg (cp (oEq rfl tm (cI (by decide))) (s1 rfl) <| cp (oAs tm) (s1 rfl) <| .nil) (by kernel_rfl) ?_
              refine pSeq ?_
              rcases ic h with ⟨hp82, h⟩ | ⟨hp82, h⟩
              · refine wCT hp82 tm (s1 rfl) ?_
                refine rg (cp (oMv tm) (s1 rfl) <| cp (oAdd tm (cI (by decide))) (s1 rfl) <| cp (oAs tm) (s1 rfl) <| .nil) (by kernel_rfl) ?_
                refine pBlkN ?_
                exact pJ1 _ (so h) ⟨rfl, rfl, rfl, trivial⟩ rfl
              · refine wCF hp82 tm (s1 rfl) ?_
                refine wSkip ?_
                refine pBlkN ?_
                exact pJ1 _ (so h) ⟨rfl, rfl, rfl, trivial⟩ rfl
    · rintro x77 rfl
      replace h := hk3
      refine pSeq ?_
      refine wSeq ?_
      refine rg (cp (oMv tm) (s1 rfl) <| cp (oEq rfl tm (cI (by decide))) (s1 rfl) <| .nil) (by kernel_rfl) ?_
      refine pSeq ?_
      rcases ic h with ⟨hp83, h⟩ | ⟨hp83, h⟩
      · refine wCT hp83 tm (s1 rfl) ?_
        refine wSeq ?_
        refine rg (cp (oMv tm) (s1 rfl) <| cp (oAs tm) (s1 rfl) <| .nil) (by kernel_rfl) ?_
        refine pSeq ?_
        refine wRet ?_
        refine pBlkR ?_
        refine pThenR ?_
        obtain rfl := so h
        replace h := hk2
        refine pThenR ?_
        refine pBlkR ?_
        obtain rfl := so h
        replace h := hk1
        obtain rfl := so h
        exact pR1 (.inl rfl) rfl (.tmp rfl <| .nil)
      · refine wCF hp83 tm (s1 rfl) ?_
        refine wSkip ?_
        refine pBlkN ?_
        exact pJ1 _ (so h) ⟨rfl, rfl, rfl, trivial⟩ rfl
  · rintro x70 rfl
    replace h := hk2
    refine rg (cp (oMv tm) (s1 rfl) <| cp (oSub tm (cI (by decide))) (s1 rfl) <| cp (oAs tm) (s1 rfl) <| .nil) (by kernel_rfl) ?_
    exact pLoop (lW (ih _ _ h) ⟨rfl, rfl, rfl, trivial⟩ rfl)

theorem slices_Grow_int_int_nil.ok {a1 : Int} {r : (List Int)} (h : slices_Grow_int_int_nil.f a1 = some r) : FnS Try.prog 135 [.d (sV (.slice none 0 0)), .d ((kI .i64).sig a1)] [] [] (.v 80000) [.row 80000 3 (kI .i64) r] := by
  refine fnIntroS Try.func135 rfl (by kernel_rfl) fun X H0 w0 pv => ?_
  unfold slices_Grow_int_int_nil.f at h
  refine wSeq ?_
  refine rg (cp (oAs cV) trivial <| .nil) (by kernel_rfl) ?_
  refine pSeq ?_
  refine wSeq ?_
  refine wSeq ?_
  refine rg (cp (oMv tm) (s1 rfl) <| cp (oLt rfl tm (cI (by decide))) (s1 rfl) <| .nil) (by kernel_rfl) ?_
  refine pSeq ?_
  rcases ic h with ⟨hp1, h⟩ | ⟨hp1, h⟩
  · refine wCT hp1 tm (s1 rfl) ?_
    cases h
  · refine wCF hp1 tm (s1 rfl) ?_
    refine wSkip ?_
    refine pSeq ?_
    refine wSeq ?_
    refine wSeq ?_
    refine rg (cp (oMv tm) (s1 rfl) <| cp (oMv tm) (s1 rfl) <| cp (oCapN u22 tm) (s1 rfl) <| cp (oMv tm) (s1 rfl) <| cp (oLenL u22 (tmN (d := (kI .i64)))) (s1 rfl) <| cp (oSub tm tm) (s2 rfl rfl) <| cp (oSub tm tm) (s2 rfl rfl) <| cp (oAs tm) (s1 rfl) <| .nil) (by kernel_rfl) ?_
    refine pSeq ?_
    refine wSeq ?_
    refine rg (cp (oMv tm) (s1 rfl) <| cp (oGt rfl tm (cI (by decide))) (s1 rfl) <| .nil) (by kernel_rfl) ?_
    refine pSeq ?_
    rcases ic h with ⟨hp2, h⟩ | ⟨hp2, h⟩
    · refine wCT hp2 tm (s1 rfl) ?_
      obtain ⟨hc3, h⟩ := ib h
      obtain ⟨hc4, h⟩ := ib h
      refine rg (cp (oMv tm) (s1 rfl) <| cp (oMv tm) (s1 rfl) <| cp (oCapN u22 tm) (s1 rfl) <| cp (oCutN u22 z3 rfl tm tm) (s2 rfl rfl) <| cp (oMv tm) (s1 rfl) <| cw (oAppZ (id := 22) (d := (kI .i64)) el22 u3 (by decide) (by decide) ze3 zI_i64 hc3.1 hc3.2 tm tm) (s2 rfl rfl) <| cp (oMv tm) (s1 rfl) <| cp (oLenL u22 (tmN (d := (kI .i64)))) (s1 rfl) <| cw (oCutR (n := 0) (id' := 25) u22 z3 rfl hc4.1 hc4.2 tm tm) (s2 rfl rfl) <| cp (oAs tm) (s1 rfl) <| .nil) (by kernel_rfl) ?_
      refine pSeq ?_
      refine wSeq ?_
      refine rg (cp (oMv tm) (s1 rfl) <| cp (oAs tm) (s1 rfl) <| .nil) (by kernel_rfl) ?_
      refine pSeq ?_
      refine wRet ?_
      obtain rfl := so h
      refine pSub (Γ' := [(4, .v 25)]) ⟨rfl, trivial⟩ ?_
      refine pRen 25 80000 rfl ?_
      exact pSv [0] rfl rfl (.inl rfl) rfl rfl
    · refine wCF hp2 tm (s1 rfl) ?_
      refine wSkip ?_
      refine pSeq ?_
      refine wSeq ?_
      refine rg (cp (oMv tm) (s1 rfl) <| cp (oAs tm) (s1 rfl) <| .nil) (by kernel_rfl) ?_
      refine pSeq ?_
      refine wNil (kI .i64) 3 9004 4 rfl rfl ?_
      refine wRet ?_
      obtain rfl := so h
      refine pSub (Γ' := [(4, .v 9004)]) ⟨rfl, trivial⟩ ?_
      refine pRen 9004 80000 rfl ?_
      exact pSv [0] rfl rfl (.inl rfl) rfl rfl

theorem slices_Concat_int_int.ok {a0 : List (List Int)} {r : List Int} (h : slices_Concat_int_int.f a0 = some r) : FnA Try.prog 124 [(kL (kL (kI .i64))).sig a0] ((kL (kI .i64)).sig r) := by
  refine fnIntro Try.func124 rfl (by kernel_rfl) fun H0 w0 => ?_
  unfold slices_Concat_int_int.f at h
  refine wSeq ?_
  refine rg (cp (oAs cV) trivial <| .nil) (by kernel_rfl) ?_
  refine pSeq ?_
  refine wSeq ?_
  refine rg (cp (oAs (cI (by decide))) trivial <| .nil) (by kernel_rfl) ?_
  refine pSeq ?_
  refine wSeq ?_
  refine wSeq ?_
  refine rg (cp (oMv tm) (s1 rfl) <| cp (oLenL u29 tm) (s1 rfl) <| cp (oMv (cI (by decide))) trivial <| .nil) (by kernel_rfl) ?_
  refine pSeq ?_
  obtain ⟨o1, h, hk1⟩ := bd h
  refine wK1 (fun x15 => x15 = o1) (fun x15 => [(0, .d ((kL (kL (kI .i64))).sig a0)), (3, .d ((kI .i64).sig x15))]) (fun x15 => []) ?_ ?_
  · refine wBlock (wLoop ?_)
    refine lW (pc2 o1 (fun v13 v14 => [(0, .d ((kL (kL (kI .i64))).sig a0)), (3, .d ((kI .i64).sig v14)), (9, .d ((kL (kL (kI .i64))).sig a0)), (10, .d ((kI .i64).sig (a0.length : Int))), (11, .d ((kI .i64).sig v13))]) (fun v13 v14 => []) (slices_Concat_int_int.l0.partial_correctness a0) ?_ _ _ h) ⟨rfl, rfl, rfl, rfl, rfl, trivial⟩ rfl
    clear h
    intro f' ih v13 v14 h
    refine wSeq ?_
    refine rg (cp (oLt rfl tm tm) (s2 rfl rfl) <| .nil) (by kernel_rfl) ?_
    refine pSeq ?_
    refine wSeq ?_
    rcases ic h with ⟨hp16, h⟩ | ⟨hp16, h⟩
    · refine wCT hp16 tm (s1 rfl) ?_
      refine wSkip ?_
      refine pSeq ?_
      obtain ⟨o2, h, hk2⟩ := bd h
      refine wJ1 (fun x19 => x19 = o2) (fun x19 => [(0, .d ((kL (kL (kI .i64))).sig a0)), (3, .d ((kI .i64).sig x19)), (9, .d ((kL (kL (kI .i64))).sig a0)), (10, .d ((kI .i64).sig (a0.length : Int))), (11, .d ((kI .i64).sig v13))]) (fun x19 => []) ?_ ?_
      · refine wBlock ?_
        refine wSeq ?_
        obtain ⟨y20, hy20, h⟩ := bd h
        refine rg (cp (oIdx u29 z22 hy20 tm tm) (s2 rfl rfl) <| cp (oLd t22 tm) (s1 rfl) <| cp (oAs tm) (s1 rfl) <| .nil) (by kernel_rfl) ?_
        refine pSeq ?_
        refine wSeq ?_
        refine rg (cp (oMv tm) (s1 rfl) <| cp (oMv tm) (s1 rfl) <| cp (oLenL u22 tm) (s1 rfl) <| cp (oAdd tm tm) (s2 rfl rfl) <| cp (oAs tm) (s1 rfl) <| .nil) (by kernel_rfl) ?_
        refine pSeq ?_
        refine wSeq ?_
        refine rg (cp (oMv tm) (s1 rfl) <| cp (oLt rfl tm (cI (by decide))) (s1 rfl) <| .nil) (by kernel_rfl) ?_
        refine pSeq ?_
        rcases ic h with ⟨hp21, h⟩ | ⟨hp21, h⟩
        · refine wCT hp21 tm (s1 rfl) ?_
          cases h
        · refine wCF hp21 tm (s1 rfl) ?_
          refine wSkip ?_
          refine pBlkN ?_
          exact pJ1 _ (so h) ⟨rfl, rfl, rfl, rfl, rfl, trivial⟩ rfl
      · rintro x19 rfl
        replace h := hk2
        refine rg (cp (oAdd tm (cI (by decide))) (s1 rfl) <| cp (oMv tm) (s1 rfl) <| .nil) (by kernel_rfl) ?_
        exact pLoop (lW (ih _ _ h) ⟨rfl, rfl, rfl, rfl, rfl, trivial⟩ rfl)
    · refine wCF hp16 tm (s1 rfl) ?_
      refine wExit ?_
      refine pThenX ?_
      refine pThenX ?_
      refine pBlkX ?_
      exact pJ1 _ (so h) ⟨rfl, rfl, trivial⟩ rfl
  · rintro x15 rfl
    replace h := hk1
    refine pSeq ?_
    refine wSeq ?_
    obtain ⟨y22, hy22, h⟩ := bd h
    refine rg (cp (oMv tm) (s1 rfl) <| cm (oCallS (rest := []) (R' := [.row 390040 3 (kI .i64) y22]) (out' := .v 390040) [] [(80000, 390040)] [] [] [0] rfl (slices_Grow_int_int_nil.ok hy22) b135 (oE1 cV (oE1 tm oE0)) rfl rfl rfl rfl rfl rfl rfl rfl) (s1 rfl) <| cp (oAs tm) (s1 rfl) <| .nil) (by kernel_rfl) ?_
    refine pSeq ?_
    refine wSeq ?_
    refine wSeq ?_
    refine rg (cp (oMv tm) (s1 rfl) <| cp (oLenL u29 tm) (s1 rfl) <| cp (oMv (cI (by decide))) trivial <| .nil) (by kernel_rfl) ?_
    refine pSeq ?_
    refine wWeak (Γ' := [(6, .v 390040), (25, .d ((kL (kL (kI .i64))).sig a0)), (26, .d ((kI .i64).sig (a0.length : Int))), (27, .d ((kI .i64).sig 0))]) ⟨rfl, rfl, rfl, rfl, trivial⟩ ?_
    refine wRen 390040 1006 rfl ?_
    obtain ⟨o1, h, hk1⟩ := bd h
    refine wK1 (fun x31 => x31 = o1) (fun x31 => [(6, .v 1006)]) (fun x31 => [.row 1006 3 (kI .i64) x31]) ?_ ?_
    · refine wBlock (wLoop ?_)
      refine lW (pc2 o1 (fun v29 v30 => [(6, .v 1006), (25, .d ((kL (kL (kI .i64))).sig a0)), (26, .d ((kI .i64).sig (a0.length : Int))), (27, .d ((kI .i64).sig v30))]) (fun v29 v30 => [.row 1006 3 (kI .i64) v29]) (slices_Concat_int_int.l1.partial_correctness a0) ?_ _ _ h) ⟨rfl, rfl, rfl, rfl, trivial⟩ rfl
      clear h
      intro f' ih v29 v30 h
      refine wSeq ?_
      refine rg (cp (oLt rfl tm tm) (s2 rfl rfl) <| .nil) (by kernel_rfl) ?_
      refine pSeq ?_
      refine wSeq ?_
      rcases ic h with ⟨hp32, h⟩ | ⟨hp32, h⟩
      · refine wCT hp32 tm (s1 rfl) ?_
        refine wSkip ?_
        refine pSeq ?_
        refine wSeq ?_
        refine wBlock ?_
        refine wSeq ?_
        obtain ⟨y33, hy33, h⟩ := bd h
        refine rg (cp (oIdx u29 z22 hy33 tm tm) (s2 rfl rfl) <| cp (oLd t22 tm) (s1 rfl) <| cp (oAs tm) (s1 rfl) <| .nil) (by kernel_rfl) ?_
        refine pSeq ?_
        obtain ⟨hc34, h⟩ := ib h
        refine rg (cp (oMv tm) (s1 rfl) <| cp (oMv tm) (s1 rfl) <| cw (oApp (n := 0) (id' := 33) el22 (by decide) rfl (by decide) hc34 tm tm) (s2 rfl rfl) <| cp (oAs tm) (s1 rfl) <| .nil) (by kernel_rfl) ?_
        refine pBlkN ?_
        refine pSeq ?_
        refine rg (cp (oAdd tm (cI (by decide))) (s1 rfl) <| cp (oMv tm) (s1 rfl) <| .nil) (by kernel_rfl) ?_
        refine pSub (Γ' := [(6, .v 33), (25, .d ((kL (kL (kI .i64))).sig a0)), (26, .d ((kI .i64).sig (a0.length : Int))), (27, .d ((kI .i64).sig (IntKind.i64.wrap (v30 + 1))))]) ⟨rfl, rfl, rfl, rfl, trivial⟩ ?_
        refine pRen 33 1006 rfl ?_
        exact pLoop (lW (ih _ _ h) ⟨rfl, rfl, rfl, rfl, trivial⟩ rfl)
      · refine wCF hp32 tm (s1 rfl) ?_
        refine wExit ?_
        refine pThenX ?_
        refine pThenX ?_
        refine pBlkX ?_
        exact pJ1 _ (so h) ⟨rfl, trivial⟩ rfl
    · rintro x31 rfl
      replace h := hk1
      refine pSeq ?_
      refine wSeq ?_
      refine rg (cp (oMv tm) (s1 rfl) <| cp (oAs tm) (s1 rfl) <| .nil) (by kernel_rfl) ?_
      refine pSeq ?_
      refine wFrzR (n := 0) (id := 1006) [2] rfl rfl ⟨rfl, trivial⟩ ?_
      refine wRet ?_
      obtain rfl := so h
      exact pR1 (.inl rfl) rfl (.tmp rfl <| .nil)

theorem mutant_less.ok {a0 : List Int} {a1 : Int} {r : List (List Int)} (h : mutant_less.f a0 a1 = some r) : FnA Try.prog 96 [(kL (kI .i64)).sig a0, (kI .i64).sig a1] ((kL (kL (kI .i64))).sig r) := by
  refine fnIntro Try.func96 rfl (by kernel_rfl) fun H0 w0 => ?_
  unfold mutant_less.f at h
  refine wSeq ?_
  refine rg (cp (oAs cV) trivial <| .nil) (by kernel_rfl) ?_
  refine pSeq ?_
  refine wSeq ?_
  obtain ⟨y1, hy1, h⟩ := bd h
  refine rg (cp (oMv tm) (s1 rfl) <| cp (oMv tm) (s1 rfl) <| cp (oSub tm (cI (by decide))) (s1 rfl) <| cp (oCall rfl (mutant_start.ok hy1) b123 (opds_cons tm (opds_cons tm opds_nil))) (s2 rfl rfl) <| cp (oAs tm) (s1 rfl) <| .nil) (by kernel_rfl) ?_
  refine pSeq ?_
  refine wSeq ?_
  obtain ⟨y2, hy2, h⟩ := bd h
  refine rg (cp (oMv tm) (s1 rfl) <| cp (oMv tm) (s1 rfl) <| cp (oSub tm (cI (by decide))) (s1 rfl) <| cp (oCall rfl (mutant_start.ok hy2) b123 (opds_cons tm (opds_cons tm opds_nil))) (s2 rfl rfl) <| cp (oAs tm) (s1 rfl) <| .nil) (by kernel_rfl) ?_
  refine pSeq ?_
  refine wSeq ?_
  obtain ⟨hc3, h⟩ := ib h
  obtain ⟨hc4, h⟩ := ib h
  obtain ⟨y5, hy5, h⟩ := bd h
  obtain ⟨hc6, h⟩ := ib h
  obtain ⟨hc7, h⟩ := ib h
  obtain ⟨hc8, h⟩ := ib h
  obtain ⟨y9, hy9, h⟩ := bd h
  refine rgD hm (cp (oMv tm) (s1 rfl) <| cp (oMv tm) (s1 rfl) <| cp (oCutHi u22 z3 hc3.1 hc3.2 tm tm) (s2 rfl rfl) <| cp (oMv tm) (s1 rfl) <| cp (oMv tm) (s1 rfl) <| cp (oAdd tm (cI (by decide))) (s1 rfl) <| cp (oCutLo u22 z3 hc4.1 hc4.2 tm tm) (s2 rfl rfl) <| cp (oLit (d := (kL (kI .i64))) el29 (by decide) rfl rfl rfl (e1 tm (e1 tm e0))) (s2 rfl rfl) <| cp (oCall rfl (slices_Concat_int_int.ok hy5) b124 (opds_cons tm opds_nil)) (s1 rfl) <| cp (oMv tm) (s1 rfl) <| cp (oMv tm) (s1 rfl) <| cp (oCutHi u22 z3 hc6.1 hc6.2 tm tm) (s2 rfl rfl) <| cp (oMv tm) (s1 rfl) <| cp (oMv tm) (s1 rfl) <| cp (oMv tm) (s1 rfl) <| cp (oCut u22 z3 hc7.1 hc7.2.1 hc7.2.2 tm tm tm) (s3 rfl rfl rfl) <| cp (oMv tm) (s1 rfl) <| cp (oMv tm) (s1 rfl) <| cp (oAdd tm (cI (by decide))) (s1 rfl) <| cp (oCutLo u22 z3 hc8.1 hc8.2 tm tm) (s2 rfl rfl) <| cp (oLit (d := (kL (kI .i64))) el29 (by decide) rfl rfl rfl (e1 tm (e1 tm (e1 tm e0)))) (s3 rfl rfl rfl) <| cp (oCall rfl (slices_Concat_int_int.ok hy9) b124 (opds_cons tm opds_nil)) (s1 rfl) <| cp (oLit (d := (kL (kI .i64))) el29 (by decide) rfl rfl rfl (e1 tm (e1 tm e0))) (s2 rfl rfl) <| cp (oAs tm) (s1 rfl) <| .nil) (by kernel_rfl) (by kernel_rfl) ?_
  refine pSeq ?_
  refine wRet ?_
  obtain rfl := so h
  exact pR1 (.inl rfl) rfl (.tmp rfl <| .nil)

theorem mutant_weaker.ok {a0 : List Int} {r : List (List Int)} (h : mutant_weaker.f a0 = some r) : FnA Try.prog 65 [(kL (kI .i64)).sig a0] ((kL (kL (kI .i64))).sig r) := by
  refine fnIntro Try.func65 rfl (by kernel_rfl) fun H0 w0 => ?_
  unfold mutant_weaker.f at h
  refine wSeq ?_
  refine rg (cp (oAs cV) trivial <| .nil) (by kernel_rfl) ?_
  refine pSeq ?_
  refine wSeq ?_
  refine rg (cp (oAs (cI (by decide))) trivial <| cp (oAs (cI (by decide))) trivial <| .nil) (by kernel_rfl) ?_
  refine pSeq ?_
  refine wSeq ?_
  refine wSeq ?_
  obtain ⟨y1, hy1, h⟩ := bd h
  refine rg (cp (oMv tm) (s1 rfl) <| cp (oCall rfl (rule_Right.ok hy1) b47 (opds_cons tm (opds_cons cB opds_nil))) (s1 rfl) <| .nil) (by kernel_rfl) ?_
  refine pSeq ?_
  rcases ic h with ⟨hp2, h⟩ | ⟨hp2, h⟩
  · refine wBT hp2 tm (s1 rfl) ?_
    refine rg (cp (oAs (cI (by decide))) trivial <| cp (oAs (cI (by decide))) trivial <| .nil) (by kernel_rfl) ?_
    refine pSeq ?_
    refine wSeq ?_
    refine rg (cp (oAs cV) trivial <| .nil) (by kernel_rfl) ?_
    refine pSeq ?_
    refine wSeq ?_
    refine wSeq ?_
    obtain ⟨y3, hy3, h⟩ := bd h
    refine rg (cp (oMv tm) (s1 rfl) <| cp (oMv tm) (s1 rfl) <| cp (oLit (d := (kI .i64)) el22 (by decide) rfl rfl rfl (e1 tm e0)) (s1 rfl) <| cp (oCall rfl (slices_Equal_int_int.ok hy3) b95 (opds_cons tm (opds_cons tm opds_nil))) (s2 rfl rfl) <| cp (oNot tm) (s1 rfl) <| .nil) (by kernel_rfl) ?_
    refine pSeq ?_
    rcases ic h with ⟨hp4, h⟩ | ⟨hp4, h⟩
    · refine wBT hp4 tm (s1 rfl) ?_
      refine wNil (kL (kI .i64)) 22 1005 5 rfl rfl ?_
      obtain ⟨hc5, h⟩ := ib h
      refine rg (cp (oMv tm) (s1 rfl) <| cp (oMv tm) (s1 rfl) <| cp (oLit (d := (kI .i64)) el22 (by decide) rfl rfl rfl (e1 tm e0)) (s1 rfl) <| cp (oLit (d := (kL (kI .i64))) el29 (by decide) rfl rfl rfl (e1 tm e0)) (s1 rfl) <| cw (oApp (n := 0) (id' := 19) el29 (by decide) rfl (by decide) hc5 tm tm) (s2 rfl rfl) <| cp (oAs tm) (s1 rfl) <| .nil) (by kernel_rfl) ?_
      refine pSeq ?_
      refine wSeq ?_
      refine wSeq ?_
      refine rg (cp (oMv tm) (s1 rfl) <| cp (oLenL u22 tm) (s1 rfl) <| cp (oMv (cI (by decide))) trivial <| .nil) (by kernel_rfl) ?_
      refine pSeq ?_
      refine wWeak (Γ' := [(0, .d ((kL (kI .i64)).sig a0)), (4, .d ((kI .i64).sig 12)), (5, .v 19), (20, .d ((kL (kI .i64)).sig a0)), (21, .d ((kI .i64).sig (a0.length : Int))), (22, .d ((kI .i64).sig 0))]) ⟨rfl, rfl, rfl, rfl, rfl, rfl, trivial⟩ ?_
      refine wRen 19 1005 rfl ?_
      obtain ⟨o1, h, hk1⟩ := bd h
      refine wK1 (fun x28 => x28 = o1) (fun x28 => [(5, .v 1005)]) (fun x28 => [.row 1005 22 (kL (kI .i64)) x28]) ?_ ?_
      · refine wBlock (wLoop ?_)
        refine lW (pc2 o1 (fun v26 v27 => [(0, .d ((kL (kI .i64)).sig a0)), (4, .d ((kI .i64).sig 12)), (5, .v 1005), (20, .d ((kL (kI .i64)).sig a0)), (21, .d ((kI .i64).sig (a0.length : Int))), (22, .d ((kI .i64).sig v27))]) (fun v26 v27 => [.row 1005 22 (kL (kI .i64)) v26]) (mutant_weaker.l0.partial_correctness a0) ?_ _ _ h) ⟨rfl, rfl, rfl, rfl, rfl, rfl, trivial⟩ rfl
        clear h
        intro f' ih v26 v27 h
        refine wSeq ?_
        refine rg (cp (oLt rfl tm tm) (s2 rfl rfl) <| .nil) (by kernel_rfl) ?_
        refine pSeq ?_
        refine wSeq ?_
        rcases ic h with ⟨hp29, h⟩ | ⟨hp29, h⟩
        · refine wCT hp29 tm (s1 rfl) ?_
          refine wSkip ?_
          refine pSeq ?_
          obtain ⟨o2, h, hk2⟩ := bd h
          refine wJ1 (fun x34 => x34 = o2) (fun x34 => [(0, .d ((kL (kI .i64)).sig a0)), (4, .d ((kI .i64).sig 12)), (5, .v 1005), (20, .d ((kL (kI .i64)).sig a0)), (21, .d ((kI .i64).sig (a0.length : Int))), (22, .d ((kI .i64).sig v27))]) (fun x34 => [.row 1005 22 (kL (kI .i64)) x34]) ?_ ?_
          · refine wBlock ?_
            refine wSeq ?_
            obtain ⟨y35, hy35, h⟩ := bd h
            refine rg (cp (oMv tm) (s1 rfl) <| cp (oIdx u22 z3 hy35 tm tm) (s2 rfl rfl) <| cp (oLd t3 tm) (s1 rfl) <| cp (oAs tm) (s1 rfl) <| cp (oAs tm) (s1 rfl) <| .nil) (by kernel_rfl) ?_
            refine pSeq ?_
            refine wSeq ?_
            refine rg (cp (oMv tm) (s1 rfl) <| cp (oMv tm) (s1 rfl) <| cp (oEq rfl tm tm) (s2 rfl rfl) <| .nil) (by kernel_rfl) ?_
            refine pSeq ?_
            rcases ic h with ⟨hp36, h⟩ | ⟨hp36, h⟩
            · refine wCT hp36 tm (s1 rfl) ?_
              obtain ⟨y37, hy37, h⟩ := bd h
              obtain ⟨hc38, h⟩ := ib h
              refine rg (cp (oMv tm) (s1 rfl) <| cp (oMv tm) (s1 rfl) <| cp (oMv tm) (s1 rfl) <| cp (oCall rfl (mutant_less.ok hy37) b96 (opds_cons tm (opds_cons tm opds_nil))) (s2 rfl rfl) <| cw (oApp (n := 0) (id' := 34) el29 (by decide) rfl (by decide) hc38 tm tm) (s2 rfl rfl) <| cp (oAs tm) (s1 rfl) <| .nil) (by kernel_rfl) ?_
              refine pBlkN ?_
              refine pSub (Γ' := [(0, .d ((kL (kI .i64)).sig a0)), (4, .d ((kI .i64).sig 12)), (5, .v 34), (20, .d ((kL (kI .i64)).sig a0)), (21, .d ((kI .i64).sig (a0.length : Int))), (22, .d ((kI .i64).sig v27))]) ⟨rfl, rfl, rfl, rfl, rfl, rfl, trivial⟩ ?_
              refine pRen 34 1005 rfl ?_
              exact pJ1 _ (so h) ⟨rfl, rfl, rfl, rfl, rfl, rfl, trivial⟩ rfl
            · refine wCF hp36 tm (s1 rfl) ?_
              refine wSkip ?_
              refine pBlkN ?_
              exact pJ1 _ (so h) ⟨rfl, rfl, rfl, rfl, rfl, rfl, trivial⟩ rfl
          · rintro x34 rfl
            replace h := hk2
            refine rg (cp (oAdd tm (cI (by decide))) (s1 rfl) <| cp (oMv tm) (s1 rfl) <| .nil) (by kernel_rfl) ?_
            exact pLoop (lW (ih _ _ h) ⟨rfl, rfl, rfl, rfl, rfl, rfl, trivial⟩ rfl)
        · refine wCF hp29 tm (s1 rfl) ?_
          refine wExit ?_
          refine pThenX ?_
          refine pThenX ?_
          refine pBlkX ?_
          exact pJ1 _ (so h) ⟨rfl, trivial⟩ rfl
      · rintro x28 rfl
        replace h := hk1
        refine pSeq ?_
        refine wSeq ?_
        refine rg (cp (oMv tm) (s1 rfl) <| cp (oAs tm) (s1 rfl) <| .nil) (by kernel_rfl) ?_
        refine pSeq ?_
        refine wFrzR (n := 0) (id := 1005) [2] rfl rfl ⟨rfl, trivial⟩ ?_
        refine wRet ?_
        obtain rfl := so h
        exact pR1 (.inl rfl) rfl (.tmp rfl <| .nil)
    · refine wBF hp4 tm (s1 rfl) ?_
      refine wSkip ?_
      refine pSeq ?_
      refine wSeq ?_
      refine wSeq ?_
      refine rg (cp (oMv tm) (s1 rfl) <| cp (oLenL u22 tm) (s1 rfl) <| cp (oMv (cI (by decide))) trivial <| .nil) (by kernel_rfl) ?_
      refine pSeq ?_
      refine wNil (kL (kI .i64)) 22 1005 5 rfl rfl ?_
      obtain ⟨o1, h, hk1⟩ := bd h
      refine wK1 (fun x61 => x61 = o1) (fun x61 => [(5, .v 1005)]) (fun x61 => [.row 1005 22 (kL (kI .i64)) x61]) ?_ ?_
      · refine wBlock (wLoop ?_)
        refine lW (pc2 o1 (fun v59 v60 => [(0, .d ((kL (kI .i64)).sig a0)), (4, .d ((kI .i64).sig 12)), (5, .v 1005), (20, .d ((kL (kI .i64)).sig a0)), (21, .d ((kI .i64).sig (a0.length : Int))), (22, .d ((kI .i64).sig v60))]) (fun v59 v60 => [.row 1005 22 (kL (kI .i64)) v59]) (mutant_weaker.l1.partial_correctness a0) ?_ _ _ h) ⟨rfl, rfl, rfl, rfl, rfl, rfl, trivial⟩ rfl
        clear h
        intro f' ih v59 v60 h
        refine wSeq ?_
        refine rg (cp (oLt rfl tm tm) (s2 rfl rfl) <| .nil) (by kernel_rfl) ?_
        refine pSeq ?_
        refine wSeq ?_
        rcases ic h with ⟨hp62, h⟩ | ⟨hp62, h⟩
        · refine wCT hp62 tm (s1 rfl) ?_
          refine wSkip ?_
          refine pSeq ?_
          obtain ⟨o2, h, hk2⟩ := bd h
          refine wJ1 (fun x67 => x67 = o2) (fun x67 => [(0, .d ((kL (kI .i64)).sig a0)), (4, .d ((kI .i64).sig 12)), (5, .v 1005), (20, .d ((kL (kI .i64)).sig a0)), (21, .d ((kI .i64).sig (a0.length : Int))), (22, .d ((kI .i64).sig v60))]) (fun x67 => [.row 1005 22 (kL (kI .i64)) x67]) ?_ ?_
          · refine wBlock ?_
            refine wSeq ?_
            obtain ⟨y68, hy68, h⟩ := bd h
            refine rg (cp (oMv tm) (s1 rfl) <| cp (oIdx u22 z3 hy68 tm tm) (s2 rfl rfl) <| cp (oLd t3 tm) (s1 rfl) <| cp (oAs tm) (s1 rfl) <| cp (oAs tm) (s1 rfl) <| .nil) (by kernel_rfl) ?_
            refine pSeq ?_
            refine wSeq ?_
            refine rg (cp (oMv tm) (s1 rfl) <| cp (oMv tm) (s1 rfl) <| cp (oEq rfl tm tm) (s2 rfl rfl) <| .nil) (by kernel_rfl) ?_
            refine pSeq ?_
            rcases ic h with ⟨hp69, h⟩ | ⟨hp69, h⟩
            · refine wCT hp69 tm (s1 rfl) ?_
              obtain ⟨y70, hy70, h⟩ := bd h
              obtain ⟨hc71, h⟩ := ib h
              refine rg (cp (oMv tm) (s1 rfl) <| cp (oMv tm) (s1 rfl) <| cp (oMv tm) (s1 rfl) <| cp (oCall rfl (mutant_less.ok hy70) b96 (opds_cons tm (opds_cons tm opds_nil))) (s2 rfl rfl) <| cw (oApp (n := 0) (id' := 34) el29 (by decide) rfl (by decide) hc71 tm tm) (s2 rfl rfl) <| cp (oAs tm) (s1 rfl) <| .nil) (by kernel_rfl) ?_
              refine pBlkN ?_
              refine pSub (Γ' := [(0, .d ((kL (kI .i64)).sig a0)), (4, .d ((kI .i64).sig 12)), (5, .v 34), (20, .d ((kL (kI .i64)).sig a0)), (21, .d ((kI .i64).sig (a0.length : Int))), (22, .d ((kI .i64).sig v60))]) ⟨rfl, rfl, rfl, rfl, rfl, rfl, trivial⟩ ?_
              refine pRen 34 1005 rfl ?_
              exact pJ1 _ (so h) ⟨rfl, rfl, rfl, rfl, rfl, rfl, trivial⟩ rfl
            · refine wCF hp69 tm (s1 rfl) ?_
              refine wSkip ?_
              refine pBlkN ?_
              exact pJ1 _ (so h) ⟨rfl, rfl, rfl, rfl, rfl, rfl, trivial⟩ rfl
          · rintro x67 rfl
            replace h := hk2
            refine rg (cp (oAdd tm (cI (by decide))) (s1 rfl) <| cp (oMv tm) (s1 rfl) <| .nil) (by kernel_rfl) ?_
            exact pLoop (lW (ih _ _ h) ⟨rfl, rfl, rfl, rfl, rfl, rfl, trivial⟩ rfl)
        · refine wCF hp62 tm (s1 rfl) ?_
          refine wExit ?_
          refine pThenX ?_
          refine pThenX ?_
          refine pBlkX ?_
          exact pJ1 _ (so h) ⟨rfl, trivial⟩ rfl
      · rintro x61 rfl
        replace h := hk1
        refine pSeq ?_
        refine wSeq ?_
        refine rg (cp (oMv tm) (s1 rfl) <| cp (oAs tm) (s1 rfl) <| .nil) (by kernel_rfl) ?_
        refine pSeq ?_
        refine wFrzR (n := 0) (id := 1005) [2] rfl rfl ⟨rfl, trivial⟩ ?_
        refine wRet ?_
        obtain rfl := so h
        exact pR1 (.inl rfl) rfl (.tmp rfl <| .nil)
  · refine wBF hp2 tm (s1 rfl) ?_
    refine wSkip ?_
    refine pSeq ?_
    refine wSeq ?_
    refine rg (cp (oAs cV) trivial <| .nil) (by kernel_rfl) ?_
    refine pSeq ?_
    refine wSeq ?_
    refine wSeq ?_
    obtain ⟨y72, hy72, h⟩ := bd h
    refine rg (cp (oMv tm) (s1 rfl) <| cp (oMv tm) (s1 rfl) <| cp (oLit (d := (kI .i64)) el22 (by decide) rfl rfl rfl (e1 tm e0)) (s1 rfl) <| cp (oCall rfl (slices_Equal_int_int.ok hy72) b95 (opds_cons tm (opds_cons tm opds_nil))) (s2 rfl rfl) <| cp (oNot tm) (s1 rfl) <| .nil) (by kernel_rfl) ?_
    refine pSeq ?_
    rcases ic h with ⟨hp73, h⟩ | ⟨hp73, h⟩
    · refine wBT hp73 tm (s1 rfl) ?_
      refine wNil (kL (kI .i64)) 22 1005 5 rfl rfl ?_
      obtain ⟨hc74, h⟩ := ib h
      refine rg (cp (oMv tm) (s1 rfl) <| cp (oMv tm) (s1 rfl) <| cp (oLit (d := (kI .i64)) el22 (by decide) rfl rfl rfl (e1 tm e0)) (s1 rfl) <| cp (oLit (d := (kL (kI .i64))) el29 (by decide) rfl rfl rfl (e1 tm e0)) (s1 rfl) <| cw (oApp (n := 0) (id' := 19) el29 (by decide) rfl (by decide) hc74 tm tm) (s2 rfl rfl) <| cp (oAs tm) (s1 rfl) <| .nil) (by kernel_rfl) ?_
      refine pSeq ?_
      refine wSeq ?_
      refine wSeq ?_
      refine rg (cp (oMv tm) (s1 rfl) <| cp (oLenL u22 tm) (s1 rfl) <| cp (oMv (cI (by decide))) trivial <| .nil) (by kernel_rfl) ?_
      refine pSeq ?_
      refine wWeak (Γ' := [(0, .d ((kL (kI .i64)).sig a0)), (4, .d ((kI .i64).sig 3)), (5, .v 19), (20, .d ((kL (kI .i64)).sig a0)), (21, .d ((kI .i64).sig (a0.length : Int))), (22, .d ((kI .i64).sig 0))]) ⟨rfl, rfl, rfl, rfl, rfl, rfl, trivial⟩ ?_
      refine wRen 19 1005 rfl ?_
      obtain ⟨o1, h, hk1⟩ := bd h
      refine wK1 (fun x97 => x97 = o1) (fun x97 => [(5, .v 1005)]) (fun x97 => [.row 1005 22 (kL (kI .i64)) x97]) ?_ ?_
      · refine wBlock (wLoop ?_)
        refine lW (pc2 o1 (fun v95 v96 => [(0, .d ((kL (kI .i64)).sig a0)), (4, .d ((kI .i64).sig 3)), (5, .v 1005), (20, .d ((kL (kI .i64)).sig a0)), (21, .d ((kI .i64).sig (a0.length : Int))), (22, .d ((kI .i64).sig v96))]) (fun v95 v96 => [.row 1005 22 (kL (kI .i64)) v95]) (mutant_weaker.l2.partial_correctness a0) ?_ _ _ h) ⟨rfl, rfl, rfl, rfl, rfl, rfl, trivial⟩ rfl
        clear h
        intro f' ih v95 v96 h
        refine wSeq ?_
        refine rg (cp (oLt rfl tm tm) (s2 rfl rfl) <| .nil) (by kernel_rfl) ?_
        refine pSeq ?_
        refine wSeq ?_
        rcases ic h with ⟨hp98, h⟩ | ⟨hp98, h⟩
        · refine wCT hp98 tm (s1 rfl) ?_
          refine wSkip ?_
          refine pSeq ?_
          obtain ⟨o2, h, hk2⟩ := bd h
          refine wJ1 (fun x103 => x103 = o2) (fun x103 => [(0, .d ((kL (kI .i64)).sig a0)), (4, .d ((kI .i64).sig 3)), (5, .v 1005), (20, .d ((kL (kI .i64)).sig a0)), (21, .d ((kI .i64).sig (a0.length : Int))), (22, .d ((kI .i64).sig v96))]) (fun x103 => [.row 1005 22 (kL (kI .i64)) x103]) ?_ ?_
          · refine wBlock ?_
            refine wSeq ?_
            obtain ⟨y104, hy104, h⟩ := bd h
            refine rg (cp (oMv tm) (s1 rfl) <| cp (oIdx u22 z3 hy104 tm tm) (s2 rfl rfl) <| cp (oLd t3 tm) (s1 rfl) <| cp (oAs tm) (s1 rfl) <| cp (oAs tm) (s1 rfl) <| .nil) (by kernel_rfl) ?_
            refine pSeq ?_
            refine wSeq ?_
            refine rg (cp (oMv tm) (s1 rfl) <| cp (oMv tm) (s1 rfl) <| cp (oEq rfl tm tm) (s2 rfl rfl) <| .nil) (by kernel_rfl) ?_
            refine pSeq ?_
            rcases ic h with ⟨hp105, h⟩ | ⟨hp105, h⟩
            · refine wCT hp105 tm (s1 rfl) ?_
              obtain ⟨y106, hy106, h⟩ := bd h
              obtain ⟨hc107, h⟩ := ib h
              refine rg (cp (oMv tm) (s1 rfl) <| cp (oMv tm) (s1 rfl) <| cp (oMv tm) (s1 rfl) <| cp (oCall rfl (mutant_less.ok hy106) b96 (opds_cons tm (opds_cons tm opds_nil))) (s2 rfl rfl) <| cw (oApp (n := 0) (id' := 34) el29 (by decide) rfl (by decide) hc107 tm tm) (s2 rfl rfl) <| cp (oAs tm) (s1 rfl) <| .nil) (by kernel_rfl) ?_
              refine pBlkN ?_
              refine pSub (Γ' := [(0, .d ((kL (kI .i64)).sig a0)), (4, .d ((kI .i64).sig 3)), (5, .v 34), (20, .d ((kL (kI .i64)).sig a0)), (21, .d ((kI .i64).sig (a0.length : Int))), (22, .d ((kI .i64).sig v96))]) ⟨rfl, rfl, rfl, rfl, rfl, rfl, trivial⟩ ?_
              refine pRen 34 1005 rfl ?_
              exact pJ1 _ (so h) ⟨rfl, rfl, rfl, rfl, rfl, rfl, trivial⟩ rfl
            · refine wCF hp105 tm (s1 rfl) ?_
              refine wSkip ?_
              refine pBlkN ?_
              exact pJ1 _ (so h) ⟨rfl, rfl, rfl, rfl, rfl, rfl, trivial⟩ rfl
          · rintro x103 rfl
            replace h := hk2
            refine rg (cp (oAdd tm (cI (by decide))) (s1 rfl) <| cp (oMv tm) (s1 rfl) <| .nil) (by kernel_rfl) ?_
            exact pLoop (lW (ih _ _ h) ⟨rfl, rfl, rfl, rfl, rfl, rfl, trivial⟩ rfl)
        · refine wCF hp98 tm (s1 rfl) ?_
          refine wExit ?_
          refine pThenX ?_
          refine pThenX ?_
          refine pBlkX ?_
          exact pJ1 _ (so h) ⟨rfl, trivial⟩ rfl
      · rintro x97 rfl
        replace h := hk1
        refine pSeq ?_
        refine wSeq ?_
        refine rg (cp (oMv tm) (s1 rfl) <| cp (oAs tm) (s1 rfl) <| .nil) (by kernel_rfl) ?_
        refine pSeq ?_
        refine wFrzR (n := 0) (id := 1005) [2] rfl rfl ⟨rfl, trivial⟩ ?_
        refine wRet ?_
        obtain rfl := so h
        exact pR1 (.inl rfl) rfl (.tmp rfl <| .nil)
    · refine wBF hp73 tm (s1 rfl) ?_
      refine wSkip ?_
      refine pSeq ?_
      refine wSeq ?_
      refine wSeq ?_
      refine rg (cp (oMv tm) (s1 rfl) <| cp (oLenL u22 tm) (s1 rfl) <| cp (oMv (cI (by decide))) trivial <| .nil) (by kernel_rfl) ?_
      refine pSeq ?_
      refine wNil (kL (kI .i64)) 22 1005 5 rfl rfl ?_
      obtain ⟨o1, h, hk1⟩ := bd h
      refine wK1 (fun x130 => x130 = o1) (fun x130 => [(5, .v 1005)]) (fun x130 => [.row 1005 22 (kL (kI .i64)) x130]) ?_ ?_
      · refine wBlock (wLoop ?_)
        refine lW (pc2 o1 (fun v128 v129 => [(0, .d ((kL (kI .i64)).sig a0)), (4, .d ((kI .i64).sig 3)), (5, .v 1005), (20, .d ((kL (kI .i64)).sig a0)), (21, .d ((kI .i64).sig (a0.length : Int))), (22, .d ((kI .i64).sig v129))]) (fun v128 v129 => [.row 1005 22 (kL (kI .i64)) v128]) (mutant_weaker.l3.partial_correctness a0) ?_ _ _ h) ⟨rfl, rfl, rfl, rfl, rfl, rfl, trivial⟩ rfl
        clear h
        intro f' ih v128 v129 h
        refine wSeq ?_
        refine rg (cp (oLt rfl tm tm) (s2 rfl rfl) <| .nil) (by kernel_rfl) ?_
        refine pSeq ?_
        refine wSeq ?_
        rcases ic h with ⟨hp131, h⟩ | ⟨hp131, h⟩
        · refine wCT hp131 tm (s1 rfl) ?_
          refine wSkip ?_
          refine pSeq ?_
          obtain ⟨o2, h, hk2⟩ := bd h
          refine wJ1 (fun x136 => x136 = o2) (fun x136 => [(0, .d ((kL (kI .i64)).sig a0)), (4, .d ((kI .i64).sig 3)), (5, .v 1005), (20, .d ((kL (kI .i64)).sig a0)), (21, .d ((kI .i64).sig (a0.length : Int))), (22, .d ((kI .i64).sig v129))]) (fun x136 => [.row 1005 22 (kL (kI .i64)) x136]) ?_ ?_
          · refine wBlock ?_
            refine wSeq ?_
            obtain ⟨y137, hy137, h⟩ := bd h
            refine rg (cp (oMv tm) (s1 rfl) <| cp (oIdx u22 z3 hy137 tm tm) (s2 rfl rfl) <| cp (oLd t3 tm) (s1 rfl) <| cp (oAs tm) (s1 rfl) <| cp (oAs tm) (s1 rfl) <| .nil) (by kernel_rfl) ?_
            refine pSeq ?_
            refine wSeq ?_
            refine rg (cp (oMv tm) (s1 rfl) <| cp (oMv tm) (s1 rfl) <| cp (oEq rfl tm tm) (s2 rfl rfl) <| .nil) (by kernel_rfl) ?_
            refine pSeq ?_
            rcases ic h with ⟨hp138, h⟩ | ⟨hp138, h⟩
            · refine wCT hp138 tm (s1 rfl) ?_
              obtain ⟨y139, hy139, h⟩ := bd h
              obtain ⟨hc140, h⟩ := ib h
              refine rg (cp (oMv tm) (s1 rfl) <| cp (oMv tm) (s1 rfl) <| cp (oMv tm) (s1 rfl) <| cp (oCall rfl (mutant_less.ok hy139) b96 (opds_cons tm (opds_cons tm opds_nil))) (s2 rfl rfl) <| cw (oApp (n := 0) (id' := 34) el29 (by decide) rfl (by decide) hc140 tm tm) (s2 rfl rfl) <| cp (oAs tm) (s1 rfl) <| .nil) (by kernel_rfl) ?_
              refine pBlkN ?_
              refine pSub (Γ' := [(0, .d ((kL (kI .i64)).sig a0)), (4, .d ((kI .i64).sig 3)), (5, .v 34), (20, .d ((kL (kI .i64)).sig a0)), (21, .d ((kI .i64).sig (a0.length : Int))), (22, .d ((kI .i64).sig v129))]) ⟨rfl, rfl, rfl, rfl, rfl, rfl, trivial⟩ ?_
              refine pRen 34 1005 rfl ?_
              exact pJ1 _ (so h) ⟨rfl, rfl, rfl, rfl, rfl, rfl, trivial⟩ rfl
            · refine wCF hp138 tm (s1 rfl) ?_
              refine wSkip ?_
              refine pBlkN ?_
              exact pJ1 _ (so h) ⟨rfl, rfl, rfl, rfl, rfl, rfl, trivial⟩ rfl
          · rintro x136 rfl
            replace h := hk2
            refine rg (cp (oAdd tm (cI (by decide))) (s1 rfl) <| cp (oMv tm) (s1 rfl) <| .nil) (by kernel_rfl) ?_
            exact pLoop (lW (ih _ _ h) ⟨rfl, rfl, rfl, rfl, rfl, rfl, trivial⟩ rfl)
        · refine wCF hp131 tm (s1 rfl) ?_
          refine wExit ?_
          refine pThenX ?_
          refine pThenX ?_
          refine pBlkX ?_
          exact pJ1 _ (so h) ⟨rfl, trivial⟩ rfl
      · rintro x130 rfl
        replace h := hk1
        refine pSeq ?_
        refine wSeq ?_
        refine rg (cp (oMv tm) (s1 rfl) <| cp (oAs tm) (s1 rfl) <| .nil) (by kernel_rfl) ?_
        refine pSeq ?_
        refine wFrzR (n := 0) (id := 1005) [2] rfl rfl ⟨rfl, trivial⟩ ?_
        refine wRet ?_
        obtain rfl := so h
        exact pR1 (.inl rfl) rfl (.tmp rfl <| .nil)

theorem mutant_Weaker.ok {a0 : List Int} {r : (List (List Int)) × Int} (h : mutant_Weaker.f a0 = some r) : FnA Try.prog 18 [(kL (kI .i64)).sig a0] (tup [(kL (kL (kI .i64))).sig r.1, (kI .i64).sig r.2]) := by
  refine fnIntro Try.func18 rfl (by kernel_rfl) fun H0 w0 => ?_
  unfold mutant_Weaker.f at h
  refine wSeq ?_
  refine rg (cp (oAs cV) trivial <| cp (oAs (cI (by decide))) trivial <| .nil) (by kernel_rfl) ?_
  refine pSeq ?_
  refine wSeq ?_
  obtain ⟨o1, h, hk1⟩ := bd h
  refine wJ1 (fun x4 => x4 = o1) (fun x4 => [(0, .d ((kL (kI .i64)).sig a0)), (11, .d (kB.sig x4))]) (fun x4 => []) ?_ ?_
  · obtain ⟨y5, hy5, h⟩ := bd h
    rcases ic h with ⟨hp6, h⟩ | ⟨hp6, h⟩
    · obtain ⟨y7, hy7, h⟩ := bd h
      refine rg (cp (oMv tm) (s1 rfl) <| cp (oCall rfl (rule_Right.ok hy5) b47 (opds_cons tm (opds_cons cB opds_nil))) (s1 rfl) <| cp (oNot tm) (s1 rfl) <| cp (oMv tm) (s1 rfl) <| cgB hp6 rfl rfl (oMv tm) (s1 rfl) <| cgB hp6 rfl rfl (oCall rfl (rule_Right.ok hy7) b47 (opds_cons tm (opds_cons cB opds_nil))) (s1 rfl) <| cgB hp6 rfl rfl (oNot tm) (s1 rfl) <| cp (oPkT hp6 tm tm) (s2 rfl rfl) <| .nil) (by kernel_rfl) ?_
      exact pJ1 _ (so h) ⟨rfl, rfl, trivial⟩ rfl
    · refine rg (cp (oMv tm) (s1 rfl) <| cp (oCall rfl (rule_Right.ok hy5) b47 (opds_cons tm (opds_cons cB opds_nil))) (s1 rfl) <| cp (oNot tm) (s1 rfl) <| cp (oMv tm) (s1 rfl) <| csB (nb hp6) rfl rfl <| csB (nb hp6) rfl rfl <| csB (nb hp6) rfl rfl <| cp (oPkF (nb hp6) tm cB) (s1 rfl) <| .nil) (by kernel_rfl) ?_
      exact pJ1 _ (so h) ⟨rfl, rfl, trivial⟩ rfl
  · rintro x4 rfl
    replace h := hk1
    rcases ic h with ⟨hp8, h⟩ | ⟨hp8, h⟩
    · refine wBT hp8 tm (s1 rfl) ?_
      refine wSeq ?_
      refine rg (cp (oAs cV) trivial <| cp (oAs (cI (by decide))) trivial <| .nil) (by kernel_rfl) ?_
      refine pSeq ?_
      refine wNil (kL (kI .i64)) 22 9002 2 rfl rfl ?_
      refine wFrzR (n := 0) (id := 9002) [2] rfl rfl ⟨rfl, trivial⟩ ?_
      refine wRet ?_
      refine pThenR ?_
      obtain rfl := so h
      exact pRn (.inl rfl) rfl rfl (.tmp rfl <| .tmp rfl <| .nil)
    · refine wBF hp8 tm (s1 rfl) ?_
      refine wSkip ?_
      refine pSeq ?_
      refine wSeq ?_
      obtain ⟨y9, hy9, h⟩ := bd h
      refine rg (cp (oMv tm) (s1 rfl) <| cp (oCall rfl (mutant_weaker.ok hy9) b65 (opds_cons tm opds_nil)) (s1 rfl) <| cp (oAs tm) (s1 rfl) <| cp (oAs (cI (by decide))) trivial <| .nil) (by kernel_rfl) ?_
      refine pSeq ?_
      refine wRet ?_
      obtain rfl := so h
      exact pRn (.inl rfl) rfl rfl (.tmp rfl <| .tmp rfl <| .nil)

theorem reticentref04_two.ok {a0 : List Int} {a1 : Int} {r : Bool} (h : reticentref04_two.f a0 a1 = some r) : FnA Try.prog 63 [(kL (kI .i64)).sig a0, (kI .i64).sig a1] (kB.sig r) := by
  refine fnIntro Try.func63 rfl (by kernel_rfl) fun H0 w0 => ?_
  unfold reticentref04_two.f at h
  refine wSeq ?_
  refine rg (cp (oAs cB) trivial <| .nil) (by kernel_rfl) ?_
  refine pSeq ?_
  refine wSeq ?_
  refine rg (cp (oMv tm) (s1 rfl) <| cp (oLenL u22 tm) (s1 rfl) <| cp (oAs tm) (s1 rfl) <| .nil) (by kernel_rfl) ?_
  refine pSeq ?_
  obtain ⟨o1, h, hk1⟩ := bd h
  refine wJ1 (fun x5 => x5 = o1) (fun x5 => [(4, .d (kB.sig x5))]) (fun x5 => []) ?_ ?_
  · rcases ic h with ⟨hp6, h⟩ | ⟨hp6, h⟩
    · obtain ⟨y7, hy7, h⟩ := bd h
      rcases ic h with ⟨hp8, h⟩ | ⟨hp8, h⟩
      · obtain ⟨y9, hy9, h⟩ := bd h
        refine rg (cp (oMv tm) (s1 rfl) <| cp (oGe rfl tm (cI (by decide))) (s1 rfl) <| cp (oMv tm) (s1 rfl) <| cgB (decide_eq_true hp6) rfl rfl (oMv tm) (s1 rfl) <| cgB (decide_eq_true hp6) rfl rfl (oMv tm) (s1 rfl) <| cgB (decide_eq_true hp6) rfl rfl (oSub tm (cI (by decide))) (s1 rfl) <| cgB (decide_eq_true hp6) rfl rfl (oIdx u22 z3 hy7 tm tm) (s2 rfl rfl) <| cgB (decide_eq_true hp6) rfl rfl (oLd t3 tm) (s1 rfl) <| cgB (decide_eq_true hp6) rfl rfl (oMv tm) (s1 rfl) <| cgB (decide_eq_true hp6) rfl rfl (oEq rfl tm tm) (s2 rfl rfl) <| cp (oPkT (decide_eq_true hp6) tm tm) (s2 rfl rfl) <| cp (oMv tm) (s1 rfl) <| cgB (decide_eq_true hp8) rfl rfl (oMv tm) (s1 rfl) <| cgB (decide_eq_true hp8) rfl rfl (oMv tm) (s1 rfl) <| cgB (decide_eq_true hp8) rfl rfl (oSub tm (cI (by decide))) (s1 rfl) <| cgB (decide_eq_true hp8) rfl rfl (oIdx u22 z3 hy9 tm tm) (s2 rfl rfl) <| cgB (decide_eq_true hp8) rfl rfl (oLd t3 tm) (s1 rfl) <| cgB (decide_eq_true hp8) rfl rfl (oMv tm) (s1 rfl) <| cgB (decide_eq_true hp8) rfl rfl (oEq rfl tm tm) (s2 rfl rfl) <| cp (oPkT (decide_eq_true hp8) tm tm) (s2 rfl rfl) <| cp (oAs tm) (s1 rfl) <| .nil) (by kernel_rfl) ?_
        exact pJ1 _ (so h) ⟨rfl, trivial⟩ rfl
      · refine rg (cp (oMv tm) (s1 rfl) <| cp (oGe rfl tm (cI (by decide))) (s1 rfl) <| cp (oMv tm) (s1 rfl) <| cgB (decide_eq_true hp6) rfl rfl (oMv tm) (s1 rfl) <| cgB (decide_eq_true hp6) rfl rfl (oMv tm) (s1 rfl) <| cgB (decide_eq_true hp6) rfl rfl (oSub tm (cI (by decide))) (s1 rfl) <| cgB (decide_eq_true hp6) rfl rfl (oIdx u22 z3 hy7 tm tm) (s2 rfl rfl) <| cgB (decide_eq_true hp6) rfl rfl (oLd t3 tm) (s1 rfl) <| cgB (decide_eq_true hp6) rfl rfl (oMv tm) (s1 rfl) <| cgB (decide_eq_true hp6) rfl rfl (oEq rfl tm tm) (s2 rfl rfl) <| cp (oPkT (decide_eq_true hp6) tm tm) (s2 rfl rfl) <| cp (oMv tm) (s1 rfl) <| csB (decide_eq_false hp8) rfl rfl <| csB (decide_eq_false hp8) rfl rfl <| csB (decide_eq_false hp8) rfl rfl <| csB (decide_eq_false hp8) rfl rfl <| csB (decide_eq_false hp8) rfl rfl <| csB (decide_eq_false hp8) rfl rfl <| csB (decide_eq_false hp8) rfl rfl <| cp (oPkF (decide_eq_false hp8) tm cB) (s1 rfl) <| cp (oAs tm) (s1 rfl) <| .nil) (by kernel_rfl) ?_
        exact pJ1 _ (so h) ⟨rfl, trivial⟩ rfl
    · refine rg (cp (oMv tm) (s1 rfl) <| cp (oGe rfl tm (cI (by decide))) (s1 rfl) <| cp (oMv tm) (s1 rfl) <| csB (decide_eq_false hp6) rfl rfl <| csB (decide_eq_false hp6) rfl rfl <| csB (decide_eq_false hp6) rfl rfl <| csB (decide_eq_false hp6) rfl rfl <| csB (decide_eq_false hp6) rfl rfl <| csB (decide_eq_false hp6) rfl rfl <| csB (decide_eq_false hp6) rfl rfl <| cp (oPkF (decide_eq_false hp6) tm cB) (s1 rfl) <| cp (oMv tm) (s1 rfl) <| csB rfl rfl rfl <| csB rfl rfl rfl <| csB rfl rfl rfl <| csB rfl rfl rfl <| csB rfl rfl rfl <| csB rfl rfl rfl <| csB rfl rfl rfl <| cp (oPkF rfl tm cB) (s1 rfl) <| cp (oAs tm) (s1 rfl) <| .nil) (by kernel_rfl) ?_
      exact pJ1 _ (so h) ⟨rfl, trivial⟩ rfl
  · rintro x5 rfl
    replace h := hk1
    refine wRet ?_
    obtain rfl := so h
    exact pR1 (.inl rfl) rfl (.tmp rfl <| .nil)

theorem reticentref04_Made.ok {a0 : List Int} {r : Int} (h : reticentref04_Made.f a0 = some r) : FnA Try.prog 15 [(kL (kI .i64)).sig a0] ((kI .i64).sig r) := by
  refine fnIntro Try.func15 rfl (by kernel_rfl) fun H0 w0 => ?_
  unfold reticentref04_Made.f at h
  refine wSeq ?_
  refine rg (cp (oAs (cI (by decide))) trivial <| .nil) (by kernel_rfl) ?_
  refine pSeq ?_
  refine wSeq ?_
  refine rg (cw (oLitR (id := 7) (d := (kI .i64)) el22 (by decide) rfl rfl rfl e0) trivial <| cp (oAs tm) (s1 rfl) <| .nil) (by kernel_rfl) ?_
  refine pSeq ?_
  refine wSeq ?_
  refine wSeq ?_
  refine rg (cp (oMv tm) (s1 rfl) <| cp (oLenL u22 tm) (s1 rfl) <| cp (oMv (cI (by decide))) trivial <| .nil) (by kernel_rfl) ?_
  refine pSeq ?_
  refine wWeak (Γ' := [(0, .d ((kL (kI .i64)).sig a0)), (3, .v 7), (8, .d ((kL (kI .i64)).sig a0)), (9, .d ((kI .i64).sig (a0.length : Int))), (10, .d ((kI .i64).sig 0))]) ⟨rfl, rfl, rfl, rfl, rfl, trivial⟩ ?_
  refine wRen 7 1003 rfl ?_
  obtain ⟨o1, h, hk1⟩ := bd h
  refine wK1 (fun x171 => .inr x171 = o1) (fun x171 => [(0, .d ((kL (kI .i64)).sig a0)), (3, .v 1003)]) (fun x171 => [.row 1003 3 (kI .i64) x171]) ?_ ?_
  · refine wBlock (wLoop ?_)
    refine lW (pc2 o1 (fun v169 v170 => [(0, .d ((kL (kI .i64)).sig a0)), (3, .v 1003), (8, .d ((kL (kI .i64)).sig a0)), (9, .d ((kI .i64).sig (a0.length : Int))), (10, .d ((kI .i64).sig v170))]) (fun v169 v170 => [.row 1003 3 (kI .i64) v169]) (reticentref04_Made.l0.partial_correctness a0) ?_ _ _ h) ⟨rfl, rfl, rfl, rfl, rfl, trivial⟩ rfl
    clear h
    intro f' ih v169 v170 h
    refine wSeq ?_
    refine rg (cp (oLt rfl tm tm) (s2 rfl rfl) <| .nil) (by kernel_rfl) ?_
    refine pSeq ?_
    refine wSeq ?_
    rcases ic h with ⟨hp172, h⟩ | ⟨hp172, h⟩
    · refine wCT hp172 tm (s1 rfl) ?_
      refine wSkip ?_
      refine pSeq ?_
      obtain ⟨o2, h, hk2⟩ := bd h
      refine wJ1 (fun x214 => .inr x214 = o2) (fun x214 => [(0, .d ((kL (kI .i64)).sig a0)), (3, .v 1003), (8, .d ((kL (kI .i64)).sig a0)), (9, .d ((kI .i64).sig (a0.length : Int))), (10, .d ((kI .i64).sig v170))]) (fun x214 => [.row 1003 3 (kI .i64) x214]) ?_ ?_
      · refine wBlock ?_
        refine wSeq ?_
        obtain ⟨y215, hy215, h⟩ := bd h
        refine rg (cp (oIdx u22 z3 hy215 tm tm) (s2 rfl rfl) <| cp (oLd t3 tm) (s1 rfl) <| cp (oAs tm) (s1 rfl) <| .nil) (by kernel_rfl) ?_
        refine pSeq ?_
        refine wSeq ?_
        refine rg (cp (oMv tm) (s1 rfl) <| cr (oLenR (n := 0) u22 rfl tm) (s1 rfl) <| cp (oAs tm) (s1 rfl) <| .nil) (by kernel_rfl) ?_
        refine pSeq ?_
        obtain ⟨o3, h, hk3⟩ := bd h
        refine wJ1 (fun x217 => x217 = o3) (fun x217 => [(0, .d ((kL (kI .i64)).sig a0)), (3, .v 1003), (5, .d ((kI .i64).sig y215)), (6, .d ((kI .i64).sig (v169.length : Int))), (8, .d ((kL (kI .i64)).sig a0)), (9, .d ((kI .i64).sig (a0.length : Int))), (10, .d ((kI .i64).sig v170)), (21, .d (kB.sig x217))]) (fun x217 => [.row 1003 3 (kI .i64) v169]) ?_ ?_
        · rcases ic h with ⟨hp218, h⟩ | ⟨hp218, h⟩
          · refine rg (cp (oMv tm) (s1 rfl) <| cp (oEq rfl tm (cI (by decide))) (s1 rfl) <| cp (oMv tm) (s1 rfl) <| csB (decide_eq_true hp218) rfl rfl <| csB (decide_eq_true hp218) rfl rfl <| cp (oPkT (decide_eq_true hp218) tm cB) (s1 rfl) <| .nil) (by kernel_rfl) ?_
            exact pJ1 _ (so h) ⟨rfl, rfl, rfl, rfl, rfl, rfl, rfl, rfl, trivial⟩ rfl
          · refine rg (cp (oMv tm) (s1 rfl) <| cp (oEq rfl tm (cI (by decide))) (s1 rfl) <| cp (oMv tm) (s1 rfl) <| cgB (decide_eq_false hp218) rfl rfl (oMv tm) (s1 rfl) <| cgB (decide_eq_false hp218) rfl rfl (oEq rfl tm (cI (by decide))) (s1 rfl) <| cp (oPkF (decide_eq_false hp218) tm tm) (s2 rfl rfl) <| .nil) (by kernel_rfl) ?_
            exact pJ1 _ (so h) ⟨rfl, rfl, rfl, rfl, rfl, rfl, rfl, rfl, trivial⟩ rfl
        · rintro x217 rfl
          replace h := hk3
          rcases ic h with ⟨hp219, h⟩ | ⟨hp219, h⟩
          · refine wBT hp219 tm (s1 rfl) ?_
            obtain ⟨hc220, h⟩ := ib h
            refine rg (cp (oMv tm) (s1 rfl) <| cp (oLit (d := (kI .i64)) el22 (by decide) rfl rfl rfl (e1 (cI (by decide)) e0)) trivial <| cw (oApp (n := 0) (id' := 24) el22 (by decide) rfl (by decide) hc220 tm tm) (s2 rfl rfl) <| cp (oAs tm) (s1 rfl) <| .nil) (by kernel_rfl) ?_
            refine pBlkN ?_
            refine pSub (Γ' := [(0, .d ((kL (kI .i64)).sig a0)), (3, .v 24), (8, .d ((kL (kI .i64)).sig a0)), (9, .d ((kI .i64).sig (a0.length : Int))), (10, .d ((kI .i64).sig v170))]) ⟨rfl, rfl, rfl, rfl, rfl, trivial⟩ ?_
            refine pRen 24 1003 rfl ?_
            exact pJ1 _ (so h) ⟨rfl, rfl, rfl, rfl, rfl, trivial⟩ rfl
          · refine wBF hp219 tm (s1 rfl) ?_
            obtain ⟨o3, h, hk3⟩ := bd h
            refine wJ1 (fun x222 => x222 = o3) (fun x222 => [(0, .d ((kL (kI .i64)).sig a0)), (3, .v 1003), (5, .d ((kI .i64).sig y215)), (6, .d ((kI .i64).sig (v169.length : Int))), (8, .d ((kL (kI .i64)).sig a0)), (9, .d ((kI .i64).sig (a0.length : Int))), (10, .d ((kI .i64).sig v170)), (30, .d (kB.sig x222))]) (fun x222 => [.row 1003 3 (kI .i64) v169]) ?_ ?_
            · rcases ic h with ⟨hp223, h⟩ | ⟨hp223, h⟩
              · refine rg (cp (oMv tm) (s1 rfl) <| cp (oGe rfl tm (cI (by decide))) (s1 rfl) <| cp (oMv tm) (s1 rfl) <| cgB (decide_eq_true hp223) rfl rfl (oMv tm) (s1 rfl) <| cgB (decide_eq_true hp223) rfl rfl (oLe rfl tm (cI (by decide))) (s1 rfl) <| cp (oPkT (decide_eq_true hp223) tm tm) (s2 rfl rfl) <| .nil) (by kernel_rfl) ?_
                exact pJ1 _ (so h) ⟨rfl, rfl, rfl, rfl, rfl, rfl, rfl, rfl, trivial⟩ rfl
              · refine rg (cp (oMv tm) (s1 rfl) <| cp (oGe rfl tm (cI (by decide))) (s1 rfl) <| cp (oMv tm) (s1 rfl) <| csB (decide_eq_false hp223) rfl rfl <| csB (decide_eq_false hp223) rfl rfl <| cp (oPkF (decide_eq_false hp223) tm cB) (s1 rfl) <| .nil) (by kernel_rfl) ?_
                exact pJ1 _ (so h) ⟨rfl, rfl, rfl, rfl, rfl, rfl, rfl, rfl, trivial⟩ rfl
            · rintro x222 rfl
              replace h := hk3
              rcases ic h with ⟨hp224, h⟩ | ⟨hp224, h⟩
              · refine wBT hp224 tm (s1 rfl) ?_
                obtain ⟨hc225, h⟩ := ib h
                refine rg (cp (oMv tm) (s1 rfl) <| cp (oLit (d := (kI .i64)) el22 (by decide) rfl rfl rfl (e1 (cI (by decide)) e0)) trivial <| cw (oApp (n := 0) (id' := 33) el22 (by decide) rfl (by decide) hc225 tm tm) (s2 rfl rfl) <| cp (oAs tm) (s1 rfl) <| .nil) (by kernel_rfl) ?_
                refine pBlkN ?_
                refine pSub (Γ' := [(0, .d ((kL (kI .i64)).sig a0)), (3, .v 33), (8, .d ((kL (kI .i64)).sig a0)), (9, .d ((kI .i64).sig (a0.length : Int))), (10, .d ((kI .i64).sig v170))]) ⟨rfl, rfl, rfl, rfl, rfl, trivial⟩ ?_
                refine pRen 33 1003 rfl ?_
                exact pJ1 _ (so h) ⟨rfl, rfl, rfl, rfl, rfl, trivial⟩ rfl
              · refine wBF hp224 tm (s1 rfl) ?_
                obtain ⟨o3, h, hk3⟩ := bd h
                refine wJ1 (fun x230 => x230 = o3) (fun x230 => [(0, .d ((kL (kI .i64)).sig a0)), (3, .v 1003), (5, .d ((kI .i64).sig y215)), (6, .d ((kI .i64).sig (v169.length : Int))), (8, .d ((kL (kI .i64)).sig a0)), (9, .d ((kI .i64).sig (a0.length : Int))), (10, .d ((kI .i64).sig v170)), (43, .d (kB.sig x230))]) (fun x230 => [.row 1003 3 (kI .i64) v169]) ?_ ?_
                · rcases ic h with ⟨hp231, h⟩ | ⟨hp231, h⟩
                  · obtain ⟨y232, hy232, h⟩ := bd h
                    refine rg (cp (oMv tm) (s1 rfl) <| cp (oEq rfl tm (cI (by decide))) (s1 rfl) <| cp (oMv tm) (s1 rfl) <| csB (decide_eq_true hp231) rfl rfl <| csB (decide_eq_true hp231) rfl rfl <| cp (oPkT (decide_eq_true hp231) tm cB) (s1 rfl) <| cp (oMv tm) (s1 rfl) <| cgB rfl rfl rfl (oMv tm) (s1 rfl) <| crgB rfl rfl rfl (oCallB rfl (reticentref04_two.ok hy232) (fK fB) b63 (rc1 (rR (n := 0) rfl) (rc1 (rD (cI (by decide))) rn0))) (s1 rfl) <| cp (oPkT rfl tm tm) (s2 rfl rfl) <| .nil) (by kernel_rfl) ?_
                    exact pJ1 _ (so h) ⟨rfl, rfl, rfl, rfl, rfl, rfl, rfl, rfl, trivial⟩ rfl
                  · rcases ic h with ⟨hp233, h⟩ | ⟨hp233, h⟩
                    · obtain ⟨y234, hy234, h⟩ := bd h
                      refine rg (cp (oMv tm) (s1 rfl) <| cp (oEq rfl tm (cI (by decide))) (s1 rfl) <| cp (oMv tm) (s1 rfl) <| cgB (decide_eq_false hp231) rfl rfl (oMv tm) (s1 rfl) <| cgB (decide_eq_false hp231) rfl rfl (oEq rfl tm (cI (by decide))) (s1 rfl) <| cp (oPkF (decide_eq_false hp231) tm tm) (s2 rfl rfl) <| cp (oMv tm) (s1 rfl) <| cgB (decide_eq_true hp233) rfl rfl (oMv tm) (s1 rfl) <| crgB (decide_eq_true hp233) rfl rfl (oCallB rfl (reticentref04_two.ok hy234) (fK fB) b63 (rc1 (rR (n := 0) rfl) (rc1 (rD (cI (by decide))) rn0))) (s1 rfl) <| cp (oPkT (decide_eq_true hp233) tm tm) (s2 rfl rfl) <| .nil) (by kernel_rfl) ?_
                      exact pJ1 _ (so h) ⟨rfl, rfl, rfl, rfl, rfl, rfl, rfl, rfl, trivial⟩ rfl
                    · refine rg (cp (oMv tm) (s1 rfl) <| cp (oEq rfl tm (cI (by decide))) (s1 rfl) <| cp (oMv tm) (s1 rfl) <| cgB (decide_eq_false hp231) rfl rfl (oMv tm) (s1 rfl) <| cgB (decide_eq_false hp231) rfl rfl (oEq rfl tm (cI (by decide))) (s1 rfl) <| cp (oPkF (decide_eq_false hp231) tm tm) (s2 rfl rfl) <| cp (oMv tm) (s1 rfl) <| csB (decide_eq_false hp233) rfl rfl <| csB (decide_eq_false hp233) rfl rfl <| cp (oPkF (decide_eq_false hp233) tm cB) (s1 rfl) <| .nil) (by kernel_rfl) ?_
                      exact pJ1 _ (so h) ⟨rfl, rfl, rfl, rfl, rfl, rfl, rfl, rfl, trivial⟩ rfl
                · rintro x230 rfl
                  replace h := hk3
                  rcases ic h with ⟨hp235, h⟩ | ⟨hp235, h⟩
                  · refine wBT hp235 tm (s1 rfl) ?_
                    obtain ⟨hc236, h⟩ := ib h
                    refine rg (cp (oMv tm) (s1 rfl) <| cp (oMv tm) (s1 rfl) <| cp (oSub tm (cI (by decide))) (s1 rfl) <| cw (oCutR (n := 0) (id' := 47) u22 z3 rfl hc236.1 hc236.2 tm tm) (s2 rfl rfl) <| cp (oAs tm) (s1 rfl) <| .nil) (by kernel_rfl) ?_
                    refine pBlkN ?_
                    refine pSub (Γ' := [(0, .d ((kL (kI .i64)).sig a0)), (3, .v 47), (8, .d ((kL (kI .i64)).sig a0)), (9, .d ((kI .i64).sig (a0.length : Int))), (10, .d ((kI .i64).sig v170))]) ⟨rfl, rfl, rfl, rfl, rfl, trivial⟩ ?_
                    refine pRen 47 1003 rfl ?_
                    exact pJ1 _ (so h) ⟨rfl, rfl, rfl, rfl, rfl, trivial⟩ rfl
                  · refine wBF hp235 tm (s1 rfl) ?_
                    obtain ⟨o3, h, hk3⟩ := bd h
                    refine wJ1 (fun x239 => x239 = o3) (fun x239 => [(0, .d ((kL (kI .i64)).sig a0)), (3, .v 1003), (5, .d ((kI .i64).sig y215)), (6, .d ((kI .i64).sig (v169.length : Int))), (8, .d ((kL (kI .i64)).sig a0)), (9, .d ((kI .i64).sig (a0.length : Int))), (10, .d ((kI .i64).sig v170)), (53, .d (kB.sig x239))]) (fun x239 => [.row 1003 3 (kI .i64) v169]) ?_ ?_
                    · rcases ic h with ⟨hp240, h⟩ | ⟨hp240, h⟩
                      · obtain ⟨y241, hy241, h⟩ := bd h
                        refine rg (cp (oMv tm) (s1 rfl) <| cp (oEq rfl tm (cI (by decide))) (s1 rfl) <| cp (oMv tm) (s1 rfl) <| cgB (decide_eq_true hp240) rfl rfl (oMv tm) (s1 rfl) <| crgB (decide_eq_true hp240) rfl rfl (oCallB rfl (reticentref04_two.ok hy241) (fK fB) b63 (rc1 (rR (n := 0) rfl) (rc1 (rD (cI (by decide))) rn0))) (s1 rfl) <| cp (oPkT (decide_eq_true hp240) tm tm) (s2 rfl rfl) <| .nil) (by kernel_rfl) ?_
                        exact pJ1 _ (so h) ⟨rfl, rfl, rfl, rfl, rfl, rfl, rfl, rfl, trivial⟩ rfl
                      · refine rg (cp (oMv tm) (s1 rfl) <| cp (oEq rfl tm (cI (by decide))) (s1 rfl) <| cp (oMv tm) (s1 rfl) <| csB (decide_eq_false hp240) rfl rfl <| csB (decide_eq_false hp240) rfl rfl <| cp (oPkF (decide_eq_false hp240) tm cB) (s1 rfl) <| .nil) (by kernel_rfl) ?_
                        exact pJ1 _ (so h) ⟨rfl, rfl, rfl, rfl, rfl, rfl, rfl, rfl, trivial⟩ rfl
                    · rintro x239 rfl
                      replace h := hk3
                      rcases ic h with ⟨hp242, h⟩ | ⟨hp242, h⟩
                      · refine wBT hp242 tm (s1 rfl) ?_
                        refine wSeq ?_
                        obtain ⟨hc243, h⟩ := ib h
                        refine rg (cp (oMv tm) (s1 rfl) <| cp (oMv tm) (s1 rfl) <| cp (oSub tm (cI (by decide))) (s1 rfl) <| cw (oCutR (n := 0) (id' := 57) u22 z3 rfl hc243.1 hc243.2 tm tm) (s2 rfl rfl) <| cp (oAs tm) (s1 rfl) <| .nil) (by kernel_rfl) ?_
                        refine pSeq ?_
                        obtain ⟨hc244, h⟩ := ib h
                        refine rg (cp (oMv tm) (s1 rfl) <| cp (oLit (d := (kI .i64)) el22 (by decide) rfl rfl rfl (e1 (cI (by decide)) e0)) trivial <| cw (oApp (n := 0) (id' := 60) el22 (by decide) rfl (by decide) hc244 tm tm) (s2 rfl rfl) <| cp (oAs tm) (s1 rfl) <| .nil) (by kernel_rfl) ?_
                        refine pBlkN ?_
                        refine pSub (Γ' := [(0, .d ((kL (kI .i64)).sig a0)), (3, .v 60), (8, .d ((kL (kI .i64)).sig a0)), (9, .d ((kI .i64).sig (a0.length : Int))), (10, .d ((kI .i64).sig v170))]) ⟨rfl, rfl, rfl, rfl, rfl, trivial⟩ ?_
                        refine pRen 60 1003 rfl ?_
                        exact pJ1 _ (so h) ⟨rfl, rfl, rfl, rfl, rfl, trivial⟩ rfl
                      · refine wBF hp242 tm (s1 rfl) ?_
                        obtain ⟨o3, h, hk3⟩ := bd h
                        refine wJ1 (fun x249 => x249 = o3) (fun x249 => [(0, .d ((kL (kI .i64)).sig a0)), (3, .v 1003), (6, .d ((kI .i64).sig (v169.length : Int))), (8, .d ((kL (kI .i64)).sig a0)), (9, .d ((kI .i64).sig (a0.length : Int))), (10, .d ((kI .i64).sig v170)), (70, .d (kB.sig x249))]) (fun x249 => [.row 1003 3 (kI .i64) v169]) ?_ ?_
                        · rcases ic h with ⟨hp250, h⟩ | ⟨hp250, h⟩
                          · obtain ⟨y251, hy251, h⟩ := bd h
                            refine rg (cp (oMv tm) (s1 rfl) <| cp (oEq rfl tm (cI (by decide))) (s1 rfl) <| cp (oMv tm) (s1 rfl) <| csB (decide_eq_true hp250) rfl rfl <| csB (decide_eq_true hp250) rfl rfl <| cp (oPkT (decide_eq_true hp250) tm cB) (s1 rfl) <| cp (oMv tm) (s1 rfl) <| cgB rfl rfl rfl (oMv tm) (s1 rfl) <| crgB rfl rfl rfl (oCallB rfl (reticentref04_two.ok hy251) (fK fB) b63 (rc1 (rR (n := 0) rfl) (rc1 (rD (cI (by decide))) rn0))) (s1 rfl) <| cp (oPkT rfl tm tm) (s2 rfl rfl) <| .nil) (by kernel_rfl) ?_
                            exact pJ1 _ (so h) ⟨rfl, rfl, rfl, rfl, rfl, rfl, rfl, trivial⟩ rfl
                          · rcases ic h with ⟨hp252, h⟩ | ⟨hp252, h⟩
                            · obtain ⟨y253, hy253, h⟩ := bd h
                              refine rg (cp (oMv tm) (s1 rfl) <| cp (oEq rfl tm (cI (by decide))) (s1 rfl) <| cp (oMv tm) (s1 rfl) <| cgB (decide_eq_false hp250) rfl rfl (oMv tm) (s1 rfl) <| cgB (decide_eq_false hp250) rfl rfl (oEq rfl tm (cI (by decide))) (s1 rfl) <| cp (oPkF (decide_eq_false hp250) tm tm) (s2 rfl rfl) <| cp (oMv tm) (s1 rfl) <| cgB (decide_eq_true hp252) rfl rfl (oMv tm) (s1 rfl) <| crgB (decide_eq_true hp252) rfl rfl (oCallB rfl (reticentref04_two.ok hy253) (fK fB) b63 (rc1 (rR (n := 0) rfl) (rc1 (rD (cI (by decide))) rn0))) (s1 rfl) <| cp (oPkT (decide_eq_true hp252) tm tm) (s2 rfl rfl) <| .nil) (by kernel_rfl) ?_
                              exact pJ1 _ (so h) ⟨rfl, rfl, rfl, rfl, rfl, rfl, rfl, trivial⟩ rfl
                            · refine rg (cp (oMv tm) (s1 rfl) <| cp (oEq rfl tm (cI (by decide))) (s1 rfl) <| cp (oMv tm) (s1 rfl) <| cgB (decide_eq_false hp250) rfl rfl (oMv tm) (s1 rfl) <| cgB (decide_eq_false hp250) rfl rfl (oEq rfl tm (cI (by decide))) (s1 rfl) <| cp (oPkF (decide_eq_false hp250) tm tm) (s2 rfl rfl) <| cp (oMv tm) (s1 rfl) <| csB (decide_eq_false hp252) rfl rfl <| csB (decide_eq_false hp252) rfl rfl <| cp (oPkF (decide_eq_false hp252) tm cB) (s1 rfl) <| .nil) (by kernel_rfl) ?_
                              exact pJ1 _ (so h) ⟨rfl, rfl, rfl, rfl, rfl, rfl, rfl, trivial⟩ rfl
                        · rintro x249 rfl
                          replace h := hk3
                          rcases ic h with ⟨hp254, h⟩ | ⟨hp254, h⟩
                          · refine wBT hp254 tm (s1 rfl) ?_
                            obtain ⟨hc255, h⟩ := ib h
                            refine rg (cp (oMv tm) (s1 rfl) <| cp (oMv tm) (s1 rfl) <| cp (oSub tm (cI (by decide))) (s1 rfl) <| cw (oCutR (n := 0) (id' := 74) u22 z3 rfl hc255.1 hc255.2 tm tm) (s2 rfl rfl) <| cp (oAs tm) (s1 rfl) <| .nil) (by kernel_rfl) ?_
                            refine pBlkN ?_
                            refine pSub (Γ' := [(0, .d ((kL (kI .i64)).sig a0)), (3, .v 74), (8, .d ((kL (kI .i64)).sig a0)), (9, .d ((kI .i64).sig (a0.length : Int))), (10, .d ((kI .i64).sig v170))]) ⟨rfl, rfl, rfl, rfl, rfl, trivial⟩ ?_
                            refine pRen 74 1003 rfl ?_
                            exact pJ1 _ (so h) ⟨rfl, rfl, rfl, rfl, rfl, trivial⟩ rfl
                          · refine wBF hp254 tm (s1 rfl) ?_
                            refine wSeq ?_
                            refine rg (cp (oAs (cI (by decide))) trivial <| .nil) (by kernel_rfl) ?_
                            refine pSeq ?_
                            refine wRet ?_
                            refine pBlkR ?_
                            refine pThenR ?_
                            obtain rfl := so h
                            replace h := hk2
                            refine pThenR ?_
                            refine pBlkR ?_
                            refine pThenR ?_
                            obtain rfl := so h
                            replace h := hk1
                            refine pThenR ?_
                            obtain rfl := so h
                            exact pR1 (.inl rfl) rfl (.tmp rfl <| .nil)
      · rintro x214 rfl
        replace h := hk2
        refine rg (cp (oAdd tm (cI (by decide))) (s1 rfl) <| cp (oMv tm) (s1 rfl) <| .nil) (by kernel_rfl) ?_
        exact pLoop (lW (ih _ _ h) ⟨rfl, rfl, rfl, rfl, rfl, trivial⟩ rfl)
    · refine wCF hp172 tm (s1 rfl) ?_
      refine wExit ?_
      refine pThenX ?_
      refine pThenX ?_
      refine pBlkX ?_
      exact pJ1 _ (so h) ⟨rfl, rfl, trivial⟩ rfl
  · rintro x171 rfl
    replace h := hk1
    refine pSeq ?_
    refine wSeq ?_
    obtain ⟨o1, h, hk1⟩ := bd h
    refine wJ1 (fun x257 => x257 = o1) (fun x257 => [(3, .v 1003), (83, .d (kB.sig x257))]) (fun x257 => [.row 1003 3 (kI .i64) x171]) ?_ ?_
    · rcases ic h with ⟨hp258, h⟩ | ⟨hp258, h⟩
      · refine rg (cp (oMv tm) (s1 rfl) <| cr (oLenR (n := 0) u22 rfl tm) (s1 rfl) <| cp (oNe rfl tm (cI (by decide))) (s1 rfl) <| cp (oMv tm) (s1 rfl) <| cgB (nf hp258) rfl rfl (oMv tm) (s1 rfl) <| cgB (nf hp258) rfl rfl (oLenL u22 tm) (s1 rfl) <| cgB (nf hp258) rfl rfl (oGt rfl tm (cI (by decide))) (s1 rfl) <| cp (oPkF (nf hp258) tm tm) (s2 rfl rfl) <| .nil) (by kernel_rfl) ?_
        exact pJ1 _ (so h) ⟨rfl, rfl, trivial⟩ rfl
      · refine rg (cp (oMv tm) (s1 rfl) <| cr (oLenR (n := 0) u22 rfl tm) (s1 rfl) <| cp (oNe rfl tm (cI (by decide))) (s1 rfl) <| cp (oMv tm) (s1 rfl) <| csB (nt hp258) rfl rfl <| csB (nt hp258) rfl rfl <| csB (nt hp258) rfl rfl <| cp (oPkT (nt hp258) tm cB) (s1 rfl) <| .nil) (by kernel_rfl) ?_
        exact pJ1 _ (so h) ⟨rfl, rfl, trivial⟩ rfl
    · rintro x257 rfl
      replace h := hk1
      rcases ic h with ⟨hp259, h⟩ | ⟨hp259, h⟩
      · refine wBT hp259 tm (s1 rfl) ?_
        refine wSeq ?_
        refine rg (cp (oAs (cI (by decide))) trivial <| .nil) (by kernel_rfl) ?_
        refine pSeq ?_
        refine wRet ?_
        refine pThenR ?_
        obtain rfl := so h
        exact pR1 (.inl rfl) rfl (.tmp rfl <| .nil)
      · refine wBF hp259 tm (s1 rfl) ?_
        refine wSkip ?_
        refine pSeq ?_
        refine wSeq ?_
        obtain ⟨y260, hy260, h⟩ := bd h
        refine rg (cp (oMv tm) (s1 rfl) <| cr (oIdxR (n := 0) u22 z3 rfl hy260 tm (cI (by decide))) (s1 rfl) <| cr (oLdE (n := 0) rfl hy260 rfl t3 tm) (s1 rfl) <| cp (oAs tm) (s1 rfl) <| .nil) (by kernel_rfl) ?_
        refine pSeq ?_
        refine wRet ?_
        obtain rfl := so h
        exact pR1 (.inl rfl) rfl (.tmp rfl <| .nil)

theorem reticentref04_Same.ok {a0 : List Int} {a1 : List Int} {r : Bool} (h : reticentref04_Same.f a0 a1 = some r) : FnA Try.prog 21 [(kL (kI .i64)).sig a0, (kL (kI .i64)).sig a1] (kB.sig r) := by
  refine fnIntro Try.func21 rfl (by kernel_rfl) fun H0 w0 => ?_
  unfold reticentref04_Same.f at h
  refine wSeq ?_
  refine rg (cp (oAs cB) trivial <| .nil) (by kernel_rfl) ?_
  refine pSeq ?_
  refine wSeq ?_
  refine wSeq ?_
  refine rg (cp (oMv tm) (s1 rfl) <| cp (oLenL u22 tm) (s1 rfl) <| cp (oMv tm) (s1 rfl) <| cp (oLenL u22 tm) (s1 rfl) <| cp (oNe rfl tm tm) (s2 rfl rfl) <| .nil) (by kernel_rfl) ?_
  refine pSeq ?_
  rcases ic h with ⟨hp1, h⟩ | ⟨hp1, h⟩
  · refine wNT hp1 tm (s1 rfl) ?_
    refine wSkip ?_
    refine pSeq ?_
    refine wSeq ?_
    refine wSeq ?_
    refine rg (cp (oMv tm) (s1 rfl) <| cp (oLenL u22 tm) (s1 rfl) <| cp (oMv (cI (by decide))) trivial <| .nil) (by kernel_rfl) ?_
    refine pSeq ?_
    obtain ⟨o1, h, hk1⟩ := bd h
    refine wK0 (.inr () = o1) ([]) ([]) ?_ ?_
    · refine wBlock (wLoop ?_)
      refine lW (pc1 o1 (fun v10 => [(0, .d ((kL (kI .i64)).sig a0)), (1, .d ((kL (kI .i64)).sig a1)), (12, .d ((kI .i64).sig (a0.length : Int))), (13, .d ((kI .i64).sig v10))]) (fun v10 => []) (reticentref04_Same.l0.partial_correctness a0 a1) ?_ _ h) ⟨rfl, rfl, rfl, rfl, trivial⟩ rfl
      clear h
      intro f' ih v10 h
      refine wSeq ?_
      refine rg (cp (oLt rfl tm tm) (s2 rfl rfl) <| .nil) (by kernel_rfl) ?_
      refine pSeq ?_
      refine wSeq ?_
      rcases ic h with ⟨hp11, h⟩ | ⟨hp11, h⟩
      · refine wCT hp11 tm (s1 rfl) ?_
        refine wSkip ?_
        refine pSeq ?_
        refine wSeq ?_
        refine wBlock ?_
        refine wSeq ?_
        refine rg (cp (oMv tm) (s1 rfl) <| cp (oAs tm) (s1 rfl) <| .nil) (by kernel_rfl) ?_
        refine pSeq ?_
        refine wSeq ?_
        obtain ⟨y12, hy12, h⟩ := bd h
        obtain ⟨y13, hy13, h⟩ := bd h
        refine rgD hm (cp (oMv tm) (s1 rfl) <| cp (oMv tm) (s1 rfl) <| cp (oIdx u22 z3 hy12 tm tm) (s2 rfl rfl) <| cp (oLd t3 tm) (s1 rfl) <| cp (oMv tm) (s1 rfl) <| cp (oMv tm) (s1 rfl) <| cp (oIdx u22 z3 hy13 tm tm) (s2 rfl rfl) <| cp (oLd t3 tm) (s1 rfl) <| cp (oNe rfl tm tm) (s2 rfl rfl) <| .nil) (by kernel_rfl) (by kernel_rfl) ?_
        refine pSeq ?_
        rcases ic h with ⟨hp14, h⟩ | ⟨hp14, h⟩
        · refine wNT hp14 tm (s1 rfl) ?_
          refine wSkip ?_
          refine pBlkN ?_
          refine pSeq ?_
          refine rg (cp (oAdd tm (cI (by decide))) (s1 rfl) <| cp (oMv tm) (s1 rfl) <| .nil) (by kernel_rfl) ?_
          exact pLoop (lW (ih _ h) ⟨rfl, rfl, rfl, rfl, trivial⟩ rfl)
        · refine wNF hp14 tm (s1 rfl) ?_
          refine wSeq ?_
          refine rg (cp (oAs cB) trivial <| .nil) (by kernel_rfl) ?_
          refine pSeq ?_
          refine wRet ?_
          refine pBlkR ?_
          refine pThenR ?_
          refine pThenR ?_
          refine pBlkR ?_
          refine pThenR ?_
          obtain rfl := so h
          replace h := hk1
          refine pThenR ?_
          obtain rfl := so h
          exact pR1 (.inl rfl) rfl (.tmp rfl <| .nil)
      · refine wCF hp11 tm (s1 rfl) ?_
        refine wExit ?_
        refine pThenX ?_
        refine pThenX ?_
        refine pBlkX ?_
        exact pJ0 (so h) trivial rfl
    · rintro rfl
      replace h := hk1
      refine pSeq ?_
      refine wSeq ?_
      refine rg (cp (oAs cB) trivial <| .nil) (by kernel_rfl) ?_
      refine pSeq ?_
      refine wRet ?_
      obtain rfl := so h
      exact pR1 (.inl rfl) rfl (.tmp rfl <| .nil)
  · refine wNF hp1 tm (s1 rfl) ?_
    refine wSeq ?_
    refine rg (cp (oAs cB) trivial <| .nil) (by kernel_rfl) ?_
    refine pSeq ?_
    refine wRet ?_
    refine pThenR ?_
    obtain rfl := so h
    exact pR1 (.inl rfl) rfl (.tmp rfl <| .nil)

theorem reticentlaw24_alive.ok {r : Bool} (h : reticentlaw24_alive.f = some r) : FnA Try.prog 19 [] (kB.sig r) := by
  refine fnIntro Try.func19 rfl (by kernel_rfl) fun H0 w0 => ?_
  unfold reticentlaw24_alive.f at h
  refine wSeq ?_
  refine rg (cp (oAs cB) trivial <| .nil) (by kernel_rfl) ?_
  refine pSeq ?_
  refine wSeq ?_
  obtain ⟨y1, hy1, h⟩ := bd h
  refine rg (cp (oLit (d := (kI .i64)) el22 (by decide) rfl rfl rfl (e1 (cI (by decide)) (e1 (cI (by decide)) (e1 (cI (by decide)) e0)))) trivial <| cp (oCall rfl (mutant_Weaker.ok hy1) b18 (opds_cons tm opds_nil)) (s1 rfl) <| cp (oMv tm) (s1 rfl) <| cp (oExt (k := 0) rfl tm) (s1 rfl) <| cp (oExt (k := 1) rfl tm) (s1 rfl) <| cp (oAs tm) (s1 rfl) <| cp (oAs tm) (s1 rfl) <| .nil) (by kernel_rfl) ?_
  refine pSeq ?_
  obtain ⟨o1, h, hk1⟩ := bd h
  refine wJ1 (fun x12 => x12 = o1) (fun x12 => [(0, .d (kB.sig x12))]) (fun x12 => []) ?_ ?_
  · rcases ic h with ⟨hp13, h⟩ | ⟨hp13, h⟩
    · rcases ic h with ⟨hp14, h⟩ | ⟨hp14, h⟩
      · obtain ⟨y15, hy15, h⟩ := bd h
        obtain ⟨y16, hy16, h⟩ := bd h
        rcases ic h with ⟨hp17, h⟩ | ⟨hp17, h⟩
        · obtain ⟨y18, hy18, h⟩ := bd h
          obtain ⟨y19, hy19, h⟩ := bd h
          rcases ic h with ⟨hp20, h⟩ | ⟨hp20, h⟩
          · obtain ⟨y21, hy21, h⟩ := bd h
            obtain ⟨y22, hy22, h⟩ := bd h
            refine rg (cp (oMv tm) (s1 rfl) <| cp (oEq rfl tm (cI (by decide))) (s1 rfl) <| cp (oMv tm) (s1 rfl) <| cgB (decide_eq_true hp13) rfl rfl (oMv tm) (s1 rfl) <| cgB (decide_eq_true hp13) rfl rfl (oLenL u29 tm) (s1 rfl) <| cgB (decide_eq_true hp13) rfl rfl (oEq rfl tm (cI (by decide))) (s1 rfl) <| cp (oPkT (decide_eq_true hp13) tm tm) (s2 rfl rfl) <| cp (oMv tm) (s1 rfl) <| cgB (decide_eq_true hp14) rfl rfl (oMv tm) (s1 rfl) <| cgB (decide_eq_true hp14) rfl rfl (oIdx u29 z22 hy15 tm (cI (by decide))) (s1 rfl) <| cgB (decide_eq_true hp14) rfl rfl (oLd t22 tm) (s1 rfl) <| cgB (decide_eq_true hp14) rfl rfl (oLit (d := (kI .i64)) el22 (by decide) rfl rfl rfl (e1 (cI (by decide)) e0)) trivial <| cgB (decide_eq_true hp14) rfl rfl (oCall rfl (reticentref04_Same.ok hy16) b21 (opds_cons tm (opds_cons tm opds_nil))) (s2 rfl rfl) <| cp (oPkT (decide_eq_true hp14) tm tm) (s2 rfl rfl) <| cp (oMv tm) (s1 rfl) <| cgB hp17 rfl rfl (oMv tm) (s1 rfl) <| cgB hp17 rfl rfl (oIdx u29 z22 hy18 tm (cI (by decide))) (s1 rfl) <| cgB hp17 rfl rfl (oLd t22 tm) (s1 rfl) <| cgB hp17 rfl rfl (oLit (d := (kI .i64)) el22 (by decide) rfl rfl rfl (e1 (cI (by decide)) e0)) trivial <| cgB hp17 rfl rfl (oCall rfl (reticentref04_Same.ok hy19) b21 (opds_cons tm (opds_cons tm opds_nil))) (s2 rfl rfl) <| cp (oPkT hp17 tm tm) (s2 rfl rfl) <| cp (oMv tm) (s1 rfl) <| cgB hp20 rfl rfl (oMv tm) (s1 rfl) <| cgB hp20 rfl rfl (oIdx u29 z22 hy21 tm (cI (by decide))) (s1 rfl) <| cgB hp20 rfl rfl (oLd t22 tm) (s1 rfl) <| cgB hp20 rfl rfl (oLit (d := (kI .i64)) el22 (by decide) rfl rfl rfl (e1 (cI (by decide)) e0)) trivial <| cgB hp20 rfl rfl (oCall rfl (reticentref04_Same.ok hy22) b21 (opds_cons tm (opds_cons tm opds_nil))) (s2 rfl rfl) <| cp (oPkT hp20 tm tm) (s2 rfl rfl) <| cp (oAs tm) (s1 rfl) <| .nil) (by kernel_rfl) ?_
            exact pJ1 _ (so h) ⟨rfl, trivial⟩ rfl
          · refine rg (cp (oMv tm) (s1 rfl) <| cp (oEq rfl tm (cI (by decide))) (s1 rfl) <| cp (oMv tm) (s1 rfl) <| cgB (decide_eq_true hp13) rfl rfl (oMv tm) (s1 rfl) <| cgB (decide_eq_true hp13) rfl rfl (oLenL u29 tm) (s1 rfl) <| cgB (decide_eq_true hp13) rfl rfl (oEq rfl tm (cI (by decide))) (s1 rfl) <| cp (oPkT (decide_eq_true hp13) tm tm) (s2 rfl rfl) <| cp (oMv tm) (s1 rfl) <| cgB (decide_eq_true hp14) rfl rfl (oMv tm) (s1 rfl) <| cgB (decide_eq_true hp14) rfl rfl (oIdx u29 z22 hy15 tm (cI (by decide))) (s1 rfl) <| cgB (decide_eq_true hp14) rfl rfl (oLd t22 tm) (s1 rfl) <| cgB (decide_eq_true hp14) rfl rfl (oLit (d := (kI .i64)) el22 (by decide) rfl rfl rfl (e1 (cI (by decide)) e0)) trivial <| cgB (decide_eq_true hp14) rfl rfl (oCall rfl (reticentref04_Same.ok hy16) b21 (opds_cons tm (opds_cons tm opds_nil))) (s2 rfl rfl) <| cp (oPkT (decide_eq_true hp14) tm tm) (s2 rfl rfl) <| cp (oMv tm) (s1 rfl) <| cgB hp17 rfl rfl (oMv tm) (s1 rfl) <| cgB hp17 rfl rfl (oIdx u29 z22 hy18 tm (cI (by decide))) (s1 rfl) <| cgB hp17 rfl rfl (oLd t22 tm) (s1 rfl) <| cgB hp17 rfl rfl (oLit (d := (kI .i64)) el22 (by decide) rfl rfl rfl (e1 (cI (by decide)) e0)) trivial <| cgB hp17 rfl rfl (oCall rfl (reticentref04_Same.ok hy19) b21 (opds_cons tm (opds_cons tm opds_nil))) (s2 rfl rfl) <| cp (oPkT hp17 tm tm) (s2 rfl rfl) <| cp (oMv tm) (s1 rfl) <| csB (nb hp20) rfl rfl <| csB (nb hp20) rfl rfl <| csB (nb hp20) rfl rfl <| csB (nb hp20) rfl rfl <| csB (nb hp20) rfl rfl <| cp (oPkF (nb hp20) tm cB) (s1 rfl) <| cp (oAs tm) (s1 rfl) <| .nil) (by kernel_rfl) ?_
            exact pJ1 _ (so h) ⟨rfl, trivial⟩ rfl
        · refine rg (cp (oMv tm) (s1 rfl) <| cp (oEq rfl tm (cI (by decide))) (s1 rfl) <| cp (oMv tm) (s1 rfl) <| cgB (decide_eq_true hp13) rfl rfl (oMv tm) (s1 rfl) <| cgB (decide_eq_true hp13) rfl rfl (oLenL u29 tm) (s1 rfl) <| cgB (decide_eq_true hp13) rfl rfl (oEq rfl tm (cI (by decide))) (s1 rfl) <| cp (oPkT (decide_eq_true hp13) tm tm) (s2 rfl rfl) <| cp (oMv tm) (s1 rfl) <| cgB (decide_eq_true hp14) rfl rfl (oMv tm) (s1 rfl) <| cgB (decide_eq_true hp14) rfl rfl (oIdx u29 z22 hy15 tm (cI (by decide))) (s1 rfl) <| cgB (decide_eq_true hp14) rfl rfl (oLd t22 tm) (s1 rfl) <| cgB (decide_eq_true hp14) rfl rfl (oLit (d := (kI .i64)) el22 (by decide) rfl rfl rfl (e1 (cI (by decide)) e0)) trivial <| cgB (decide_eq_true hp14) rfl rfl (oCall rfl (reticentref04_Same.ok hy16) b21 (opds_cons tm (opds_cons tm opds_nil))) (s2 rfl rfl) <| cp (oPkT (decide_eq_true hp14) tm tm) (s2 rfl rfl) <| cp (oMv tm) (s1 rfl) <| csB (nb hp17) rfl rfl <| csB (nb hp17) rfl rfl <| csB (nb hp17) rfl rfl <| csB (nb hp17) rfl rfl <| csB (nb hp17) rfl rfl <| cp (oPkF (nb hp17) tm cB) (s1 rfl) <| cp (oMv tm) (s1 rfl) <| csB rfl rfl rfl <| csB rfl rfl rfl <| csB rfl rfl rfl <| csB rfl rfl rfl <| csB rfl rfl rfl <| cp (oPkF rfl tm cB) (s1 rfl) <| cp (oAs tm) (s1 rfl) <| .nil) (by kernel_rfl) ?_
          exact pJ1 _ (so h) ⟨rfl, trivial⟩ rfl
      · refine rg (cp (oMv tm) (s1 rfl) <| cp (oEq rfl tm (cI (by decide))) (s1 rfl) <| cp (oMv tm) (s1 rfl) <| cgB (decide_eq_true hp13) rfl rfl (oMv tm) (s1 rfl) <| cgB (decide_eq_true hp13) rfl rfl (oLenL u29 tm) (s1 rfl) <| cgB (decide_eq_true hp13) rfl rfl (oEq rfl tm (cI (by decide))) (s1 rfl) <| cp (oPkT (decide_eq_true hp13) tm tm) (s2 rfl rfl) <| cp (oMv tm) (s1 rfl) <| csB (decide_eq_false hp14) rfl rfl <| csB (decide_eq_false hp14) rfl rfl <| csB (decide_eq_false hp14) rfl rfl <| csB (decide_eq_false hp14) rfl rfl <| csB (decide_eq_false hp14) rfl rfl <| cp (oPkF (decide_eq_false hp14) tm cB) (s1 rfl) <| cp (oMv tm) (s1 rfl) <| csB rfl rfl rfl <| csB rfl rfl rfl <| csB rfl rfl rfl <| csB rfl rfl rfl <| csB rfl rfl rfl <| cp (oPkF rfl tm cB) (s1 rfl) <| cp (oMv tm) (s1 rfl) <| csB rfl rfl rfl <| csB rfl rfl rfl <| csB rfl rfl rfl <| csB rfl rfl rfl <| csB rfl rfl rfl <| cp (oPkF rfl tm cB) (s1 rfl) <| cp (oAs tm) (s1 rfl) <| .nil) (by kernel_rfl) ?_
        exact pJ1 _ (so h) ⟨rfl, trivial⟩ rfl
    · refine rg (cp (oMv tm) (s1 rfl) <| cp (oEq rfl tm (cI (by decide))) (s1 rfl) <| cp (oMv tm) (s1 rfl) <| csB (decide_eq_false hp13) rfl rfl <| csB (decide_eq_false hp13) rfl rfl <| csB (decide_eq_false hp13) rfl rfl <| cp (oPkF (decide_eq_false hp13) tm cB) (s1 rfl) <| cp (oMv tm) (s1 rfl) <| csB rfl rfl rfl <| csB rfl rfl rfl <| csB rfl rfl rfl <| csB rfl rfl rfl <| csB rfl rfl rfl <| cp (oPkF rfl tm cB) (s1 rfl) <| cp (oMv tm) (s1 rfl) <| csB rfl rfl rfl <| csB rfl rfl rfl <| csB rfl rfl rfl <| csB rfl rfl rfl <| csB rfl rfl rfl <| cp (oPkF rfl tm cB) (s1 rfl) <| cp (oMv tm) (s1 rfl) <| csB rfl rfl rfl <| csB rfl rfl rfl <| csB rfl rfl rfl <| csB rfl rfl rfl <| csB rfl rfl rfl <| cp (oPkF rfl tm cB) (s1 rfl) <| cp (oAs tm) (s1 rfl) <| .nil) (by kernel_rfl) ?_
      exact pJ1 _ (so h) ⟨rfl, trivial⟩ rfl
  · rintro x12 rfl
    replace h := hk1
    refine wRet ?_
    obtain rfl := so h
    exact pR1 (.inl rfl) rfl (.tmp rfl <| .nil)

theorem reticentref24_from.okB {rc : (List Int) → Int → Option Int} (hrc : ∀ {a0 : List Int} {a1 : Int} {r : Int}, rc a0 a1 = some r → FnA Try.prog 66 [(kL (kI .i64)).sig a0, (kI .i64).sig a1] ((kI .i64).sig r)) {a0 : List Int} {a1 : Int} {r : Int} (h : reticentref24_from.B rc a0 a1 = some r) : FnA Try.prog 66 [(kL (kI .i64)).sig a0, (kI .i64).sig a1] ((kI .i64).sig r) := by
  refine fnIntro Try.func66 rfl (by kernel_rfl) fun H0 w0 => ?_
  unfold reticentref24_from.B at h
  refine wSeq ?_
  refine rg (cp (oAs (cI (by decide))) trivial <| .nil) (by kernel_rfl) ?_
  refine pSeq ?_
  refine wSeq ?_
  obtain ⟨o1, h, hk1⟩ := bd h
  refine wJ1 (fun x7 => x7 = o1) (fun x7 => [(0, .d ((kL (kI .i64)).sig a0)), (1, .d ((kI .i64).sig a1)), (23, .d (kB.sig x7))]) (fun x7 => []) ?_ ?_
  · obtain ⟨y8, hy8, h⟩ := bd h
    rcases ic h with ⟨hp9, h⟩ | ⟨hp9, h⟩
    · obtain ⟨y10, hy10, h⟩ := bd h
      rcases ic h with ⟨hp11, h⟩ | ⟨hp11, h⟩
      · refine rg (cp (oMv tm) (s1 rfl) <| cp (oMv tm) (s1 rfl) <| cp (oIdx u22 z3 hy8 tm tm) (s2 rfl rfl) <| cp (oLd t3 tm) (s1 rfl) <| cp (oGe rfl tm (cI (by decide))) (s1 rfl) <| cp (oMv tm) (s1 rfl) <| cgB (decide_eq_true hp9) rfl rfl (oMv tm) (s1 rfl) <| cgB (decide_eq_true hp9) rfl rfl (oMv tm) (s1 rfl) <| cgB (decide_eq_true hp9) rfl rfl (oIdx u22 z3 hy10 tm tm) (s2 rfl rfl) <| cgB (decide_eq_true hp9) rfl rfl (oLd t3 tm) (s1 rfl) <| cgB (decide_eq_true hp9) rfl rfl (oLe rfl tm (cI (by decide))) (s1 rfl) <| cp (oPkT (decide_eq_true hp9) tm tm) (s2 rfl rfl) <| cp (oMv tm) (s1 rfl) <| csB (decide_eq_true hp11) rfl rfl <| csB (decide_eq_true hp11) rfl rfl <| csB (decide_eq_true hp11) rfl rfl <| csB (decide_eq_true hp11) rfl rfl <| csB (decide_eq_true hp11) rfl rfl <| cp (oPkT (decide_eq_true hp11) tm cB) (s1 rfl) <| .nil) (by kernel_rfl) ?_
        exact pJ1 _ (so h) ⟨rfl, rfl, rfl, trivial⟩ rfl
      · obtain ⟨y12, hy12, h⟩ := bd h
        refine rg (cp (oMv tm) (s1 rfl) <| cp (oMv tm) (s1 rfl) <| cp (oIdx u22 z3 hy8 tm tm) (s2 rfl rfl) <| cp (oLd t3 tm) (s1 rfl) <| cp (oGe rfl tm (cI (by decide))) (s1 rfl) <| cp (oMv tm) (s1 rfl) <| cgB (decide_eq_true hp9) rfl rfl (oMv tm) (s1 rfl) <| cgB (decide_eq_true hp9) rfl rfl (oMv tm) (s1 rfl) <| cgB (decide_eq_true hp9) rfl rfl (oIdx u22 z3 hy10 tm tm) (s2 rfl rfl) <| cgB (decide_eq_true hp9) rfl rfl (oLd t3 tm) (s1 rfl) <| cgB (decide_eq_true hp9) rfl rfl (oLe rfl tm (cI (by decide))) (s1 rfl) <| cp (oPkT (decide_eq_true hp9) tm tm) (s2 rfl rfl) <| cp (oMv tm) (s1 rfl) <| cgB (decide_eq_false hp11) rfl rfl (oMv tm) (s1 rfl) <| cgB (decide_eq_false hp11) rfl rfl (oMv tm) (s1 rfl) <| cgB (decide_eq_false hp11) rfl rfl (oIdx u22 z3 hy12 tm tm) (s2 rfl rfl) <| cgB (decide_eq_false hp11) rfl rfl (oLd t3 tm) (s1 rfl) <| cgB (decide_eq_false hp11) rfl rfl (oGe rfl tm (cI (by decide))) (s1 rfl) <| cp (oPkF (decide_eq_false hp11) tm tm) (s2 rfl rfl) <| .nil) (by kernel_rfl) ?_
        exact pJ1 _ (so h) ⟨rfl, rfl, rfl, trivial⟩ rfl
    · obtain ⟨y13, hy13, h⟩ := bd h
      refine rg (cp (oMv tm) (s1 rfl) <| cp (oMv tm) (s1 rfl) <| cp (oIdx u22 z3 hy8 tm tm) (s2 rfl rfl) <| cp (oLd t3 tm) (s1 rfl) <| cp (oGe rfl tm (cI (by decide))) (s1 rfl) <| cp (oMv tm) (s1 rfl) <| csB (decide_eq_false hp9) rfl rfl <| csB (decide_eq_false hp9) rfl rfl <| csB (decide_eq_false hp9) rfl rfl <| csB (decide_eq_false hp9) rfl rfl <| csB (decide_eq_false hp9) rfl rfl <| cp (oPkF (decide_eq_false hp9) tm cB) (s1 rfl) <| cp (oMv tm) (s1 rfl) <| cgB rfl rfl rfl (oMv tm) (s1 rfl) <| cgB rfl rfl rfl (oMv tm) (s1 rfl) <| cgB rfl rfl rfl (oIdx u22 z3 hy13 tm tm) (s2 rfl rfl) <| cgB rfl rfl rfl (oLd t3 tm) (s1 rfl) <| cgB rfl rfl rfl (oGe rfl tm (cI (by decide))) (s1 rfl) <| cp (oPkF rfl tm tm) (s2 rfl rfl) <| .nil) (by kernel_rfl) ?_
      exact pJ1 _ (so h) ⟨rfl, rfl, rfl, trivial⟩ rfl
  · rintro x7 rfl
    replace h := hk1
    rcases ic h with ⟨hp14, h⟩ | ⟨hp14, h⟩
    · refine wBT hp14 tm (s1 rfl) ?_
      refine wSeq ?_
      obtain ⟨y15, hy15, h⟩ := bd h
      obtain ⟨y16, hy16, h⟩ := bd h
      refine rg (cp (oMv tm) (s1 rfl) <| cp (oMv tm) (s1 rfl) <| cp (oMv tm) (s1 rfl) <| cp (oSub tm (cI (by decide))) (s1 rfl) <| cp (oCall rfl (hrc hy15) b66 (opds_cons tm (opds_cons tm opds_nil))) (s2 rfl rfl) <| cp (oSub tm (cI (by decide))) (s1 rfl) <| cp (oCall rfl (hrc hy16) b66 (opds_cons tm (opds_cons tm opds_nil))) (s2 rfl rfl) <| cp (oAs tm) (s1 rfl) <| .nil) (by kernel_rfl) ?_
      refine pSeq ?_
      refine wRet ?_
      refine pThenR ?_
      obtain rfl := so h
      exact pR1 (.inl rfl) rfl (.tmp rfl <| .nil)
    · refine wBF hp14 tm (s1 rfl) ?_
      refine wSkip ?_
      refine pSeq ?_
      refine wSeq ?_
      refine rg (cp (oMv tm) (s1 rfl) <| cp (oAs tm) (s1 rfl) <| .nil) (by kernel_rfl) ?_
      refine pSeq ?_
      refine wRet ?_
      obtain rfl := so h
      exact pR1 (.inl rfl) rfl (.tmp rfl <| .nil)
theorem reticentref24_from.okF : ∀ (k : Nat) {a0 : List Int} {a1 : Int} {r : Int}, reticentref24_from.F k a0 a1 = some r → FnA Try.prog 66 [(kL (kI .i64)).sig a0, (kI .i64).sig a1] ((kI .i64).sig r)
  | 0, _, _, _, h => by cases h
  | k + 1, _, _, _, h => reticentref24_from.okB (fun h => reticentref24_from.okF k h) h
theorem reticentref24_from.ok {a0 : List Int} {a1 : Int} {r : Int} (h : reticentref24_from.f a0 a1 = some r) : FnA Try.prog 66 [(kL (kI .i64)).sig a0, (kI .i64).sig a1] ((kI .i64).sig r) := reticentref24_from.okF 1000 h

theorem reticentref24_but.ok {a0 : List Int} {a1 : Int} {a2 : Int} {a3 : Int} {r : List Int} (h : reticentref24_but.f a0 a1 a2 a3 = some r) : FnA Try.prog 67 [(kL (kI .i64)).sig a0, (kI .i64).sig a1, (kI .i64).sig a2, (kI .i64).sig a3] ((kL (kI .i64)).sig r) := by
  refine fnIntro Try.func67 rfl (by kernel_rfl) fun H0 w0 => ?_
  unfold reticentref24_but.f at h
  refine wSeq ?_
  refine rg (cp (oAs cV) trivial <| .nil) (by kernel_rfl) ?_
  refine pSeq ?_
  refine wSeq ?_
  refine rg (cw (oLitR (id := 12) (d := (kI .i64)) el22 (by decide) rfl rfl rfl e0) trivial <| cp (oAs tm) (s1 rfl) <| .nil) (by kernel_rfl) ?_
  refine pSeq ?_
  refine wSeq ?_
  refine wSeq ?_
  refine rg (cp (oMv tm) (s1 rfl) <| cp (oLenL u22 tm) (s1 rfl) <| cp (oMv (cI (by decide))) trivial <| .nil) (by kernel_rfl) ?_
  refine pSeq ?_
  refine wWeak (Γ' := [(1, .d ((kI .i64).sig a1)), (2, .d ((kI .i64).sig a2)), (3, .d ((kI .i64).sig a3)), (9, .v 12), (13, .d ((kL (kI .i64)).sig a0)), (14, .d ((kI .i64).sig (a0.length : Int))), (15, .d ((kI .i64).sig 0))]) ⟨rfl, rfl, rfl, rfl, rfl, rfl, rfl, trivial⟩ ?_
  refine wRen 12 1009 rfl ?_
  obtain ⟨o1, h, hk1⟩ := bd h
  refine wK1 (fun x39 => x39 = o1) (fun x39 => [(9, .v 1009)]) (fun x39 => [.row 1009 3 (kI .i64) x39]) ?_ ?_
  · refine wBlock (wLoop ?_)
    refine lW (pc2 o1 (fun v37 v38 => [(1, .d ((kI .i64).sig a1)), (2, .d ((kI .i64).sig a2)), (3, .d ((kI .i64).sig a3)), (9, .v 1009), (13, .d ((kL (kI .i64)).sig a0)), (14, .d ((kI .i64).sig (a0.length : Int))), (15, .d ((kI .i64).sig v38))]) (fun v37 v38 => [.row 1009 3 (kI .i64) v37]) (reticentref24_but.l0.partial_correctness a0 a1 a2 a3) ?_ _ _ h) ⟨rfl, rfl, rfl, rfl, rfl, rfl, rfl, trivial⟩ rfl
    clear h
    intro f' ih v37 v38 h
    refine wSeq ?_
    refine rg (cp (oLt rfl tm tm) (s2 rfl rfl) <| .nil) (by kernel_rfl) ?_
    refine pSeq ?_
    refine wSeq ?_
    rcases ic h with ⟨hp40, h⟩ | ⟨hp40, h⟩
    · refine wCT hp40 tm (s1 rfl) ?_
      refine wSkip ?_
      refine pSeq ?_
      obtain ⟨o2, h, hk2⟩ := bd h
      refine wJ1 (fun x49 => x49 = o2) (fun x49 => [(1, .d ((kI .i64).sig a1)), (2, .d ((kI .i64).sig a2)), (3, .d ((kI .i64).sig a3)), (9, .v 1009), (13, .d ((kL (kI .i64)).sig a0)), (14, .d ((kI .i64).sig (a0.length : Int))), (15, .d ((kI .i64).sig v38))]) (fun x49 => [.row 1009 3 (kI .i64) x49]) ?_ ?_
      · refine wBlock ?_
        refine wSeq ?_
        obtain ⟨y50, hy50, h⟩ := bd h
        refine rg (cp (oMv tm) (s1 rfl) <| cp (oIdx u22 z3 hy50 tm tm) (s2 rfl rfl) <| cp (oLd t3 tm) (s1 rfl) <| cp (oAs tm) (s1 rfl) <| cp (oAs tm) (s1 rfl) <| .nil) (by kernel_rfl) ?_
        refine pSeq ?_
        obtain ⟨o3, h, hk3⟩ := bd h
        refine wJ1 (fun x53 => x53 = o3) (fun x53 => [(1, .d ((kI .i64).sig a1)), (2, .d ((kI .i64).sig a2)), (3, .d ((kI .i64).sig a3)), (9, .v 1009), (11, .d ((kI .i64).sig y50)), (13, .d ((kL (kI .i64)).sig a0)), (14, .d ((kI .i64).sig (a0.length : Int))), (15, .d ((kI .i64).sig v38)), (32, .d (kB.sig x53))]) (fun x53 => [.row 1009 3 (kI .i64) v37]) ?_ ?_
        · rcases ic h with ⟨hp54, h⟩ | ⟨hp54, h⟩
          · refine rg (cp (oMv tm) (s1 rfl) <| cp (oMv tm) (s1 rfl) <| cp (oLt rfl tm tm) (s2 rfl rfl) <| cp (oMv tm) (s1 rfl) <| csB (decide_eq_true hp54) rfl rfl <| csB (decide_eq_true hp54) rfl rfl <| csB (decide_eq_true hp54) rfl rfl <| cp (oPkT (decide_eq_true hp54) tm cB) (s1 rfl) <| cp (oMv tm) (s1 rfl) <| cgB rfl rfl rfl (oMv tm) (s1 rfl) <| cgB rfl rfl rfl (oMv tm) (s1 rfl) <| cgB rfl rfl rfl (oNe rfl tm tm) (s2 rfl rfl) <| cp (oPkT rfl tm tm) (s2 rfl rfl) <| .nil) (by kernel_rfl) ?_
            exact pJ1 _ (so h) ⟨rfl, rfl, rfl, rfl, rfl, rfl, rfl, rfl, rfl, trivial⟩ rfl
          · rcases ic h with ⟨hp55, h⟩ | ⟨hp55, h⟩
            · refine rg (cp (oMv tm) (s1 rfl) <| cp (oMv tm) (s1 rfl) <| cp (oLt rfl tm tm) (s2 rfl rfl) <| cp (oMv tm) (s1 rfl) <| cgB (decide_eq_false hp54) rfl rfl (oMv tm) (s1 rfl) <| cgB (decide_eq_false hp54) rfl rfl (oMv tm) (s1 rfl) <| cgB (decide_eq_false hp54) rfl rfl (oGe rfl tm tm) (s2 rfl rfl) <| cp (oPkF (decide_eq_false hp54) tm tm) (s2 rfl rfl) <| cp (oMv tm) (s1 rfl) <| cgB (decide_eq_true hp55) rfl rfl (oMv tm) (s1 rfl) <| cgB (decide_eq_true hp55) rfl rfl (oMv tm) (s1 rfl) <| cgB (decide_eq_true hp55) rfl rfl (oNe rfl tm tm) (s2 rfl rfl) <| cp (oPkT (decide_eq_true hp55) tm tm) (s2 rfl rfl) <| .nil) (by kernel_rfl) ?_
              exact pJ1 _ (so h) ⟨rfl, rfl, rfl, rfl, rfl, rfl, rfl, rfl, rfl, trivial⟩ rfl
            · refine rg (cp (oMv tm) (s1 rfl) <| cp (oMv tm) (s1 rfl) <| cp (oLt rfl tm tm) (s2 rfl rfl) <| cp (oMv tm) (s1 rfl) <| cgB (decide_eq_false hp54) rfl rfl (oMv tm) (s1 rfl) <| cgB (decide_eq_false hp54) rfl rfl (oMv tm) (s1 rfl) <| cgB (decide_eq_false hp54) rfl rfl (oGe rfl tm tm) (s2 rfl rfl) <| cp (oPkF (decide_eq_false hp54) tm tm) (s2 rfl rfl) <| cp (oMv tm) (s1 rfl) <| csB (decide_eq_false hp55) rfl rfl <| csB (decide_eq_false hp55) rfl rfl <| csB (decide_eq_false hp55) rfl rfl <| cp (oPkF (decide_eq_false hp55) tm cB) (s1 rfl) <| .nil) (by kernel_rfl) ?_
              exact pJ1 _ (so h) ⟨rfl, rfl, rfl, rfl, rfl, rfl, rfl, rfl, rfl, trivial⟩ rfl
        · rintro x53 rfl
          replace h := hk3
          rcases ic h with ⟨hp56, h⟩ | ⟨hp56, h⟩
          · refine wBT hp56 tm (s1 rfl) ?_
            obtain ⟨hc57, h⟩ := ib h
            refine rg (cp (oMv tm) (s1 rfl) <| cp (oMv tm) (s1 rfl) <| cp (oLit (d := (kI .i64)) el22 (by decide) rfl rfl rfl (e1 tm e0)) (s1 rfl) <| cw (oApp (n := 0) (id' := 36) el22 (by decide) rfl (by decide) hc57 tm tm) (s2 rfl rfl) <| cp (oAs tm) (s1 rfl) <| .nil) (by kernel_rfl) ?_
            refine pBlkN ?_
            refine pSub (Γ' := [(1, .d ((kI .i64).sig a1)), (2, .d ((kI .i64).sig a2)), (3, .d ((kI .i64).sig a3)), (9, .v 36), (13, .d ((kL (kI .i64)).sig a0)), (14, .d ((kI .i64).sig (a0.length : Int))), (15, .d ((kI .i64).sig v38))]) ⟨rfl, rfl, rfl, rfl, rfl, rfl, rfl, trivial⟩ ?_
            refine pRen 36 1009 rfl ?_
            exact pJ1 _ (so h) ⟨rfl, rfl, rfl, rfl, rfl, rfl, rfl, trivial⟩ rfl
          · refine wBF hp56 tm (s1 rfl) ?_
            refine wSkip ?_
            refine pBlkN ?_
            exact pJ1 _ (so h) ⟨rfl, rfl, rfl, rfl, rfl, rfl, rfl, trivial⟩ rfl
      · rintro x49 rfl
        replace h := hk2
        refine rg (cp (oAdd tm (cI (by decide))) (s1 rfl) <| cp (oMv tm) (s1 rfl) <| .nil) (by kernel_rfl) ?_
        exact pLoop (lW (ih _ _ h) ⟨rfl, rfl, rfl, rfl, rfl, rfl, rfl, trivial⟩ rfl)
    · refine wCF hp40 tm (s1 rfl) ?_
      refine wExit ?_
      refine pThenX ?_
      refine pThenX ?_
      refine pBlkX ?_
      exact pJ1 _ (so h) ⟨rfl, trivial⟩ rfl
  · rintro x39 rfl
    replace h := hk1
    refine pSeq ?_
    refine wSeq ?_
    refine rg (cp (oMv tm) (s1 rfl) <| cp (oAs tm) (s1 rfl) <| .nil) (by kernel_rfl) ?_
    refine pSeq ?_
    refine wFrzR (n := 0) (id := 1009) [8] rfl rfl ⟨rfl, trivial⟩ ?_
    refine wRet ?_
    obtain rfl := so h
    exact pR1 (.inl rfl) rfl (.tmp rfl <| .nil)

theorem reticentref24_Weaker.ok {a0 : List Int} {r : List (List Int)} (h : reticentref24_Weaker.f a0 = some r) : FnA Try.prog 20 [(kL (kI .i64)).sig a0] ((kL (kL (kI .i64))).sig r) := by
  refine fnIntro Try.func20 rfl (by kernel_rfl) fun H0 w0 => ?_
  unfold reticentref24_Weaker.f at h
  refine wSeq ?_
  refine rg (cp (oAs cV) trivial <| .nil) (by kernel_rfl) ?_
  refine pSeq ?_
  refine wSeq ?_
  refine rg (cp (oAs (cI (by decide))) trivial <| .nil) (by kernel_rfl) ?_
  refine pSeq ?_
  refine wSeq ?_
  refine rg (cp (oAs (cI (by decide))) trivial <| .nil) (by kernel_rfl) ?_
  refine pSeq ?_
  refine wSeq ?_
  refine wSeq ?_
  obtain ⟨y1, hy1, h⟩ := bd h
  refine rg (cp (oMv tm) (s1 rfl) <| cp (oCall rfl (reticentref04_Made.ok hy1) b15 (opds_cons tm opds_nil)) (s1 rfl) <| cp (oEq rfl tm (cI (by decide))) (s1 rfl) <| .nil) (by kernel_rfl) ?_
  refine pSeq ?_
  rcases ic h with ⟨hp2, h⟩ | ⟨hp2, h⟩
  · refine wCT hp2 tm (s1 rfl) ?_
    refine wSeq ?_
    refine rg (cp (oAs (cI (by decide))) trivial <| .nil) (by kernel_rfl) ?_
    refine pSeq ?_
    refine rg (cp (oAs (cI (by decide))) trivial <| .nil) (by kernel_rfl) ?_
    refine pSeq ?_
    refine wSeq ?_
    refine rg (cw (oLitR (id := 13) (d := (kL (kI .i64))) el29 (by decide) rfl rfl rfl e0) trivial <| cp (oAs tm) (s1 rfl) <| .nil) (by kernel_rfl) ?_
    refine pSeq ?_
    refine wSeq ?_
    refine wWeak (Γ' := [(0, .d ((kL (kI .i64)).sig a0)), (3, .d ((kI .i64).sig 6)), (4, .d ((kI .i64).sig 12)), (5, .v 13)]) ⟨rfl, rfl, rfl, rfl, trivial⟩ ?_
    refine wRen 13 1005 rfl ?_
    obtain ⟨o1, h, hk1⟩ := bd h
    refine wJ1 (fun x5 => x5 = o1) (fun x5 => [(0, .d ((kL (kI .i64)).sig a0)), (3, .d ((kI .i64).sig 6)), (4, .d ((kI .i64).sig 12)), (5, .v 1005), (23, .d (kB.sig x5))]) (fun x5 => [.row 1005 22 (kL (kI .i64)) ([] : List (List Int))]) ?_ ?_
    · rcases ic h with ⟨hp6, h⟩ | ⟨hp6, h⟩
      · obtain ⟨y7, hy7, h⟩ := bd h
        refine rg (cp (oMv tm) (s1 rfl) <| cp (oLenL u22 tm) (s1 rfl) <| cp (oNe rfl tm (cI (by decide))) (s1 rfl) <| cp (oMv tm) (s1 rfl) <| cgB (nf hp6) rfl rfl (oMv tm) (s1 rfl) <| cgB (nf hp6) rfl rfl (oIdx u22 z3 hy7 tm (cI (by decide))) (s1 rfl) <| cgB (nf hp6) rfl rfl (oLd t3 tm) (s1 rfl) <| cgB (nf hp6) rfl rfl (oMv tm) (s1 rfl) <| cgB (nf hp6) rfl rfl (oNe rfl tm tm) (s2 rfl rfl) <| cp (oPkF (nf hp6) tm tm) (s2 rfl rfl) <| .nil) (by kernel_rfl) ?_
        exact pJ1 _ (so h) ⟨rfl, rfl, rfl, rfl, rfl, trivial⟩ rfl
      · refine rg (cp (oMv tm) (s1 rfl) <| cp (oLenL u22 tm) (s1 rfl) <| cp (oNe rfl tm (cI (by decide))) (s1 rfl) <| cp (oMv tm) (s1 rfl) <| csB (nt hp6) rfl rfl <| csB (nt hp6) rfl rfl <| csB (nt hp6) rfl rfl <| csB (nt hp6) rfl rfl <| csB (nt hp6) rfl rfl <| cp (oPkT (nt hp6) tm cB) (s1 rfl) <| .nil) (by kernel_rfl) ?_
        exact pJ1 _ (so h) ⟨rfl, rfl, rfl, rfl, rfl, trivial⟩ rfl
    · rintro x5 rfl
      replace h := hk1
      rcases ic h with ⟨hp8, h⟩ | ⟨hp8, h⟩
      · refine wBT hp8 tm (s1 rfl) ?_
        obtain ⟨hc9, h⟩ := ib h
        refine rg (cp (oMv tm) (s1 rfl) <| cp (oMv tm) (s1 rfl) <| cp (oLit (d := (kI .i64)) el22 (by decide) rfl rfl rfl (e1 tm e0)) (s1 rfl) <| cp (oLit (d := (kL (kI .i64))) el29 (by decide) rfl rfl rfl (e1 tm e0)) (s1 rfl) <| cw (oApp (n := 0) (id' := 28) el29 (by decide) rfl (by decide) hc9 tm tm) (s2 rfl rfl) <| cp (oAs tm) (s1 rfl) <| .nil) (by kernel_rfl) ?_
        refine pSeq ?_
        refine wSeq ?_
        refine wSeq ?_
        refine rg (cp (oMv tm) (s1 rfl) <| cp (oLenL u22 tm) (s1 rfl) <| cp (oMv (cI (by decide))) trivial <| .nil) (by kernel_rfl) ?_
        refine pSeq ?_
        refine wWeak (Γ' := [(0, .d ((kL (kI .i64)).sig a0)), (4, .d ((kI .i64).sig 12)), (5, .v 28), (29, .d ((kL (kI .i64)).sig a0)), (30, .d ((kI .i64).sig (a0.length : Int))), (31, .d ((kI .i64).sig 0))]) ⟨rfl, rfl, rfl, rfl, rfl, rfl, trivial⟩ ?_
        refine wRen 28 1005 rfl ?_
        obtain ⟨o1, h, hk1⟩ := bd h
        refine wK1 (fun x48 => x48 = o1) (fun x48 => [(5, .v 1005)]) (fun x48 => [.row 1005 22 (kL (kI .i64)) x48]) ?_ ?_
        · refine wBlock (wLoop ?_)
          refine lW (pc2 o1 (fun v46 v47 => [(0, .d ((kL (kI .i64)).sig a0)), (4, .d ((kI .i64).sig 12)), (5, .v 1005), (29, .d ((kL (kI .i64)).sig a0)), (30, .d ((kI .i64).sig (a0.length : Int))), (31, .d ((kI .i64).sig v47))]) (fun v46 v47 => [.row 1005 22 (kL (kI .i64)) v46]) (reticentref24_Weaker.l0.partial_correctness a0) ?_ _ _ h) ⟨rfl, rfl, rfl, rfl, rfl, rfl, trivial⟩ rfl
          clear h
          intro f' ih v46 v47 h
          refine wSeq ?_
          refine rg (cp (oLt rfl tm tm) (s2 rfl rfl) <| .nil) (by kernel_rfl) ?_
          refine pSeq ?_
          refine wSeq ?_
          rcases ic h with ⟨hp49, h⟩ | ⟨hp49, h⟩
          · refine wCT hp49 tm (s1 rfl) ?_
            refine wSkip ?_
            refine pSeq ?_
            obtain ⟨o2, h, hk2⟩ := bd h
            refine wJ1 (fun x58 => x58 = o2) (fun x58 => [(0, .d ((kL (kI .i64)).sig a0)), (4, .d ((kI .i64).sig 12)), (5, .v 1005), (29, .d ((kL (kI .i64)).sig a0)), (30, .d ((kI .i64).sig (a0.length : Int))), (31, .d ((kI .i64).sig v47))]) (fun x58 => [.row 1005 22 (kL (kI .i64)) x58]) ?_ ?_
            · refine wBlock ?_
              refine wSeq ?_
              obtain ⟨y59, hy59, h⟩ := bd h
              refine rg (cp (oMv tm) (s1 rfl) <| cp (oIdx u22 z3 hy59 tm tm) (s2 rfl rfl) <| cp (oLd t3 tm) (s1 rfl) <| cp (oAs tm) (s1 rfl) <| cp (oAs tm) (s1 rfl) <| .nil) (by kernel_rfl) ?_
              refine pSeq ?_
              refine wSeq ?_
              refine rg (cp (oMv tm) (s1 rfl) <| cp (oMv tm) (s1 rfl) <| cp (oEq rfl tm tm) (s2 rfl rfl) <| .nil) (by kernel_rfl) ?_
              refine pSeq ?_
              rcases ic h with ⟨hp60, h⟩ | ⟨hp60, h⟩
              · refine wCT hp60 tm (s1 rfl) ?_
                refine wSeq ?_
                obtain ⟨y61, hy61, h⟩ := bd h
                refine rg (cp (oMv tm) (s1 rfl) <| cp (oMv tm) (s1 rfl) <| cp (oSub tm (cI (by decide))) (s1 rfl) <| cp (oCall rfl (reticentref24_from.ok hy61) b66 (opds_cons tm (opds_cons tm opds_nil))) (s2 rfl rfl) <| cp (oAs tm) (s1 rfl) <| .nil) (by kernel_rfl) ?_
                refine pSeq ?_
                refine wSeq ?_
                obtain ⟨y62, hy62, h⟩ := bd h
                refine rg (cp (oMv tm) (s1 rfl) <| cp (oMv tm) (s1 rfl) <| cp (oSub tm (cI (by decide))) (s1 rfl) <| cp (oCall rfl (reticentref24_from.ok hy62) b66 (opds_cons tm (opds_cons tm opds_nil))) (s2 rfl rfl) <| cp (oAs tm) (s1 rfl) <| .nil) (by kernel_rfl) ?_
                refine pSeq ?_
                refine wSeq ?_
                obtain ⟨y63, hy63, h⟩ := bd h
                obtain ⟨hc64, h⟩ := ib h
                refine rg (cp (oMv tm) (s1 rfl) <| cp (oMv tm) (s1 rfl) <| cp (oMv tm) (s1 rfl) <| cp (oMv tm) (s1 rfl) <| cp (oMv tm) (s1 rfl) <| cp (oCall rfl (reticentref24_but.ok hy63) b67 (opds_cons tm (opds_cons tm (opds_cons tm (opds_cons tm opds_nil))))) ⟨rfl, rfl, rfl, rfl, trivial⟩ <| cp (oLit (d := (kL (kI .i64))) el29 (by decide) rfl rfl rfl (e1 tm e0)) (s1 rfl) <| cw (oApp (n := 0) (id' := 54) el29 (by decide) rfl (by decide) hc64 tm tm) (s2 rfl rfl) <| cp (oAs tm) (s1 rfl) <| .nil) (by kernel_rfl) ?_
                refine pSeq ?_
                obtain ⟨y65, hy65, h⟩ := bd h
                obtain ⟨hc66, h⟩ := ib h
                refine rg (cp (oMv tm) (s1 rfl) <| cp (oMv tm) (s1 rfl) <| cp (oMv tm) (s1 rfl) <| cp (oMv tm) (s1 rfl) <| cp (oMv tm) (s1 rfl) <| cp (oCall rfl (reticentref24_but.ok hy65) b67 (opds_cons tm (opds_cons tm (opds_cons tm (opds_cons tm opds_nil))))) ⟨rfl, rfl, rfl, rfl, trivial⟩ <| cp (oLit (d := (kL (kI .i64))) el29 (by decide) rfl rfl rfl (e1 tm e0)) (s1 rfl) <| cw (oApp (n := 0) (id' := 62) el29 (by decide) rfl (by decide) hc66 tm tm) (s2 rfl rfl) <| cp (oAs tm) (s1 rfl) <| .nil) (by kernel_rfl) ?_
                refine pBlkN ?_
                refine pSub (Γ' := [(0, .d ((kL (kI .i64)).sig a0)), (4, .d ((kI .i64).sig 12)), (5, .v 62), (29, .d ((kL (kI .i64)).sig a0)), (30, .d ((kI .i64).sig (a0.length : Int))), (31, .d ((kI .i64).sig v47))]) ⟨rfl, rfl, rfl, rfl, rfl, rfl, trivial⟩ ?_
                refine pRen 62 1005 rfl ?_
                exact pJ1 _ (so h) ⟨rfl, rfl, rfl, rfl, rfl, rfl, trivial⟩ rfl
              · refine wCF hp60 tm (s1 rfl) ?_
                refine wSkip ?_
                refine pBlkN ?_
                exact pJ1 _ (so h) ⟨rfl, rfl, rfl, rfl, rfl, rfl, trivial⟩ rfl
            · rintro x58 rfl
              replace h := hk2
              refine rg (cp (oAdd tm (cI (by decide))) (s1 rfl) <| cp (oMv tm) (s1 rfl) <| .nil) (by kernel_rfl) ?_
              exact pLoop (lW (ih _ _ h) ⟨rfl, rfl, rfl, rfl, rfl, rfl, trivial⟩ rfl)
          · refine wCF hp49 tm (s1 rfl) ?_
            refine wExit ?_
            refine pThenX ?_
            refine pThenX ?_
            refine pBlkX ?_
            exact pJ1 _ (so h) ⟨rfl, trivial⟩ rfl
        · rintro x48 rfl
          replace h := hk1
          refine pSeq ?_
          refine wSeq ?_
          refine rg (cp (oMv tm) (s1 rfl) <| cp (oAs tm) (s1 rfl) <| .nil) (by kernel_rfl) ?_
          refine pSeq ?_
          refine wFrzR (n := 0) (id := 1005) [2] rfl rfl ⟨rfl, trivial⟩ ?_
          refine wRet ?_
          obtain rfl := so h
          exact pR1 (.inl rfl) rfl (.tmp rfl <| .nil)
      · refine wBF hp8 tm (s1 rfl) ?_
        refine wSkip ?_
        refine pSeq ?_
        refine wSeq ?_
        refine wSeq ?_
        refine rg (cp (oMv tm) (s1 rfl) <| cp (oLenL u22 tm) (s1 rfl) <| cp (oMv (cI (by decide))) trivial <| .nil) (by kernel_rfl) ?_
        refine pSeq ?_
        obtain ⟨o1, h, hk1⟩ := bd h
        refine wK1 (fun x105 => x105 = o1) (fun x105 => [(5, .v 1005)]) (fun x105 => [.row 1005 22 (kL (kI .i64)) x105]) ?_ ?_
        · refine wBlock (wLoop ?_)
          refine lW (pc2 o1 (fun v103 v104 => [(0, .d ((kL (kI .i64)).sig a0)), (4, .d ((kI .i64).sig 12)), (5, .v 1005), (29, .d ((kL (kI .i64)).sig a0)), (30, .d ((kI .i64).sig (a0.length : Int))), (31, .d ((kI .i64).sig v104))]) (fun v103 v104 => [.row 1005 22 (kL (kI .i64)) v103]) (reticentref24_Weaker.l1.partial_correctness a0) ?_ _ _ h) ⟨rfl, rfl, rfl, rfl, rfl, rfl, trivial⟩ rfl
          clear h
          intro f' ih v103 v104 h
          refine wSeq ?_
          refine rg (cp (oLt rfl tm tm) (s2 rfl rfl) <| .nil) (by kernel_rfl) ?_
          refine pSeq ?_
          refine wSeq ?_
          rcases ic h with ⟨hp106, h⟩ | ⟨hp106, h⟩
          · refine wCT hp106 tm (s1 rfl) ?_
            refine wSkip ?_
            refine pSeq ?_
            obtain ⟨o2, h, hk2⟩ := bd h
            refine wJ1 (fun x115 => x115 = o2) (fun x115 => [(0, .d ((kL (kI .i64)).sig a0)), (4, .d ((kI .i64).sig 12)), (5, .v 1005), (29, .d ((kL (kI .i64)).sig a0)), (30, .d ((kI .i64).sig (a0.length : Int))), (31, .d ((kI .i64).sig v104))]) (fun x115 => [.row 1005 22 (kL (kI .i64)) x115]) ?_ ?_
            · refine wBlock ?_
              refine wSeq ?_
              obtain ⟨y116, hy116, h⟩ := bd h
              refine rg (cp (oMv tm) (s1 rfl) <| cp (oIdx u22 z3 hy116 tm tm) (s2 rfl rfl) <| cp (oLd t3 tm) (s1 rfl) <| cp (oAs tm) (s1 rfl) <| cp (oAs tm) (s1 rfl) <| .nil) (by kernel_rfl) ?_
              refine pSeq ?_
              refine wSeq ?_
              refine rg (cp (oMv tm) (s1 rfl) <| cp (oMv tm) (s1 rfl) <| cp (oEq rfl tm tm) (s2 rfl rfl) <| .nil) (by kernel_rfl) ?_
              refine pSeq ?_
              rcases ic h with ⟨hp117, h⟩ | ⟨hp117, h⟩
              · refine wCT hp117 tm (s1 rfl) ?_
                refine wSeq ?_
                obtain ⟨y118, hy118, h⟩ := bd h
                refine rg (cp (oMv tm) (s1 rfl) <| cp (oMv tm) (s1 rfl) <| cp (oSub tm (cI (by decide))) (s1 rfl) <| cp (oCall rfl (reticentref24_from.ok hy118) b66 (opds_cons tm (opds_cons tm opds_nil))) (s2 rfl rfl) <| cp (oAs tm) (s1 rfl) <| .nil) (by kernel_rfl) ?_
                refine pSeq ?_
                refine wSeq ?_
                obtain ⟨y119, hy119, h⟩ := bd h
                refine rg (cp (oMv tm) (s1 rfl) <| cp (oMv tm) (s1 rfl) <| cp (oSub tm (cI (by decide))) (s1 rfl) <| cp (oCall rfl (reticentref24_from.ok hy119) b66 (opds_cons tm (opds_cons tm opds_nil))) (s2 rfl rfl) <| cp (oAs tm) (s1 rfl) <| .nil) (by kernel_rfl) ?_
                refine pSeq ?_
                refine wSeq ?_
                obtain ⟨y120, hy120, h⟩ := bd h
                obtain ⟨hc121, h⟩ := ib h
                refine rg (cp (oMv tm) (s1 rfl) <| cp (oMv tm) (s1 rfl) <| cp (oMv tm) (s1 rfl) <| cp (oMv tm) (s1 rfl) <| cp (oMv tm) (s1 rfl) <| cp (oCall rfl (reticentref24_but.ok hy120) b67 (opds_cons tm (opds_cons tm (opds_cons tm (opds_cons tm opds_nil))))) ⟨rfl, rfl, rfl, rfl, trivial⟩ <| cp (oLit (d := (kL (kI .i64))) el29 (by decide) rfl rfl rfl (e1 tm e0)) (s1 rfl) <| cw (oApp (n := 0) (id' := 54) el29 (by decide) rfl (by decide) hc121 tm tm) (s2 rfl rfl) <| cp (oAs tm) (s1 rfl) <| .nil) (by kernel_rfl) ?_
                refine pSeq ?_
                obtain ⟨y122, hy122, h⟩ := bd h
                obtain ⟨hc123, h⟩ := ib h
                refine rg (cp (oMv tm) (s1 rfl) <| cp (oMv tm) (s1 rfl) <| cp (oMv tm) (s1 rfl) <| cp (oMv tm) (s1 rfl) <| cp (oMv tm) (s1 rfl) <| cp (oCall rfl (reticentref24_but.ok hy122) b67 (opds_cons tm (opds_cons tm (opds_cons tm (opds_cons tm opds_nil))))) ⟨rfl, rfl, rfl, rfl, trivial⟩ <| cp (oLit (d := (kL (kI .i64))) el29 (by decide) rfl rfl rfl (e1 tm e0)) (s1 rfl) <| cw (oApp (n := 0) (id' := 62) el29 (by decide) rfl (by decide) hc123 tm tm) (s2 rfl rfl) <| cp (oAs tm) (s1 rfl) <| .nil) (by kernel_rfl) ?_
                refine pBlkN ?_
                refine pSub (Γ' := [(0, .d ((kL (kI .i64)).sig a0)), (4, .d ((kI .i64).sig 12)), (5, .v 62), (29, .d ((kL (kI .i64)).sig a0)), (30, .d ((kI .i64).sig (a0.length : Int))), (31, .d ((kI .i64).sig v104))]) ⟨rfl, rfl, rfl, rfl, rfl, rfl, trivial⟩ ?_
                refine pRen 62 1005 rfl ?_
                exact pJ1 _ (so h) ⟨rfl, rfl, rfl, rfl, rfl, rfl, trivial⟩ rfl
              · refine wCF hp117 tm (s1 rfl) ?_
                refine wSkip ?_
                refine pBlkN ?_
                exact pJ1 _ (so h) ⟨rfl, rfl, rfl, rfl, rfl, rfl, trivial⟩ rfl
            · rintro x115 rfl
              replace h := hk2
              refine rg (cp (oAdd tm (cI (by decide))) (s1 rfl) <| cp (oMv tm) (s1 rfl) <| .nil) (by kernel_rfl) ?_
              exact pLoop (lW (ih _ _ h) ⟨rfl, rfl, rfl, rfl, rfl, rfl, trivial⟩ rfl)
          · refine wCF hp106 tm (s1 rfl) ?_
            refine wExit ?_
            refine pThenX ?_
            refine pThenX ?_
            refine pBlkX ?_
            exact pJ1 _ (so h) ⟨rfl, trivial⟩ rfl
        · rintro x105 rfl
          replace h := hk1
          refine pSeq ?_
          refine wSeq ?_
          refine rg (cp (oMv tm) (s1 rfl) <| cp (oAs tm) (s1 rfl) <| .nil) (by kernel_rfl) ?_
          refine pSeq ?_
          refine wFrzR (n := 0) (id := 1005) [2] rfl rfl ⟨rfl, trivial⟩ ?_
          refine wRet ?_
          obtain rfl := so h
          exact pR1 (.inl rfl) rfl (.tmp rfl <| .nil)
  · refine wCF hp2 tm (s1 rfl) ?_
    refine wSkip ?_
    refine pSeq ?_
    refine wSeq ?_
    refine rg (cw (oLitR (id := 13) (d := (kL (kI .i64))) el29 (by decide) rfl rfl rfl e0) trivial <| cp (oAs tm) (s1 rfl) <| .nil) (by kernel_rfl) ?_
    refine pSeq ?_
    refine wSeq ?_
    refine wWeak (Γ' := [(0, .d ((kL (kI .i64)).sig a0)), (3, .d ((kI .i64).sig 1)), (4, .d ((kI .i64).sig 3)), (5, .v 13)]) ⟨rfl, rfl, rfl, rfl, trivial⟩ ?_
    refine wRen 13 1005 rfl ?_
    obtain ⟨o1, h, hk1⟩ := bd h
    refine wJ1 (fun x126 => x126 = o1) (fun x126 => [(0, .d ((kL (kI .i64)).sig a0)), (3, .d ((kI .i64).sig 1)), (4, .d ((kI .i64).sig 3)), (5, .v 1005), (23, .d (kB.sig x126))]) (fun x126 => [.row 1005 22 (kL (kI .i64)) ([] : List (List Int))]) ?_ ?_
    · rcases ic h with ⟨hp127, h⟩ | ⟨hp127, h⟩
      · obtain ⟨y128, hy128, h⟩ := bd h
        refine rg (cp (oMv tm) (s1 rfl) <| cp (oLenL u22 tm) (s1 rfl) <| cp (oNe rfl tm (cI (by decide))) (s1 rfl) <| cp (oMv tm) (s1 rfl) <| cgB (nf hp127) rfl rfl (oMv tm) (s1 rfl) <| cgB (nf hp127) rfl rfl (oIdx u22 z3 hy128 tm (cI (by decide))) (s1 rfl) <| cgB (nf hp127) rfl rfl (oLd t3 tm) (s1 rfl) <| cgB (nf hp127) rfl rfl (oMv tm) (s1 rfl) <| cgB (nf hp127) rfl rfl (oNe rfl tm tm) (s2 rfl rfl) <| cp (oPkF (nf hp127) tm tm) (s2 rfl rfl) <| .nil) (by kernel_rfl) ?_
        exact pJ1 _ (so h) ⟨rfl, rfl, rfl, rfl, rfl, trivial⟩ rfl
      · refine rg (cp (oMv tm) (s1 rfl) <| cp (oLenL u22 tm) (s1 rfl) <| cp (oNe rfl tm (cI (by decide))) (s1 rfl) <| cp (oMv tm) (s1 rfl) <| csB (nt hp127) rfl rfl <| csB (nt hp127) rfl rfl <| csB (nt hp127) rfl rfl <| csB (nt hp127) rfl rfl <| csB (nt hp127) rfl rfl <| cp (oPkT (nt hp127) tm cB) (s1 rfl) <| .nil) (by kernel_rfl) ?_
        exact pJ1 _ (so h) ⟨rfl, rfl, rfl, rfl, rfl, trivial⟩ rfl
    · rintro x126 rfl
      replace h := hk1
      rcases ic h with ⟨hp129, h⟩ | ⟨hp129, h⟩
      · refine wBT hp129 tm (s1 rfl) ?_
        obtain ⟨hc130, h⟩ := ib h
        refine rg (cp (oMv tm) (s1 rfl) <| cp (oMv tm) (s1 rfl) <| cp (oLit (d := (kI .i64)) el22 (by decide) rfl rfl rfl (e1 tm e0)) (s1 rfl) <| cp (oLit (d := (kL (kI .i64))) el29 (by decide) rfl rfl rfl (e1 tm e0)) (s1 rfl) <| cw (oApp (n := 0) (id' := 28) el29 (by decide) rfl (by decide) hc130 tm tm) (s2 rfl rfl) <| cp (oAs tm) (s1 rfl) <| .nil) (by kernel_rfl) ?_
        refine pSeq ?_
        refine wSeq ?_
        refine wSeq ?_
        refine rg (cp (oMv tm) (s1 rfl) <| cp (oLenL u22 tm) (s1 rfl) <| cp (oMv (cI (by decide))) trivial <| .nil) (by kernel_rfl) ?_
        refine pSeq ?_
        refine wWeak (Γ' := [(0, .d ((kL (kI .i64)).sig a0)), (4, .d ((kI .i64).sig 3)), (5, .v 28), (29, .d ((kL (kI .i64)).sig a0)), (30, .d ((kI .i64).sig (a0.length : Int))), (31, .d ((kI .i64).sig 0))]) ⟨rfl, rfl, rfl, rfl, rfl, rfl, trivial⟩ ?_
        refine wRen 28 1005 rfl ?_
        obtain ⟨o1, h, hk1⟩ := bd h
        refine wK1 (fun x169 => x169 = o1) (fun x169 => [(5, .v 1005)]) (fun x169 => [.row 1005 22 (kL (kI .i64)) x169]) ?_ ?_
        · refine wBlock (wLoop ?_)
          refine lW (pc2 o1 (fun v167 v168 => [(0, .d ((kL (kI .i64)).sig a0)), (4, .d ((kI .i64).sig 3)), (5, .v 1005), (29, .d ((kL (kI .i64)).sig a0)), (30, .d ((kI .i64).sig (a0.length : Int))), (31, .d ((kI .i64).sig v168))]) (fun v167 v168 => [.row 1005 22 (kL (kI .i64)) v167]) (reticentref24_Weaker.l2.partial_correctness a0) ?_ _ _ h) ⟨rfl, rfl, rfl, rfl, rfl, rfl, trivial⟩ rfl
          clear h
          intro f' ih v167 v168 h
          refine wSeq ?_
          refine rg (cp (oLt rfl tm tm) (s2 rfl rfl) <| .nil) (by kernel_rfl) ?_
          refine pSeq ?_
          refine wSeq ?_
          rcases ic h with ⟨hp170, h⟩ | ⟨hp170, h⟩
          · refine wCT hp170 tm (s1 rfl) ?_
            refine wSkip ?_
            refine pSeq ?_
            obtain ⟨o2, h, hk2⟩ := bd h
            refine wJ1 (fun x179 => x179 = o2) (fun x179 => [(0, .d ((kL (kI .i64)).sig a0)), (4, .d ((kI .i64).sig 3)), (5, .v 1005), (29, .d ((kL (kI .i64)).sig a0)), (30, .d ((kI .i64).sig (a0.length : Int))), (31, .d ((kI .i64).sig v168))]) (fun x179 => [.row 1005 22 (kL (kI .i64)) x179]) ?_ ?_
            · refine wBlock ?_
              refine wSeq ?_
              obtain ⟨y180, hy180, h⟩ := bd h
              refine rg (cp (oMv tm) (s1 rfl) <| cp (oIdx u22 z3 hy180 tm tm) (s2 rfl rfl) <| cp (oLd t3 tm) (s1 rfl) <| cp (oAs tm) (s1 rfl) <| cp (oAs tm) (s1 rfl) <| .nil) (by kernel_rfl) ?_
              refine pSeq ?_
              refine wSeq ?_
              refine rg (cp (oMv tm) (s1 rfl) <| cp (oMv tm) (s1 rfl) <| cp (oEq rfl tm tm) (s2 rfl rfl) <| .nil) (by kernel_rfl) ?_
              refine pSeq ?_
              rcases ic h with ⟨hp181, h⟩ | ⟨hp181, h⟩
              · refine wCT hp181 tm (s1 rfl) ?_
                refine wSeq ?_
                obtain ⟨y182, hy182, h⟩ := bd h
                refine rg (cp (oMv tm) (s1 rfl) <| cp (oMv tm) (s1 rfl) <| cp (oSub tm (cI (by decide))) (s1 rfl) <| cp (oCall rfl (reticentref24_from.ok hy182) b66 (opds_cons tm (opds_cons tm opds_nil))) (s2 rfl rfl) <| cp (oAs tm) (s1 rfl) <| .nil) (by kernel_rfl) ?_
                refine pSeq ?_
                refine wSeq ?_
                obtain ⟨y183, hy183, h⟩ := bd h
                refine rg (cp (oMv tm) (s1 rfl) <| cp (oMv tm) (s1 rfl) <| cp (oSub tm (cI (by decide))) (s1 rfl) <| cp (oCall rfl (reticentref24_from.ok hy183) b66 (opds_cons tm (opds_cons tm opds_nil))) (s2 rfl rfl) <| cp (oAs tm) (s1 rfl) <| .nil) (by kernel_rfl) ?_
                refine pSeq ?_
                refine wSeq ?_
                obtain ⟨y184, hy184, h⟩ := bd h
                obtain ⟨hc185, h⟩ := ib h
                refine rg (cp (oMv tm) (s1 rfl) <| cp (oMv tm) (s1 rfl) <| cp (oMv tm) (s1 rfl) <| cp (oMv tm) (s1 rfl) <| cp (oMv tm) (s1 rfl) <| cp (oCall rfl (reticentref24_but.ok hy184) b67 (opds_cons tm (opds_cons tm (opds_cons tm (opds_cons tm opds_nil))))) ⟨rfl, rfl, rfl, rfl, trivial⟩ <| cp (oLit (d := (kL (kI .i64))) el29 (by decide) rfl rfl rfl (e1 tm e0)) (s1 rfl) <| cw (oApp (n := 0) (id' := 54) el29 (by decide) rfl (by decide) hc185 tm tm) (s2 rfl rfl) <| cp (oAs tm) (s1 rfl) <| .nil) (by kernel_rfl) ?_
                refine pSeq ?_
                obtain ⟨y186, hy186, h⟩ := bd h
                obtain ⟨hc187, h⟩ := ib h
                refine rg (cp (oMv tm) (s1 rfl) <| cp (oMv tm) (s1 rfl) <| cp (oMv tm) (s1 rfl) <| cp (oMv tm) (s1 rfl) <| cp (oMv tm) (s1 rfl) <| cp (oCall rfl (reticentref24_but.ok hy186) b67 (opds_cons tm (opds_cons tm (opds_cons tm (opds_cons tm opds_nil))))) ⟨rfl, rfl, rfl, rfl, trivial⟩ <| cp (oLit (d := (kL (kI .i64))) el29 (by decide) rfl rfl rfl (e1 tm e0)) (s1 rfl) <| cw (oApp (n := 0) (id' := 62) el29 (by decide) rfl (by decide) hc187 tm tm) (s2 rfl rfl) <| cp (oAs tm) (s1 rfl) <| .nil) (by kernel_rfl) ?_
                refine pBlkN ?_
                refine pSub (Γ' := [(0, .d ((kL (kI .i64)).sig a0)), (4, .d ((kI .i64).sig 3)), (5, .v 62), (29, .d ((kL (kI .i64)).sig a0)), (30, .d ((kI .i64).sig (a0.length : Int))), (31, .d ((kI .i64).sig v168))]) ⟨rfl, rfl, rfl, rfl, rfl, rfl, trivial⟩ ?_
                refine pRen 62 1005 rfl ?_
                exact pJ1 _ (so h) ⟨rfl, rfl, rfl, rfl, rfl, rfl, trivial⟩ rfl
              · refine wCF hp181 tm (s1 rfl) ?_
                refine wSkip ?_
                refine pBlkN ?_
                exact pJ1 _ (so h) ⟨rfl, rfl, rfl, rfl, rfl, rfl, trivial⟩ rfl
            · rintro x179 rfl
              replace h := hk2
              refine rg (cp (oAdd tm (cI (by decide))) (s1 rfl) <| cp (oMv tm) (s1 rfl) <| .nil) (by kernel_rfl) ?_
              exact pLoop (lW (ih _ _ h) ⟨rfl, rfl, rfl, rfl, rfl, rfl, trivial⟩ rfl)
          · refine wCF hp170 tm (s1 rfl) ?_
            refine wExit ?_
            refine pThenX ?_
            refine pThenX ?_
            refine pBlkX ?_
            exact pJ1 _ (so h) ⟨rfl, trivial⟩ rfl
        · rintro x169 rfl
          replace h := hk1
          refine pSeq ?_
          refine wSeq ?_
          refine rg (cp (oMv tm) (s1 rfl) <| cp (oAs tm) (s1 rfl) <| .nil) (by kernel_rfl) ?_
          refine pSeq ?_
          refine wFrzR (n := 0) (id := 1005) [2] rfl rfl ⟨rfl, trivial⟩ ?_
          refine wRet ?_
          obtain rfl := so h
          exact pR1 (.inl rfl) rfl (.tmp rfl <| .nil)
      · refine wBF hp129 tm (s1 rfl) ?_
        refine wSkip ?_
        refine pSeq ?_
        refine wSeq ?_
        refine wSeq ?_
        refine rg (cp (oMv tm) (s1 rfl) <| cp (oLenL u22 tm) (s1 rfl) <| cp (oMv (cI (by decide))) trivial <| .nil) (by kernel_rfl) ?_
        refine pSeq ?_
        obtain ⟨o1, h, hk1⟩ := bd h
        refine wK1 (fun x226 => x226 = o1) (fun x226 => [(5, .v 1005)]) (fun x226 => [.row 1005 22 (kL (kI .i64)) x226]) ?_ ?_
        · refine wBlock (wLoop ?_)
          refine lW (pc2 o1 (fun v224 v225 => [(0, .d ((kL (kI .i64)).sig a0)), (4, .d ((kI .i64).sig 3)), (5, .v 1005), (29, .d ((kL (kI .i64)).sig a0)), (30, .d ((kI .i64).sig (a0.length : Int))), (31, .d ((kI .i64).sig v225))]) (fun v224 v225 => [.row 1005 22 (kL (kI .i64)) v224]) (reticentref24_Weaker.l3.partial_correctness a0) ?_ _ _ h) ⟨rfl, rfl, rfl, rfl, rfl, rfl, trivial⟩ rfl
          clear h
          intro f' ih v224 v225 h
          refine wSeq ?_
          refine rg (cp (oLt rfl tm tm) (s2 rfl rfl) <| .nil) (by kernel_rfl) ?_
          refine pSeq ?_
          refine wSeq ?_
          rcases ic h with ⟨hp227, h⟩ | ⟨hp227, h⟩
          · refine wCT hp227 tm (s1 rfl) ?_
            refine wSkip ?_
            refine pSeq ?_
            obtain ⟨o2, h, hk2⟩ := bd h
            refine wJ1 (fun x236 => x236 = o2) (fun x236 => [(0, .d ((kL (kI .i64)).sig a0)), (4, .d ((kI .i64).sig 3)), (5, .v 1005), (29, .d ((kL (kI .i64)).sig a0)), (30, .d ((kI .i64).sig (a0.length : Int))), (31, .d ((kI .i64).sig v225))]) (fun x236 => [.row 1005 22 (kL (kI .i64)) x236]) ?_ ?_
            · refine wBlock ?_
              refine wSeq ?_
              obtain ⟨y237, hy237, h⟩ := bd h
              refine rg (cp (oMv tm) (s1 rfl) <| cp (oIdx u22 z3 hy237 tm tm) (s2 rfl rfl) <| cp (oLd t3 tm) (s1 rfl) <| cp (oAs tm) (s1 rfl) <| cp (oAs tm) (s1 rfl) <| .nil) (by kernel_rfl) ?_
              refine pSeq ?_
              refine wSeq ?_
              refine rg (cp (oMv tm) (s1 rfl) <| cp (oMv tm) (s1 rfl) <| cp (oEq rfl tm tm) (s2 rfl rfl) <| .nil) (by kernel_rfl) ?_
              refine pSeq ?_
              rcases ic h with ⟨hp238, h⟩ | ⟨hp238, h⟩
              · refine wCT hp238 tm (s1 rfl) ?_
                refine wSeq ?_
                obtain ⟨y239, hy239, h⟩ := bd h
                refine rg (cp (oMv tm) (s1 rfl) <| cp (oMv tm) (s1 rfl) <| cp (oSub tm (cI (by decide))) (s1 rfl) <| cp (oCall rfl (reticentref24_from.ok hy239) b66 (opds_cons tm (opds_cons tm opds_nil))) (s2 rfl rfl) <| cp (oAs tm) (s1 rfl) <| .nil) (by kernel_rfl) ?_
                refine pSeq ?_
                refine wSeq ?_
                obtain ⟨y240, hy240, h⟩ := bd h
                refine rg (cp (oMv tm) (s1 rfl) <| cp (oMv tm) (s1 rfl) <| cp (oSub tm (cI (by decide))) (s1 rfl) <| cp (oCall rfl (reticentref24_from.ok hy240) b66 (opds_cons tm (opds_cons tm opds_nil))) (s2 rfl rfl) <| cp (oAs tm) (s1 rfl) <| .nil) (by kernel_rfl) ?_
                refine pSeq ?_
                refine wSeq ?_
                obtain ⟨y241, hy241, h⟩ := bd h
                obtain ⟨hc242, h⟩ := ib h
                refine rg (cp (oMv tm) (s1 rfl) <| cp (oMv tm) (s1 rfl) <| cp (oMv tm) (s1 rfl) <| cp (oMv tm) (s1 rfl) <| cp (oMv tm) (s1 rfl) <| cp (oCall rfl (reticentref24_but.ok hy241) b67 (opds_cons tm (opds_cons tm (opds_cons tm (opds_cons tm opds_nil))))) ⟨rfl, rfl, rfl, rfl, trivial⟩ <| cp (oLit (d := (kL (kI .i64))) el29 (by decide) rfl rfl rfl (e1 tm e0)) (s1 rfl) <| cw (oApp (n := 0) (id' := 54) el29 (by decide) rfl (by decide) hc242 tm tm) (s2 rfl rfl) <| cp (oAs tm) (s1 rfl) <| .nil) (by kernel_rfl) ?_
                refine pSeq ?_
                obtain ⟨y243, hy243, h⟩ := bd h
                obtain ⟨hc244, h⟩ := ib h
                refine rg (cp (oMv tm) (s1 rfl) <| cp (oMv tm) (s1 rfl) <| cp (oMv tm) (s1 rfl) <| cp (oMv tm) (s1 rfl) <| cp (oMv tm) (s1 rfl) <| cp (oCall rfl (reticentref24_but.ok hy243) b67 (opds_cons tm (opds_cons tm (opds_cons tm (opds_cons tm opds_nil))))) ⟨rfl, rfl, rfl, rfl, trivial⟩ <| cp (oLit (d := (kL (kI .i64))) el29 (by decide) rfl rfl rfl (e1 tm e0)) (s1 rfl) <| cw (oApp (n := 0) (id' := 62) el29 (by decide) rfl (by decide) hc244 tm tm) (s2 rfl rfl) <| cp (oAs tm) (s1 rfl) <| .nil) (by kernel_rfl) ?_
                refine pBlkN ?_
                refine pSub (Γ' := [(0, .d ((kL (kI .i64)).sig a0)), (4, .d ((kI .i64).sig 3)), (5, .v 62), (29, .d ((kL (kI .i64)).sig a0)), (30, .d ((kI .i64).sig (a0.length : Int))), (31, .d ((kI .i64).sig v225))]) ⟨rfl, rfl, rfl, rfl, rfl, rfl, trivial⟩ ?_
                refine pRen 62 1005 rfl ?_
                exact pJ1 _ (so h) ⟨rfl, rfl, rfl, rfl, rfl, rfl, trivial⟩ rfl
              · refine wCF hp238 tm (s1 rfl) ?_
                refine wSkip ?_
                refine pBlkN ?_
                exact pJ1 _ (so h) ⟨rfl, rfl, rfl, rfl, rfl, rfl, trivial⟩ rfl
            · rintro x236 rfl
              replace h := hk2
              refine rg (cp (oAdd tm (cI (by decide))) (s1 rfl) <| cp (oMv tm) (s1 rfl) <| .nil) (by kernel_rfl) ?_
              exact pLoop (lW (ih _ _ h) ⟨rfl, rfl, rfl, rfl, rfl, rfl, trivial⟩ rfl)
          · refine wCF hp227 tm (s1 rfl) ?_
            refine wExit ?_
            refine pThenX ?_
            refine pThenX ?_
            refine pBlkX ?_
            exact pJ1 _ (so h) ⟨rfl, trivial⟩ rfl
        · rintro x226 rfl
          replace h := hk1
          refine pSeq ?_
          refine wSeq ?_
          refine rg (cp (oMv tm) (s1 rfl) <| cp (oAs tm) (s1 rfl) <| .nil) (by kernel_rfl) ?_
          refine pSeq ?_
          refine wFrzR (n := 0) (id := 1005) [2] rfl rfl ⟨rfl, trivial⟩ ?_
          refine wRet ?_
          obtain rfl := so h
          exact pR1 (.inl rfl) rfl (.tmp rfl <| .nil)

theorem reticentlaw24_MutantWeaker.ok {a0 : List Int} {r : Bool} (h : reticentlaw24_MutantWeaker.f a0 = some r) : FnA Try.prog 4 [(kL (kI .i64)).sig a0] (kB.sig r) := by
  refine fnIntro Try.func4 rfl (by kernel_rfl) fun H0 w0 => ?_
  unfold reticentlaw24_MutantWeaker.f at h
  refine wSeq ?_
  refine rg (cp (oAs cB) trivial <| .nil) (by kernel_rfl) ?_
  refine pSeq ?_
  refine wSeq ?_
  obtain ⟨hc1, h⟩ := ib h
  refine rg (cp (oMv tm) (s1 rfl) <| cp (oMv tm) (s1 rfl) <| cp (oLenL u22 tm) (s1 rfl) <| cp (oMin tm (cI (by decide))) (s1 rfl) <| cp (oCutHi u22 z3 hc1.1 hc1.2 tm tm) (s2 rfl rfl) <| cp (oAs tm) (s1 rfl) <| .nil) (by kernel_rfl) ?_
  refine pSeq ?_
  refine wSeq ?_
  obtain ⟨y2, hy2, h⟩ := bd h
  refine rg (cp (oMv tm) (s1 rfl) <| cp (oCall rfl (mutant_Weaker.ok hy2) b18 (opds_cons tm opds_nil)) (s1 rfl) <| cp (oMv tm) (s1 rfl) <| cp (oExt (k := 0) rfl tm) (s1 rfl) <| cp (oExt (k := 1) rfl tm) (s1 rfl) <| cp (oAs tm) (s1 rfl) <| cp (oAs tm) (s1 rfl) <| .nil) (by kernel_rfl) ?_
  refine pSeq ?_
  refine wSeq ?_
  refine wSeq ?_
  obtain ⟨y3, hy3, h⟩ := bd h
  refine rg (cp (oMv tm) (s1 rfl) <| cp (oCall rfl (reticentref04_Made.ok hy3) b15 (opds_cons tm opds_nil)) (s1 rfl) <| cp (oEq rfl tm (cI (by decide))) (s1 rfl) <| .nil) (by kernel_rfl) ?_
  refine pSeq ?_
  rcases ic h with ⟨hp4, h⟩ | ⟨hp4, h⟩
  · refine wCT hp4 tm (s1 rfl) ?_
    obtain ⟨o1, h, hk1⟩ := bd h
    refine wJ1 (fun x8 => x8 = o1) (fun x8 => [(2, .d (kB.sig x8))]) (fun x8 => []) ?_ ?_
    · obtain ⟨y9, hy9, h⟩ := bd h
      rcases ic h with ⟨hp10, h⟩ | ⟨hp10, h⟩
      · rcases ic h with ⟨hp11, h⟩ | ⟨hp11, h⟩
        · refine rg (cp (oCall rfl (reticentlaw24_alive.ok hy9) b19 opds_nil) trivial <| cp (oMv tm) (s1 rfl) <| cgB hp10 rfl rfl (oMv tm) (s1 rfl) <| cgB hp10 rfl rfl (oEq rfl tm (cI (by decide))) (s1 rfl) <| cp (oPkT hp10 tm tm) (s2 rfl rfl) <| cp (oMv tm) (s1 rfl) <| cgB (decide_eq_true hp11) rfl rfl (oMv tm) (s1 rfl) <| cgB (decide_eq_true hp11) rfl rfl (oLenL u29 tm) (s1 rfl) <| cgB (decide_eq_true hp11) rfl rfl (oEq rfl tm (cI (by decide))) (s1 rfl) <| cp (oPkT (decide_eq_true hp11) tm tm) (s2 rfl rfl) <| cp (oAs tm) (s1 rfl) <| .nil) (by kernel_rfl) ?_
          exact pJ1 _ (so h) ⟨rfl, trivial⟩ rfl
        · refine rg (cp (oCall rfl (reticentlaw24_alive.ok hy9) b19 opds_nil) trivial <| cp (oMv tm) (s1 rfl) <| cgB hp10 rfl rfl (oMv tm) (s1 rfl) <| cgB hp10 rfl rfl (oEq rfl tm (cI (by decide))) (s1 rfl) <| cp (oPkT hp10 tm tm) (s2 rfl rfl) <| cp (oMv tm) (s1 rfl) <| csB (decide_eq_false hp11) rfl rfl <| csB (decide_eq_false hp11) rfl rfl <| csB (decide_eq_false hp11) rfl rfl <| cp (oPkF (decide_eq_false hp11) tm cB) (s1 rfl) <| cp (oAs tm) (s1 rfl) <| .nil) (by kernel_rfl) ?_
          exact pJ1 _ (so h) ⟨rfl, trivial⟩ rfl
      · refine rg (cp (oCall rfl (reticentlaw24_alive.ok hy9) b19 opds_nil) trivial <| cp (oMv tm) (s1 rfl) <| csB (nb hp10) rfl rfl <| csB (nb hp10) rfl rfl <| cp (oPkF (nb hp10) tm cB) (s1 rfl) <| cp (oMv tm) (s1 rfl) <| csB rfl rfl rfl <| csB rfl rfl rfl <| csB rfl rfl rfl <| cp (oPkF rfl tm cB) (s1 rfl) <| cp (oAs tm) (s1 rfl) <| .nil) (by kernel_rfl) ?_
        exact pJ1 _ (so h) ⟨rfl, trivial⟩ rfl
    · rintro x8 rfl
      replace h := hk1
      refine wRet ?_
      refine pThenR ?_
      obtain rfl := so h
      exact pR1 (.inl rfl) rfl (.tmp rfl <| .nil)
  · refine wCF hp4 tm (s1 rfl) ?_
    refine wSkip ?_
    refine pSeq ?_
    refine wSeq ?_
    obtain ⟨y12, hy12, h⟩ := bd h
    refine rg (cp (oMv tm) (s1 rfl) <| cp (oCall rfl (reticentref24_Weaker.ok hy12) b20 (opds_cons tm opds_nil)) (s1 rfl) <| cp (oAs tm) (s1 rfl) <| .nil) (by kernel_rfl) ?_
    refine pSeq ?_
    refine wSeq ?_
    obtain ⟨o1, h, hk1⟩ := bd h
    refine wJ1 (fun x16 => x16 = o1) (fun x16 => [(3, .d ((kL (kL (kI .i64))).sig y2.1)), (5, .d ((kL (kL (kI .i64))).sig y12)), (44, .d (kB.sig x16))]) (fun x16 => []) ?_ ?_
    · rcases ic h with ⟨hp17, h⟩ | ⟨hp17, h⟩
      · rcases ic h with ⟨hp18, h⟩ | ⟨hp18, h⟩
        · obtain ⟨y19, hy19, h⟩ := bd h
          refine rg (cp (oMv tm) (s1 rfl) <| cp (oNe rfl tm (cI (by decide))) (s1 rfl) <| cp (oMv tm) (s1 rfl) <| cgB (nf hp17) rfl rfl (oMv tm) (s1 rfl) <| cgB (nf hp17) rfl rfl (oLenL u29 tm) (s1 rfl) <| cgB (nf hp17) rfl rfl (oMv tm) (s1 rfl) <| cgB (nf hp17) rfl rfl (oLenL u29 tm) (s1 rfl) <| cgB (nf hp17) rfl rfl (oNe rfl tm tm) (s2 rfl rfl) <| cp (oPkF (nf hp17) tm tm) (s2 rfl rfl) <| cp (oMv tm) (s1 rfl) <| cgB (nf hp18) rfl rfl (oCall rfl (reticentlaw24_alive.ok hy19) b19 opds_nil) trivial <| cgB (nf hp18) rfl rfl (oNot tm) (s1 rfl) <| cp (oPkF (nf hp18) tm tm) (s2 rfl rfl) <| .nil) (by kernel_rfl) ?_
          exact pJ1 _ (so h) ⟨rfl, rfl, rfl, trivial⟩ rfl
        · refine rg (cp (oMv tm) (s1 rfl) <| cp (oNe rfl tm (cI (by decide))) (s1 rfl) <| cp (oMv tm) (s1 rfl) <| cgB (nf hp17) rfl rfl (oMv tm) (s1 rfl) <| cgB (nf hp17) rfl rfl (oLenL u29 tm) (s1 rfl) <| cgB (nf hp17) rfl rfl (oMv tm) (s1 rfl) <| cgB (nf hp17) rfl rfl (oLenL u29 tm) (s1 rfl) <| cgB (nf hp17) rfl rfl (oNe rfl tm tm) (s2 rfl rfl) <| cp (oPkF (nf hp17) tm tm) (s2 rfl rfl) <| cp (oMv tm) (s1 rfl) <| csB (nt hp18) rfl rfl <| csB (nt hp18) rfl rfl <| cp (oPkT (nt hp18) tm cB) (s1 rfl) <| .nil) (by kernel_rfl) ?_
          exact pJ1 _ (so h) ⟨rfl, rfl, rfl, trivial⟩ rfl
      · refine rg (cp (oMv tm) (s1 rfl) <| cp (oNe rfl tm (cI (by decide))) (s1 rfl) <| cp (oMv tm) (s1 rfl) <| csB (nt hp17) rfl rfl <| csB (nt hp17) rfl rfl <| csB (nt hp17) rfl rfl <| csB (nt hp17) rfl rfl <| csB (nt hp17) rfl rfl <| cp (oPkT (nt hp17) tm cB) (s1 rfl) <| cp (oMv tm) (s1 rfl) <| csB rfl rfl rfl <| csB rfl rfl rfl <| cp (oPkT rfl tm cB) (s1 rfl) <| .nil) (by kernel_rfl) ?_
        exact pJ1 _ (so h) ⟨rfl, rfl, rfl, trivial⟩ rfl
    · rintro x16 rfl
      replace h := hk1
      rcases ic h with ⟨hp20, h⟩ | ⟨hp20, h⟩
      · refine wBT hp20 tm (s1 rfl) ?_
        refine wSeq ?_
        refine rg (cp (oAs cB) trivial <| .nil) (by kernel_rfl) ?_
        refine pSeq ?_
        refine wRet ?_
        refine pThenR ?_
        obtain rfl := so h
        exact pR1 (.inl rfl) rfl (.tmp rfl <| .nil)
      · refine wBF hp20 tm (s1 rfl) ?_
        refine wSkip ?_
        refine pSeq ?_
        refine wSeq ?_
        refine wSeq ?_
        refine rg (cp (oMv tm) (s1 rfl) <| cp (oLenL u29 tm) (s1 rfl) <| cp (oMv (cI (by decide))) trivial <| .nil) (by kernel_rfl) ?_
        refine pSeq ?_
        obtain ⟨o1, h, hk1⟩ := bd h
        refine wK0 (.inr () = o1) ([]) ([]) ?_ ?_
        · refine wBlock (wLoop ?_)
          refine lW (pc1 o1 (fun v31 => [(3, .d ((kL (kL (kI .i64))).sig y2.1)), (5, .d ((kL (kL (kI .i64))).sig y12)), (46, .d ((kI .i64).sig (y2.1.length : Int))), (47, .d ((kI .i64).sig v31))]) (fun v31 => []) (reticentlaw24_MutantWeaker.l0.partial_correctness y2 y12) ?_ _ h) ⟨rfl, rfl, rfl, rfl, trivial⟩ rfl
          clear h
          intro f' ih v31 h
          refine wSeq ?_
          refine rg (cp (oLt rfl tm tm) (s2 rfl rfl) <| .nil) (by kernel_rfl) ?_
          refine pSeq ?_
          refine wSeq ?_
          rcases ic h with ⟨hp32, h⟩ | ⟨hp32, h⟩
          · refine wCT hp32 tm (s1 rfl) ?_
            refine wSkip ?_
            refine pSeq ?_
            refine wSeq ?_
            refine wBlock ?_
            refine wSeq ?_
            refine rg (cp (oMv tm) (s1 rfl) <| cp (oAs tm) (s1 rfl) <| .nil) (by kernel_rfl) ?_
            refine pSeq ?_
            refine wSeq ?_
            obtain ⟨y33, hy33, h⟩ := bd h
            obtain ⟨y34, hy34, h⟩ := bd h
            obtain ⟨y35, hy35, h⟩ := bd h
            refine rgD hm (cp (oMv tm) (s1 rfl) <| cp (oMv tm) (s1 rfl) <| cp (oIdx u29 z22 hy33 tm tm) (s2 rfl rfl) <| cp (oLd t22 tm) (s1 rfl) <| cp (oMv tm) (s1 rfl) <| cp (oMv tm) (s1 rfl) <| cp (oIdx u29 z22 hy34 tm tm) (s2 rfl rfl) <| cp (oLd t22 tm) (s1 rfl) <| cp (oCall rfl (reticentref04_Same.ok hy35) b21 (opds_cons tm (opds_cons tm opds_nil))) (s2 rfl rfl) <| cp (oNot tm) (s1 rfl) <| .nil) (by kernel_rfl) (by kernel_rfl) ?_
            refine pSeq ?_
            rcases ic h with ⟨hp36, h⟩ | ⟨hp36, h⟩
            · refine wBT hp36 tm (s1 rfl) ?_
              refine wSeq ?_
              refine rg (cp (oAs cB) trivial <| .nil) (by kernel_rfl) ?_
              refine pSeq ?_
              refine wRet ?_
              refine pBlkR ?_
              refine pThenR ?_
              refine pThenR ?_
              refine pBlkR ?_
              refine pThenR ?_
              obtain rfl := so h
              replace h := hk1
              refine pThenR ?_
              obtain rfl := so h
              exact pR1 (.inl rfl) rfl (.tmp rfl <| .nil)
            · refine wBF hp36 tm (s1 rfl) ?_
              refine wSkip ?_
              refine pBlkN ?_
              refine pSeq ?_
              refine rg (cp (oAdd tm (cI (by decide))) (s1 rfl) <| cp (oMv tm) (s1 rfl) <| .nil) (by kernel_rfl) ?_
              exact pLoop (lW (ih _ h) ⟨rfl, rfl, rfl, rfl, trivial⟩ rfl)
          · refine wCF hp32 tm (s1 rfl) ?_
            refine wExit ?_
            refine pThenX ?_
            refine pThenX ?_
            refine pBlkX ?_
            exact pJ0 (so h) trivial rfl
        · rintro rfl
          replace h := hk1
          refine pSeq ?_
          refine wSeq ?_
          refine rg (cp (oAs cB) trivial <| .nil) (by kernel_rfl) ?_
          refine pSeq ?_
          refine wRet ?_
          obtain rfl := so h
          exact pR1 (.inl rfl) rfl (.tmp rfl <| .nil)

end Go.Proofs.Ythpmbokenhpakaa.LD
