import Derived.Test.YthpmbokenhpakaaDLB
import Derived.Test.YthpmbokenhpakaaProg
set_option linter.unusedVariables false
set_option maxRecDepth 10000
namespace Go.Proofs.Ythpmbokenhpakaa.LB
open Go Go.Proofs.Ythpmbokenhpakaa.Ab

theorem hm : Try.prog.follows .mixedOrders = true := by kernel_rfl
theorem ze148 : zeroIs Try.prog 148 [(.slice none 0 0)] := by unfold zeroIs; kernel_rfl
theorem t148 : tinf Try.prog 148 = some (false, 1) := by kernel_rfl
theorem u148 : Try.prog.underlying 148 = some (.slice 107) := by kernel_rfl
theorem z107 : sizeIs Try.prog 107 1 := by unfold sizeIs; kernel_rfl
theorem t107 : tinf Try.prog 107 = some (false, 1) := by kernel_rfl
theorem u107 : Try.prog.underlying 107 = some (.bool) := by kernel_rfl
theorem z148 : sizeIs Try.prog 148 1 := by unfold sizeIs; kernel_rfl
theorem u22 : Try.prog.underlying 22 = some (.slice 3) := by kernel_rfl
theorem z3 : sizeIs Try.prog 3 1 := by unfold sizeIs; kernel_rfl
theorem t3 : tinf Try.prog 3 = some (false, 1) := by kernel_rfl
theorem el148 : ElTy Try.prog 148 107 1 1 := ⟨by kernel_rfl, by kernel_rfl⟩
theorem b112 : bodied Try.prog 112 := by unfold bodied; kernel_rfl
theorem b85 : bodied Try.prog 85 := by unfold bodied; kernel_rfl
theorem u4 : Try.prog.underlying 4 = some (.bool) := by kernel_rfl
theorem el39 : ElTy Try.prog 39 9 1 16 := ⟨by kernel_rfl, by kernel_rfl⟩
theorem u39 : Try.prog.underlying 39 = some (.slice 9) := by kernel_rfl
theorem z9 : sizeIs Try.prog 9 1 := by unfold sizeIs; kernel_rfl
theorem t9 : tinf Try.prog 9 = some (false, 1) := by kernel_rfl
theorem o81_0 : fofs Try.prog 81 0 = some 0 := by kernel_rfl
theorem t79 : tinf Try.prog 79 = some (false, 1) := by kernel_rfl
theorem t86 : tinf Try.prog 86 = some (true, 3) := by kernel_rfl
theorem el79 : ElTy Try.prog 79 86 3 32 := ⟨by kernel_rfl, by kernel_rfl⟩
theorem z79 : sizeIs Try.prog 79 1 := by unfold sizeIs; kernel_rfl
theorem zI_i64 : ∀ H, (kI .i64).reps H [.int .i64 0] 0 := fun _ => ⟨rfl, by decide⟩
theorem zS : ∀ H, kS.reps H [.string ⟨⟨[]⟩⟩] [] := fun _ => ⟨rfl, by decide⟩
theorem ze86 : zeroIs Try.prog 86 [(.string ⟨⟨[]⟩⟩), (.int .i64 0), (.int .i64 0)] := by unfold zeroIs; kernel_rfl
theorem u79 : Try.prog.underlying 79 = some (.slice 86) := by kernel_rfl
theorem z86 : sizeIs Try.prog 86 3 := by unfold sizeIs; kernel_rfl
theorem o86_1 : fofs Try.prog 86 1 = some 1 := by kernel_rfl
theorem o86_0 : fofs Try.prog 86 0 = some 0 := by kernel_rfl
theorem o86_2 : fofs Try.prog 86 2 = some 2 := by kernel_rfl
theorem pl86 : places Try.prog 86 = some [(0, 1), (1, 1), (2, 1)] := by kernel_rfl
theorem po86 : ∀ q f, f_show_piece[q]? = some f → ([(0, 1), (1, 1), (2, 1)] : List (Nat × Nat))[q]? = some (offF f_show_piece q, f.d.sz) := fun q f h => by
  unfold f_show_piece at h
  match q, h with
  | 0, h => cases h; rfl
  | 1, h => cases h; rfl
  | 2, h => cases h; rfl
  | n + 3, h => simp at h
theorem b47 : bodied Try.prog 47 := by unfold bodied; kernel_rfl
theorem ze81 : zeroIs Try.prog 81 [(.slice none 0 0)] := by unfold zeroIs; kernel_rfl
theorem b59 : bodied Try.prog 59 := by unfold bodied; kernel_rfl
theorem b60 : bodied Try.prog 60 := by unfold bodied; kernel_rfl
theorem b61 : bodied Try.prog 61 := by unfold bodied; kernel_rfl
theorem b62 : bodied Try.prog 62 := by unfold bodied; kernel_rfl
theorem el22 : ElTy Try.prog 22 3 1 8 := ⟨by kernel_rfl, by kernel_rfl⟩
theorem b63 : bodied Try.prog 63 := by unfold bodied; kernel_rfl
theorem b14 : bodied Try.prog 14 := by unfold bodied; kernel_rfl
theorem ze91 : zeroIs Try.prog 91 [(.string ⟨⟨[]⟩⟩), (.int .i64 0), (.int .i64 0)] := by unfold zeroIs; kernel_rfl
theorem b94 : bodied Try.prog 94 := by unfold bodied; kernel_rfl
theorem t91 : tinf Try.prog 91 = some (true, 3) := by kernel_rfl
theorem z91 : sizeIs Try.prog 91 3 := by unfold sizeIs; kernel_rfl
theorem o91_0 : fofs Try.prog 91 0 = some 0 := by kernel_rfl
theorem o91_1 : fofs Try.prog 91 1 = some 1 := by kernel_rfl
theorem b91 : bodied Try.prog 91 := by unfold bodied; kernel_rfl
theorem b92 : bodied Try.prog 92 := by unfold bodied; kernel_rfl
theorem pl91 : places Try.prog 91 = some [(0, 1), (1, 1), (2, 1)] := by kernel_rfl
theorem po91 : ∀ q f, f_reticentref05_T[q]? = some f → ([(0, 1), (1, 1), (2, 1)] : List (Nat × Nat))[q]? = some (offF f_reticentref05_T q, f.d.sz) := fun q f h => by
  unfold f_reticentref05_T at h
  match q, h with
  | 0, h => cases h; rfl
  | 1, h => cases h; rfl
  | 2, h => cases h; rfl
  | n + 3, h => simp at h
theorem b64 : bodied Try.prog 64 := by unfold bodied; kernel_rfl
theorem o91_2 : fofs Try.prog 91 2 = some 2 := by kernel_rfl
theorem b93 : bodied Try.prog 93 := by unfold bodied; kernel_rfl
theorem b15 : bodied Try.prog 15 := by unfold bodied; kernel_rfl
theorem b16 : bodied Try.prog 16 := by unfold bodied; kernel_rfl
theorem b17 : bodied Try.prog 17 := by unfold bodied; kernel_rfl

theorem rule_made_1.ok {a0 : Bool} {a1 : List Bool} {r : (List Bool) × Bool} (h : rule_made_1.f a0 a1 = some r) : FnS Try.prog 112 [.d (kB.sig a0), .p 70100 0] [.box 70100 148 [.v 70101], .row 70101 107 kB a1] [70100] (.d (kB.sig r.2)) [.box 70100 148 [.v 70101], .row 70101 107 kB r.1] := by
  refine fnIntroS Try.func112 rfl (by kernel_rfl) fun X H0 w0 pv => ?_
  unfold rule_made_1.f at h
  refine wSeq ?_
  refine rg (cp (oAs cB) trivial <| .nil) (by kernel_rfl) ?_
  refine pSeq ?_
  refine wSeq ?_
  refine rg (cr (oLdN (n := 0) (k := 0) rfl rfl rfl t148 tm) (s1 rfl) <| cr (oLenR (n := 1) u148 rfl tm) (s1 rfl) <| cp (oSub tm (cI (by decide))) (s1 rfl) <| cp (oAs tm) (s1 rfl) <| .nil) (by kernel_rfl) ?_
  refine pSeq ?_
  refine wSeq ?_
  refine wWeak (Γ' := [(0, .d (kB.sig a0)), (1, .p 70100 0), (4, .d ((kI .i64).sig (IntKind.i64.wrap ((a1.length : Int) - 1))))]) ⟨rfl, rfl, rfl, trivial⟩ ?_
  refine wRen 70101 3510000 rfl ?_
  obtain ⟨o1, h, hk1⟩ := bd h
  refine wJ1 (fun x5 => x5 = o1) (fun x5 => [(1, .p 70100 0), (4, .d ((kI .i64).sig (IntKind.i64.wrap ((a1.length : Int) - 1)))), (26, .d (kB.sig x5))]) (fun x5 => [.box 70100 148 [.v 3510000], .row 3510000 107 kB a1]) ?_ ?_
  · rcases ic h with ⟨hp6, h⟩ | ⟨hp6, h⟩
    · refine rg (cp (oMv tm) (s1 rfl) <| cp (oLt rfl tm (cI (by decide))) (s1 rfl) <| cp (oMv tm) (s1 rfl) <| csB (decide_eq_true hp6) rfl rfl <| csB (decide_eq_true hp6) rfl rfl <| csB (decide_eq_true hp6) rfl rfl <| csB (decide_eq_true hp6) rfl rfl <| csB (decide_eq_true hp6) rfl rfl <| csB (decide_eq_true hp6) rfl rfl <| cp (oPkT (decide_eq_true hp6) tm cB) (s1 rfl) <| cp (oMv tm) (s1 rfl) <| csB rfl rfl rfl <| csB rfl rfl rfl <| csB rfl rfl rfl <| csB rfl rfl rfl <| csB rfl rfl rfl <| csB rfl rfl rfl <| csB rfl rfl rfl <| cp (oPkT rfl tm cB) (s1 rfl) <| .nil) (by kernel_rfl) ?_
      exact pJ1 _ (so h) ⟨rfl, rfl, rfl, trivial⟩ rfl
    · obtain ⟨y7, hy7, h⟩ := bd h
      rcases ic h with ⟨hp8, h⟩ | ⟨hp8, h⟩
      · obtain ⟨y9, hy9, h⟩ := bd h
        refine rg (cp (oMv tm) (s1 rfl) <| cp (oLt rfl tm (cI (by decide))) (s1 rfl) <| cp (oMv tm) (s1 rfl) <| crgB (decide_eq_false hp6) rfl rfl (oLdN (n := 0) (k := 0) rfl rfl rfl t148 tm) (s1 rfl) <| cgB (decide_eq_false hp6) rfl rfl (oMv tm) (s1 rfl) <| crgB (decide_eq_false hp6) rfl rfl (oIdxR (n := 1) u148 z107 rfl hy7 tm tm) (s2 rfl rfl) <| crgB (decide_eq_false hp6) rfl rfl (oLdE (n := 1) rfl hy7 rfl t107 tm) (s1 rfl) <| cgB (decide_eq_false hp6) rfl rfl (oMv tm) (s1 rfl) <| cgB (decide_eq_false hp6) rfl rfl (oBNe u107 rfl tm tm) (s2 rfl rfl) <| cp (oPkF (decide_eq_false hp6) tm tm) (s2 rfl rfl) <| cp (oMv tm) (s1 rfl) <| crgB (nf hp8) rfl rfl (oLdN (n := 0) (k := 0) rfl rfl rfl t148 tm) (s1 rfl) <| cgB (nf hp8) rfl rfl (oMv tm) (s1 rfl) <| cgB (nf hp8) rfl rfl (oSub tm (cI (by decide))) (s1 rfl) <| crgB (nf hp8) rfl rfl (oIdxR (n := 1) u148 z107 rfl hy9 tm tm) (s2 rfl rfl) <| crgB (nf hp8) rfl rfl (oLdE (n := 1) rfl hy9 rfl t107 tm) (s1 rfl) <| cgB (nf hp8) rfl rfl (oMv tm) (s1 rfl) <| cgB (nf hp8) rfl rfl (oBNe u107 rfl tm tm) (s2 rfl rfl) <| cp (oPkF (nf hp8) tm tm) (s2 rfl rfl) <| .nil) (by kernel_rfl) ?_
        exact pJ1 _ (so h) ⟨rfl, rfl, rfl, trivial⟩ rfl
      · refine rg (cp (oMv tm) (s1 rfl) <| cp (oLt rfl tm (cI (by decide))) (s1 rfl) <| cp (oMv tm) (s1 rfl) <| crgB (decide_eq_false hp6) rfl rfl (oLdN (n := 0) (k := 0) rfl rfl rfl t148 tm) (s1 rfl) <| cgB (decide_eq_false hp6) rfl rfl (oMv tm) (s1 rfl) <| crgB (decide_eq_false hp6) rfl rfl (oIdxR (n := 1) u148 z107 rfl hy7 tm tm) (s2 rfl rfl) <| crgB (decide_eq_false hp6) rfl rfl (oLdE (n := 1) rfl hy7 rfl t107 tm) (s1 rfl) <| cgB (decide_eq_false hp6) rfl rfl (oMv tm) (s1 rfl) <| cgB (decide_eq_false hp6) rfl rfl (oBNe u107 rfl tm tm) (s2 rfl rfl) <| cp (oPkF (decide_eq_false hp6) tm tm) (s2 rfl rfl) <| cp (oMv tm) (s1 rfl) <| csB (nt hp8) rfl rfl <| csB (nt hp8) rfl rfl <| csB (nt hp8) rfl rfl <| csB (nt hp8) rfl rfl <| csB (nt hp8) rfl rfl <| csB (nt hp8) rfl rfl <| csB (nt hp8) rfl rfl <| cp (oPkT (nt hp8) tm cB) (s1 rfl) <| .nil) (by kernel_rfl) ?_
        exact pJ1 _ (so h) ⟨rfl, rfl, rfl, trivial⟩ rfl
  · rintro x5 rfl
    replace h := hk1
    rcases ic h with ⟨hp10, h⟩ | ⟨hp10, h⟩
    · refine wBT hp10 tm (s1 rfl) ?_
      refine wSeq ?_
      refine rg (cp (oAs cB) trivial <| .nil) (by kernel_rfl) ?_
      refine pSeq ?_
      refine wRet ?_
      refine pThenR ?_
      obtain rfl := so h
      refine pSub (Γ' := [(3, .d (kB.sig false))]) ⟨rfl, trivial⟩ ?_
      refine pRen 3510000 70101 rfl ?_
      exact pS1 [0, 1] rfl rfl (.inl rfl) rfl (.tmp rfl <| .nil)
    · refine wBF hp10 tm (s1 rfl) ?_
      refine wSkip ?_
      refine pSeq ?_
      refine wSeq ?_
      obtain ⟨hc11, h⟩ := ib h
      refine rg (cr (oLdN (n := 0) (k := 0) rfl rfl rfl t148 tm) (s1 rfl) <| cp (oMv tm) (s1 rfl) <| cp (oSub tm (cI (by decide))) (s1 rfl) <| cw (oCutR (n := 1) (id' := 30) u148 z107 rfl hc11.1 hc11.2 tm tm) (s2 rfl rfl) <| cwn (oStN (n := 0) (m := 1) (k := 0) rfl rfl rfl rfl z148 rfl tm tm) (s2 rfl rfl) <| .nil) (by kernel_rfl) ?_
      refine pSeq ?_
      refine wSeq ?_
      refine rg (cp (oAs cB) trivial <| .nil) (by kernel_rfl) ?_
      refine pSeq ?_
      refine wRet ?_
      obtain rfl := so h
      refine pSub (Γ' := [(3, .d (kB.sig true))]) ⟨rfl, trivial⟩ ?_
      refine pRen 30 70101 rfl ?_
      exact pS1 [0, 1] rfl rfl (.inl rfl) rfl (.tmp rfl <| .nil)

theorem rule_made.ok {a0 : List Int} {r : Bool × Bool} (h : rule_made.f a0 = some r) : FnA Try.prog 85 [(kL (kI .i64)).sig a0] (tup [kB.sig r.1, kB.sig r.2]) := by
  refine fnIntro Try.func85 rfl (by kernel_rfl) fun H0 w0 => ?_
  unfold rule_made.f at h
  refine wSeq ?_
  refine rg (cp (oAs cB) trivial <| cp (oAs cB) trivial <| .nil) (by kernel_rfl) ?_
  refine pSeq ?_
  refine wSeq ?_
  refine rg (cw (oAlloc (id := 4) (ls := [.d (kN Bool) []]) ze148 (fun g => ⟨[(.slice none 0 0)], _, rfl, zN g.H, rfl⟩)) trivial <| .nil) (by kernel_rfl) ?_
  refine pSeq ?_
  refine wSeq ?_
  refine rg (cp (oMkN (ids := [4]) (caps := [none]) rfl (oNp tm oN0)) (s1 rfl) <| cp (oAs tm) (s1 rfl) <| .nil) (by kernel_rfl) ?_
  refine pSeq ?_
  refine wSeq ?_
  refine wSeq ?_
  refine rg (cp (oMv tm) (s1 rfl) <| cp (oLenL u22 tm) (s1 rfl) <| cp (oMv (cI (by decide))) trivial <| .nil) (by kernel_rfl) ?_
  refine pSeq ?_
  refine wNilL kB 107 5200 (n := 0) (k := 0) rfl rfl rfl ?_
  obtain ⟨o1, h, hk1⟩ := bd h
  refine wK1 (fun x271 => .inr x271 = o1) (fun x271 => [(0, .d ((kL (kI .i64)).sig a0)), (4, .p 4 0)]) (fun x271 => [.row 5200 107 kB x271, .box 4 148 [.v 5200]]) ?_ ?_
  · refine wBlock (wLoop ?_)
    refine lW (pc2 o1 (fun v269 v270 => [(0, .d ((kL (kI .i64)).sig a0)), (4, .p 4 0), (5, .f [4] (sCloN 112 [none])), (10, .d ((kL (kI .i64)).sig a0)), (11, .d ((kI .i64).sig (a0.length : Int))), (12, .d ((kI .i64).sig v270))]) (fun v269 v270 => [.row 5200 107 kB v269, .box 4 148 [.v 5200]]) (rule_made.l0.partial_correctness a0) ?_ _ _ h) ⟨rfl, rfl, rfl, rfl, rfl, rfl, trivial⟩ rfl
    clear h
    intro f' ih v269 v270 h
    refine wSeq ?_
    refine rg (cp (oLt rfl tm tm) (s2 rfl rfl) <| .nil) (by kernel_rfl) ?_
    refine pSeq ?_
    refine wSeq ?_
    rcases ic h with ⟨hp272, h⟩ | ⟨hp272, h⟩
    · refine wCT hp272 tm (s1 rfl) ?_
      refine wSkip ?_
      refine pSeq ?_
      obtain ⟨o2, h, hk2⟩ := bd h
      refine wJ1 (fun x339 => .inr x339 = o2) (fun x339 => [(0, .d ((kL (kI .i64)).sig a0)), (4, .p 4 0), (5, .f [4] (sCloN 112 [none])), (10, .d ((kL (kI .i64)).sig a0)), (11, .d ((kI .i64).sig (a0.length : Int))), (12, .d ((kI .i64).sig v270))]) (fun x339 => [.row 5200 107 kB x339, .box 4 148 [.v 5200]]) ?_ ?_
      · refine wBlock ?_
        refine wSeq ?_
        obtain ⟨y340, hy340, h⟩ := bd h
        refine rg (cp (oIdx u22 z3 hy340 tm tm) (s2 rfl rfl) <| cp (oLd t3 tm) (s1 rfl) <| cp (oAs tm) (s1 rfl) <| .nil) (by kernel_rfl) ?_
        refine pSeq ?_
        refine wSeq ?_
        refine rg (cp (oAs cB) trivial <| .nil) (by kernel_rfl) ?_
        refine pSeq ?_
        refine wSeq ?_
        refine wSeq ?_
        refine rg (cp (oMv tm) (s1 rfl) <| .nil) (by kernel_rfl) ?_
        refine pSeq ?_
        obtain ⟨o3, h, hk3⟩ := bd h
        refine wK2 (fun x372 x373 => (x372, x373) = o3) (fun x372 x373 => [(0, .d ((kL (kI .i64)).sig a0)), (4, .p 4 0), (5, .f [4] (sCloN 112 [none])), (8, .d (kB.sig x373)), (10, .d ((kL (kI .i64)).sig a0)), (11, .d ((kI .i64).sig (a0.length : Int))), (12, .d ((kI .i64).sig v270))]) (fun x372 x373 => [.row 5200 107 kB x372, .box 4 148 [.v 5200]]) ?_ ?_
        · refine wBlock ?_
          refine wSeq ?_
          refine wSeq ?_
          refine rg (cp (oEq rfl tm (cI (by decide))) (s1 rfl) <| cp (oAs tm) (s1 rfl) <| .nil) (by kernel_rfl) ?_
          refine pSeq ?_
          rcases ic h with ⟨hp374, h⟩ | ⟨hp374, h⟩
          · refine wCT hp374 tm (s1 rfl) ?_
            refine wSkip ?_
            refine pSeq ?_
            refine wCT hp374 tm (s1 rfl) ?_
            obtain ⟨hc375, h⟩ := ib h
            refine rg (cr (oLdN (n := 1) (k := 0) rfl rfl rfl t148 tm) (s1 rfl) <| cp (oLit (d := kB) el148 (by decide) rfl rfl rfl (e1 cB e0)) trivial <| cw (oApp (n := 0) (id' := 22) el148 (by decide) rfl (by decide) hc375 tm tm) (s2 rfl rfl) <| cwn (oStN (n := 1) (m := 0) (k := 0) rfl rfl rfl rfl z148 rfl tm tm) (s2 rfl rfl) <| .nil) (by kernel_rfl) ?_
            refine pBlkN ?_
            refine pSub (Γ' := [(0, .d ((kL (kI .i64)).sig a0)), (4, .p 4 0), (5, .f [4] (sCloN 112 [none])), (8, .d (kB.sig true)), (10, .d ((kL (kI .i64)).sig a0)), (11, .d ((kI .i64).sig (a0.length : Int))), (12, .d ((kI .i64).sig v270))]) ⟨rfl, rfl, rfl, rfl, rfl, rfl, rfl, trivial⟩ ?_
            refine pRen 22 5200 rfl ?_
            exact pJ2 _ _ (so h) ⟨rfl, rfl, rfl, rfl, rfl, rfl, rfl, trivial⟩ rfl
          · refine wCF hp374 tm (s1 rfl) ?_
            refine rg (cp (oEq rfl tm (cI (by decide))) (s1 rfl) <| cp (oAs tm) (s1 rfl) <| .nil) (by kernel_rfl) ?_
            refine pSeq ?_
            rcases ic h with ⟨hp376, h⟩ | ⟨hp376, h⟩
            · refine wCT hp376 tm (s1 rfl) ?_
              obtain ⟨hc377, h⟩ := ib h
              refine rg (cr (oLdN (n := 1) (k := 0) rfl rfl rfl t148 tm) (s1 rfl) <| cp (oLit (d := kB) el148 (by decide) rfl rfl rfl (e1 cB e0)) trivial <| cw (oApp (n := 0) (id' := 22) el148 (by decide) rfl (by decide) hc377 tm tm) (s2 rfl rfl) <| cwn (oStN (n := 1) (m := 0) (k := 0) rfl rfl rfl rfl z148 rfl tm tm) (s2 rfl rfl) <| .nil) (by kernel_rfl) ?_
              refine pBlkN ?_
              refine pSub (Γ' := [(0, .d ((kL (kI .i64)).sig a0)), (4, .p 4 0), (5, .f [4] (sCloN 112 [none])), (8, .d (kB.sig true)), (10, .d ((kL (kI .i64)).sig a0)), (11, .d ((kI .i64).sig (a0.length : Int))), (12, .d ((kI .i64).sig v270))]) ⟨rfl, rfl, rfl, rfl, rfl, rfl, rfl, trivial⟩ ?_
              refine pRen 22 5200 rfl ?_
              exact pJ2 _ _ (so h) ⟨rfl, rfl, rfl, rfl, rfl, rfl, rfl, trivial⟩ rfl
            · refine wCF hp376 tm (s1 rfl) ?_
              refine wSeq ?_
              refine wSeq ?_
              refine rg (cp (oEq rfl tm (cI (by decide))) (s1 rfl) <| cp (oAs tm) (s1 rfl) <| .nil) (by kernel_rfl) ?_
              refine pSeq ?_
              rcases ic h with ⟨hp378, h⟩ | ⟨hp378, h⟩
              · refine wCT hp378 tm (s1 rfl) ?_
                refine wSkip ?_
                refine pSeq ?_
                refine wCT hp378 tm (s1 rfl) ?_
                obtain ⟨hc379, h⟩ := ib h
                refine rg (cr (oLdN (n := 1) (k := 0) rfl rfl rfl t148 tm) (s1 rfl) <| cp (oLit (d := kB) el148 (by decide) rfl rfl rfl (e1 cB e0)) trivial <| cw (oApp (n := 0) (id' := 32) el148 (by decide) rfl (by decide) hc379 tm tm) (s2 rfl rfl) <| cwn (oStN (n := 1) (m := 0) (k := 0) rfl rfl rfl rfl z148 rfl tm tm) (s2 rfl rfl) <| .nil) (by kernel_rfl) ?_
                refine pBlkN ?_
                refine pSub (Γ' := [(0, .d ((kL (kI .i64)).sig a0)), (4, .p 4 0), (5, .f [4] (sCloN 112 [none])), (8, .d (kB.sig true)), (10, .d ((kL (kI .i64)).sig a0)), (11, .d ((kI .i64).sig (a0.length : Int))), (12, .d ((kI .i64).sig v270))]) ⟨rfl, rfl, rfl, rfl, rfl, rfl, rfl, trivial⟩ ?_
                refine pRen 32 5200 rfl ?_
                exact pJ2 _ _ (so h) ⟨rfl, rfl, rfl, rfl, rfl, rfl, rfl, trivial⟩ rfl
              · refine wCF hp378 tm (s1 rfl) ?_
                refine wSeq ?_
                refine rg (cp (oEq rfl tm (cI (by decide))) (s1 rfl) <| cp (oAs tm) (s1 rfl) <| .nil) (by kernel_rfl) ?_
                refine pSeq ?_
                rcases ic h with ⟨hp380, h⟩ | ⟨hp380, h⟩
                · refine wCT hp380 tm (s1 rfl) ?_
                  refine wSkip ?_
                  refine pSeq ?_
                  refine wCT hp380 tm (s1 rfl) ?_
                  obtain ⟨hc381, h⟩ := ib h
                  refine rg (cr (oLdN (n := 1) (k := 0) rfl rfl rfl t148 tm) (s1 rfl) <| cp (oLit (d := kB) el148 (by decide) rfl rfl rfl (e1 cB e0)) trivial <| cw (oApp (n := 0) (id' := 32) el148 (by decide) rfl (by decide) hc381 tm tm) (s2 rfl rfl) <| cwn (oStN (n := 1) (m := 0) (k := 0) rfl rfl rfl rfl z148 rfl tm tm) (s2 rfl rfl) <| .nil) (by kernel_rfl) ?_
                  refine pBlkN ?_
                  refine pSub (Γ' := [(0, .d ((kL (kI .i64)).sig a0)), (4, .p 4 0), (5, .f [4] (sCloN 112 [none])), (8, .d (kB.sig true)), (10, .d ((kL (kI .i64)).sig a0)), (11, .d ((kI .i64).sig (a0.length : Int))), (12, .d ((kI .i64).sig v270))]) ⟨rfl, rfl, rfl, rfl, rfl, rfl, rfl, trivial⟩ ?_
                  refine pRen 32 5200 rfl ?_
                  exact pJ2 _ _ (so h) ⟨rfl, rfl, rfl, rfl, rfl, rfl, rfl, trivial⟩ rfl
                · refine wCF hp380 tm (s1 rfl) ?_
                  refine wSeq ?_
                  refine rg (cp (oEq rfl tm (cI (by decide))) (s1 rfl) <| cp (oAs tm) (s1 rfl) <| .nil) (by kernel_rfl) ?_
                  refine pSeq ?_
                  rcases ic h with ⟨hp382, h⟩ | ⟨hp382, h⟩
                  · refine wCT hp382 tm (s1 rfl) ?_
                    refine wSkip ?_
                    refine pSeq ?_
                    refine wCT hp382 tm (s1 rfl) ?_
                    obtain ⟨hc383, h⟩ := ib h
                    refine rg (cr (oLdN (n := 1) (k := 0) rfl rfl rfl t148 tm) (s1 rfl) <| cp (oLit (d := kB) el148 (by decide) rfl rfl rfl (e1 cB e0)) trivial <| cw (oApp (n := 0) (id' := 32) el148 (by decide) rfl (by decide) hc383 tm tm) (s2 rfl rfl) <| cwn (oStN (n := 1) (m := 0) (k := 0) rfl rfl rfl rfl z148 rfl tm tm) (s2 rfl rfl) <| .nil) (by kernel_rfl) ?_
                    refine pBlkN ?_
                    refine pSub (Γ' := [(0, .d ((kL (kI .i64)).sig a0)), (4, .p 4 0), (5, .f [4] (sCloN 112 [none])), (8, .d (kB.sig true)), (10, .d ((kL (kI .i64)).sig a0)), (11, .d ((kI .i64).sig (a0.length : Int))), (12, .d ((kI .i64).sig v270))]) ⟨rfl, rfl, rfl, rfl, rfl, rfl, rfl, trivial⟩ ?_
                    refine pRen 32 5200 rfl ?_
                    exact pJ2 _ _ (so h) ⟨rfl, rfl, rfl, rfl, rfl, rfl, rfl, trivial⟩ rfl
                  · refine wCF hp382 tm (s1 rfl) ?_
                    refine wSeq ?_
                    refine rg (cp (oEq rfl tm (cI (by decide))) (s1 rfl) <| cp (oAs tm) (s1 rfl) <| .nil) (by kernel_rfl) ?_
                    refine pSeq ?_
                    rcases ic h with ⟨hp384, h⟩ | ⟨hp384, h⟩
                    · refine wCT hp384 tm (s1 rfl) ?_
                      refine wSkip ?_
                      refine pSeq ?_
                      refine wCT hp384 tm (s1 rfl) ?_
                      obtain ⟨hc385, h⟩ := ib h
                      refine rg (cr (oLdN (n := 1) (k := 0) rfl rfl rfl t148 tm) (s1 rfl) <| cp (oLit (d := kB) el148 (by decide) rfl rfl rfl (e1 cB e0)) trivial <| cw (oApp (n := 0) (id' := 32) el148 (by decide) rfl (by decide) hc385 tm tm) (s2 rfl rfl) <| cwn (oStN (n := 1) (m := 0) (k := 0) rfl rfl rfl rfl z148 rfl tm tm) (s2 rfl rfl) <| .nil) (by kernel_rfl) ?_
                      refine pBlkN ?_
                      refine pSub (Γ' := [(0, .d ((kL (kI .i64)).sig a0)), (4, .p 4 0), (5, .f [4] (sCloN 112 [none])), (8, .d (kB.sig true)), (10, .d ((kL (kI .i64)).sig a0)), (11, .d ((kI .i64).sig (a0.length : Int))), (12, .d ((kI .i64).sig v270))]) ⟨rfl, rfl, rfl, rfl, rfl, rfl, rfl, trivial⟩ ?_
                      refine pRen 32 5200 rfl ?_
                      exact pJ2 _ _ (so h) ⟨rfl, rfl, rfl, rfl, rfl, rfl, rfl, trivial⟩ rfl
                    · refine wCF hp384 tm (s1 rfl) ?_
                      refine wSeq ?_
                      refine rg (cp (oEq rfl tm (cI (by decide))) (s1 rfl) <| cp (oAs tm) (s1 rfl) <| .nil) (by kernel_rfl) ?_
                      refine pSeq ?_
                      rcases ic h with ⟨hp386, h⟩ | ⟨hp386, h⟩
                      · refine wCT hp386 tm (s1 rfl) ?_
                        refine wSkip ?_
                        refine pSeq ?_
                        refine wCT hp386 tm (s1 rfl) ?_
                        obtain ⟨hc387, h⟩ := ib h
                        refine rg (cr (oLdN (n := 1) (k := 0) rfl rfl rfl t148 tm) (s1 rfl) <| cp (oLit (d := kB) el148 (by decide) rfl rfl rfl (e1 cB e0)) trivial <| cw (oApp (n := 0) (id' := 32) el148 (by decide) rfl (by decide) hc387 tm tm) (s2 rfl rfl) <| cwn (oStN (n := 1) (m := 0) (k := 0) rfl rfl rfl rfl z148 rfl tm tm) (s2 rfl rfl) <| .nil) (by kernel_rfl) ?_
                        refine pBlkN ?_
                        refine pSub (Γ' := [(0, .d ((kL (kI .i64)).sig a0)), (4, .p 4 0), (5, .f [4] (sCloN 112 [none])), (8, .d (kB.sig true)), (10, .d ((kL (kI .i64)).sig a0)), (11, .d ((kI .i64).sig (a0.length : Int))), (12, .d ((kI .i64).sig v270))]) ⟨rfl, rfl, rfl, rfl, rfl, rfl, rfl, trivial⟩ ?_
                        refine pRen 32 5200 rfl ?_
                        exact pJ2 _ _ (so h) ⟨rfl, rfl, rfl, rfl, rfl, rfl, rfl, trivial⟩ rfl
                      · refine wCF hp386 tm (s1 rfl) ?_
                        refine rg (cp (oEq rfl tm (cI (by decide))) (s1 rfl) <| cp (oAs tm) (s1 rfl) <| .nil) (by kernel_rfl) ?_
                        refine pSeq ?_
                        rcases ic h with ⟨hp388, h⟩ | ⟨hp388, h⟩
                        · refine wCT hp388 tm (s1 rfl) ?_
                          obtain ⟨hc389, h⟩ := ib h
                          refine rg (cr (oLdN (n := 1) (k := 0) rfl rfl rfl t148 tm) (s1 rfl) <| cp (oLit (d := kB) el148 (by decide) rfl rfl rfl (e1 cB e0)) trivial <| cw (oApp (n := 0) (id' := 32) el148 (by decide) rfl (by decide) hc389 tm tm) (s2 rfl rfl) <| cwn (oStN (n := 1) (m := 0) (k := 0) rfl rfl rfl rfl z148 rfl tm tm) (s2 rfl rfl) <| .nil) (by kernel_rfl) ?_
                          refine pBlkN ?_
                          refine pSub (Γ' := [(0, .d ((kL (kI .i64)).sig a0)), (4, .p 4 0), (5, .f [4] (sCloN 112 [none])), (8, .d (kB.sig true)), (10, .d ((kL (kI .i64)).sig a0)), (11, .d ((kI .i64).sig (a0.length : Int))), (12, .d ((kI .i64).sig v270))]) ⟨rfl, rfl, rfl, rfl, rfl, rfl, rfl, trivial⟩ ?_
                          refine pRen 32 5200 rfl ?_
                          exact pJ2 _ _ (so h) ⟨rfl, rfl, rfl, rfl, rfl, rfl, rfl, trivial⟩ rfl
                        · refine wCF hp388 tm (s1 rfl) ?_
                          refine wSeq ?_
                          refine wSeq ?_
                          refine rg (cp (oEq rfl tm (cI (by decide))) (s1 rfl) <| cp (oAs tm) (s1 rfl) <| .nil) (by kernel_rfl) ?_
                          refine pSeq ?_
                          rcases ic h with ⟨hp390, h⟩ | ⟨hp390, h⟩
                          · refine wCT hp390 tm (s1 rfl) ?_
                            refine wSkip ?_
                            refine pSeq ?_
                            refine wCT hp390 tm (s1 rfl) ?_
                            refine wSeq ?_
                            obtain ⟨y391, hy391, h⟩ := bd h
                            refine rg (cp (oMv tm) (s1 rfl) <| cm (oCallN (ins := [.d (kB.sig false)]) (caps := [none]) (kn := [70100]) (rest := []) (R' := [.row 510040 107 kB y391.1, .box 4 148 [.v 510040]]) (out' := .d (kB.sig y391.2)) [(70100, 4), (70101, 5200)] [(70101, 510040)] [1, 0] [] [1, 0] rfl tm (rule_made_1.ok hy391) rfl b112 (oE1 cB oE0) rfl rfl rfl rfl rfl rfl rfl rfl) (s1 rfl) <| cp (oAs tm) (s1 rfl) <| .nil) (by kernel_rfl) ?_
                            refine pSeq ?_
                            obtain ⟨hc392, h⟩ := ib h
                            refine rg (cr (oLdN (n := 1) (k := 0) rfl rfl rfl t148 tm) (s1 rfl) <| cp (oLit (d := kB) el148 (by decide) rfl rfl rfl (e1 cB e0)) trivial <| cw (oApp (n := 0) (id' := 40) el148 (by decide) rfl (by decide) hc392 tm tm) (s2 rfl rfl) <| cwn (oStN (n := 1) (m := 0) (k := 0) rfl rfl rfl rfl z148 rfl tm tm) (s2 rfl rfl) <| .nil) (by kernel_rfl) ?_
                            refine pBlkN ?_
                            refine pSub (Γ' := [(0, .d ((kL (kI .i64)).sig a0)), (4, .p 4 0), (5, .f [4] (sCloN 112 [none])), (8, .d (kB.sig y391.2)), (10, .d ((kL (kI .i64)).sig a0)), (11, .d ((kI .i64).sig (a0.length : Int))), (12, .d ((kI .i64).sig v270))]) ⟨rfl, rfl, rfl, rfl, rfl, rfl, rfl, trivial⟩ ?_
                            refine pRen 40 5200 rfl ?_
                            exact pJ2 _ _ (so h) ⟨rfl, rfl, rfl, rfl, rfl, rfl, rfl, trivial⟩ rfl
                          · refine wCF hp390 tm (s1 rfl) ?_
                            refine rg (cp (oEq rfl tm (cI (by decide))) (s1 rfl) <| cp (oAs tm) (s1 rfl) <| .nil) (by kernel_rfl) ?_
                            refine pSeq ?_
                            rcases ic h with ⟨hp393, h⟩ | ⟨hp393, h⟩
                            · refine wCT hp393 tm (s1 rfl) ?_
                              refine wSeq ?_
                              obtain ⟨y394, hy394, h⟩ := bd h
                              refine rg (cp (oMv tm) (s1 rfl) <| cm (oCallN (ins := [.d (kB.sig false)]) (caps := [none]) (kn := [70100]) (rest := []) (R' := [.row 510040 107 kB y394.1, .box 4 148 [.v 510040]]) (out' := .d (kB.sig y394.2)) [(70100, 4), (70101, 5200)] [(70101, 510040)] [1, 0] [] [1, 0] rfl tm (rule_made_1.ok hy394) rfl b112 (oE1 cB oE0) rfl rfl rfl rfl rfl rfl rfl rfl) (s1 rfl) <| cp (oAs tm) (s1 rfl) <| .nil) (by kernel_rfl) ?_
                              refine pSeq ?_
                              obtain ⟨hc395, h⟩ := ib h
                              refine rg (cr (oLdN (n := 1) (k := 0) rfl rfl rfl t148 tm) (s1 rfl) <| cp (oLit (d := kB) el148 (by decide) rfl rfl rfl (e1 cB e0)) trivial <| cw (oApp (n := 0) (id' := 40) el148 (by decide) rfl (by decide) hc395 tm tm) (s2 rfl rfl) <| cwn (oStN (n := 1) (m := 0) (k := 0) rfl rfl rfl rfl z148 rfl tm tm) (s2 rfl rfl) <| .nil) (by kernel_rfl) ?_
                              refine pBlkN ?_
                              refine pSub (Γ' := [(0, .d ((kL (kI .i64)).sig a0)), (4, .p 4 0), (5, .f [4] (sCloN 112 [none])), (8, .d (kB.sig y394.2)), (10, .d ((kL (kI .i64)).sig a0)), (11, .d ((kI .i64).sig (a0.length : Int))), (12, .d ((kI .i64).sig v270))]) ⟨rfl, rfl, rfl, rfl, rfl, rfl, rfl, trivial⟩ ?_
                              refine pRen 40 5200 rfl ?_
                              exact pJ2 _ _ (so h) ⟨rfl, rfl, rfl, rfl, rfl, rfl, rfl, trivial⟩ rfl
                            · refine wCF hp393 tm (s1 rfl) ?_
                              refine wSeq ?_
                              refine rg (cp (oEq rfl tm (cI (by decide))) (s1 rfl) <| cp (oAs tm) (s1 rfl) <| .nil) (by kernel_rfl) ?_
                              refine pSeq ?_
                              rcases ic h with ⟨hp396, h⟩ | ⟨hp396, h⟩
                              · refine wCT hp396 tm (s1 rfl) ?_
                                refine wSeq ?_
                                obtain ⟨y397, hy397, h⟩ := bd h
                                refine rg (cp (oMv tm) (s1 rfl) <| cm (oCallN (ins := [.d (kB.sig true)]) (caps := [none]) (kn := [70100]) (rest := []) (R' := [.row 540040 107 kB y397.1, .box 4 148 [.v 540040]]) (out' := .d (kB.sig y397.2)) [(70100, 4), (70101, 5200)] [(70101, 540040)] [1, 0] [] [1, 0] rfl tm (rule_made_1.ok hy397) rfl b112 (oE1 cB oE0) rfl rfl rfl rfl rfl rfl rfl rfl) (s1 rfl) <| cp (oAs tm) (s1 rfl) <| .nil) (by kernel_rfl) ?_
                                refine pSeq ?_
                                obtain ⟨hc398, h⟩ := ib h
                                refine rg (cr (oLdN (n := 1) (k := 0) rfl rfl rfl t148 tm) (s1 rfl) <| cp (oLit (d := kB) el148 (by decide) rfl rfl rfl (e1 cB e0)) trivial <| cw (oApp (n := 0) (id' := 47) el148 (by decide) rfl (by decide) hc398 tm tm) (s2 rfl rfl) <| cwn (oStN (n := 1) (m := 0) (k := 0) rfl rfl rfl rfl z148 rfl tm tm) (s2 rfl rfl) <| .nil) (by kernel_rfl) ?_
                                refine pBlkN ?_
                                refine pSub (Γ' := [(0, .d ((kL (kI .i64)).sig a0)), (4, .p 4 0), (5, .f [4] (sCloN 112 [none])), (8, .d (kB.sig y397.2)), (10, .d ((kL (kI .i64)).sig a0)), (11, .d ((kI .i64).sig (a0.length : Int))), (12, .d ((kI .i64).sig v270))]) ⟨rfl, rfl, rfl, rfl, rfl, rfl, rfl, trivial⟩ ?_
                                refine pRen 47 5200 rfl ?_
                                exact pJ2 _ _ (so h) ⟨rfl, rfl, rfl, rfl, rfl, rfl, rfl, trivial⟩ rfl
                              · refine wCF hp396 tm (s1 rfl) ?_
                                refine wSeq ?_
                                refine wSeq ?_
                                refine rg (cp (oEq rfl tm (cI (by decide))) (s1 rfl) <| cp (oAs tm) (s1 rfl) <| .nil) (by kernel_rfl) ?_
                                refine pSeq ?_
                                rcases ic h with ⟨hp399, h⟩ | ⟨hp399, h⟩
                                · refine wCT hp399 tm (s1 rfl) ?_
                                  refine wSkip ?_
                                  refine pSeq ?_
                                  refine wCT hp399 tm (s1 rfl) ?_
                                  refine wSeq ?_
                                  obtain ⟨y400, hy400, h⟩ := bd h
                                  refine rg (cp (oMv tm) (s1 rfl) <| cm (oCallN (ins := [.d (kB.sig true)]) (caps := [none]) (kn := [70100]) (rest := []) (R' := [.row 580040 107 kB y400.1, .box 4 148 [.v 580040]]) (out' := .d (kB.sig y400.2)) [(70100, 4), (70101, 5200)] [(70101, 580040)] [1, 0] [] [1, 0] rfl tm (rule_made_1.ok hy400) rfl b112 (oE1 cB oE0) rfl rfl rfl rfl rfl rfl rfl rfl) (s1 rfl) <| cp (oAs tm) (s1 rfl) <| .nil) (by kernel_rfl) ?_
                                  refine pSeq ?_
                                  obtain ⟨hc401, h⟩ := ib h
                                  refine rg (cr (oLdN (n := 1) (k := 0) rfl rfl rfl t148 tm) (s1 rfl) <| cp (oLit (d := kB) el148 (by decide) rfl rfl rfl (e1 cB e0)) trivial <| cw (oApp (n := 0) (id' := 55) el148 (by decide) rfl (by decide) hc401 tm tm) (s2 rfl rfl) <| cwn (oStN (n := 1) (m := 0) (k := 0) rfl rfl rfl rfl z148 rfl tm tm) (s2 rfl rfl) <| .nil) (by kernel_rfl) ?_
                                  refine pBlkN ?_
                                  refine pSub (Γ' := [(0, .d ((kL (kI .i64)).sig a0)), (4, .p 4 0), (5, .f [4] (sCloN 112 [none])), (8, .d (kB.sig y400.2)), (10, .d ((kL (kI .i64)).sig a0)), (11, .d ((kI .i64).sig (a0.length : Int))), (12, .d ((kI .i64).sig v270))]) ⟨rfl, rfl, rfl, rfl, rfl, rfl, rfl, trivial⟩ ?_
                                  refine pRen 55 5200 rfl ?_
                                  exact pJ2 _ _ (so h) ⟨rfl, rfl, rfl, rfl, rfl, rfl, rfl, trivial⟩ rfl
                                · refine wCF hp399 tm (s1 rfl) ?_
                                  refine rg (cp (oEq rfl tm (cI (by decide))) (s1 rfl) <| cp (oAs tm) (s1 rfl) <| .nil) (by kernel_rfl) ?_
                                  refine pSeq ?_
                                  rcases ic h with ⟨hp402, h⟩ | ⟨hp402, h⟩
                                  · refine wCT hp402 tm (s1 rfl) ?_
                                    refine wSeq ?_
                                    obtain ⟨y403, hy403, h⟩ := bd h
                                    refine rg (cp (oMv tm) (s1 rfl) <| cm (oCallN (ins := [.d (kB.sig true)]) (caps := [none]) (kn := [70100]) (rest := []) (R' := [.row 580040 107 kB y403.1, .box 4 148 [.v 580040]]) (out' := .d (kB.sig y403.2)) [(70100, 4), (70101, 5200)] [(70101, 580040)] [1, 0] [] [1, 0] rfl tm (rule_made_1.ok hy403) rfl b112 (oE1 cB oE0) rfl rfl rfl rfl rfl rfl rfl rfl) (s1 rfl) <| cp (oAs tm) (s1 rfl) <| .nil) (by kernel_rfl) ?_
                                    refine pSeq ?_
                                    obtain ⟨hc404, h⟩ := ib h
                                    refine rg (cr (oLdN (n := 1) (k := 0) rfl rfl rfl t148 tm) (s1 rfl) <| cp (oLit (d := kB) el148 (by decide) rfl rfl rfl (e1 cB e0)) trivial <| cw (oApp (n := 0) (id' := 55) el148 (by decide) rfl (by decide) hc404 tm tm) (s2 rfl rfl) <| cwn (oStN (n := 1) (m := 0) (k := 0) rfl rfl rfl rfl z148 rfl tm tm) (s2 rfl rfl) <| .nil) (by kernel_rfl) ?_
                                    refine pBlkN ?_
                                    refine pSub (Γ' := [(0, .d ((kL (kI .i64)).sig a0)), (4, .p 4 0), (5, .f [4] (sCloN 112 [none])), (8, .d (kB.sig y403.2)), (10, .d ((kL (kI .i64)).sig a0)), (11, .d ((kI .i64).sig (a0.length : Int))), (12, .d ((kI .i64).sig v270))]) ⟨rfl, rfl, rfl, rfl, rfl, rfl, rfl, trivial⟩ ?_
                                    refine pRen 55 5200 rfl ?_
                                    exact pJ2 _ _ (so h) ⟨rfl, rfl, rfl, rfl, rfl, rfl, rfl, trivial⟩ rfl
                                  · refine wCF hp402 tm (s1 rfl) ?_
                                    refine rg (cp (oAs cB) trivial <| .nil) (by kernel_rfl) ?_
                                    refine pBlkN ?_
                                    exact pJ2 _ _ (so h) ⟨rfl, rfl, rfl, rfl, rfl, rfl, rfl, trivial⟩ rfl
        · rintro x372 x373 rfl
          replace h := hk3
          refine pSeq ?_
          refine wSeq ?_
          refine rg (cp (oMv tm) (s1 rfl) <| cp (oNot tm) (s1 rfl) <| .nil) (by kernel_rfl) ?_
          refine pSeq ?_
          rcases ic h with ⟨hp405, h⟩ | ⟨hp405, h⟩
          · refine wBT hp405 tm (s1 rfl) ?_
            refine wSeq ?_
            refine rg (cp (oAs cB) trivial <| cp (oAs cB) trivial <| .nil) (by kernel_rfl) ?_
            refine pSeq ?_
            refine wRet ?_
            refine pBlkR ?_
            refine pThenR ?_
            obtain rfl := so h
            replace h := hk2
            refine pThenR ?_
            refine pBlkR ?_
            refine pThenR ?_
            obtain rfl := so h
            replace h := hk1
            refine pThenR ?_
            obtain rfl := so h
            exact pRn (.inl rfl) rfl rfl (.tmp rfl <| .tmp rfl <| .nil)
          · refine wBF hp405 tm (s1 rfl) ?_
            refine wSkip ?_
            refine pBlkN ?_
            exact pJ1 _ (so h) ⟨rfl, rfl, rfl, rfl, rfl, rfl, trivial⟩ rfl
      · rintro x339 rfl
        replace h := hk2
        refine rg (cp (oAdd tm (cI (by decide))) (s1 rfl) <| cp (oMv tm) (s1 rfl) <| .nil) (by kernel_rfl) ?_
        exact pLoop (lW (ih _ _ h) ⟨rfl, rfl, rfl, rfl, rfl, rfl, trivial⟩ rfl)
    · refine wCF hp272 tm (s1 rfl) ?_
      refine wExit ?_
      refine pThenX ?_
      refine pThenX ?_
      refine pBlkX ?_
      exact pJ1 _ (so h) ⟨rfl, rfl, trivial⟩ rfl
  · rintro x271 rfl
    replace h := hk1
    refine pSeq ?_
    refine wSeq ?_
    obtain ⟨o1, h, hk1⟩ := bd h
    refine wJ1 (fun x407 => x407 = o1) (fun x407 => [(4, .p 4 0), (66, .d (kB.sig x407))]) (fun x407 => [.row 5200 107 kB x271, .box 4 148 [.v 5200]]) ?_ ?_
    · rcases ic h with ⟨hp408, h⟩ | ⟨hp408, h⟩
      · refine rg (cr (oLdN (n := 1) (k := 0) rfl rfl rfl t148 tm) (s1 rfl) <| cr (oLenR (n := 0) u148 rfl tm) (s1 rfl) <| cp (oNe rfl tm (cI (by decide))) (s1 rfl) <| cp (oMv tm) (s1 rfl) <| cgB (nf hp408) rfl rfl (oMv tm) (s1 rfl) <| cgB (nf hp408) rfl rfl (oLenL u22 tm) (s1 rfl) <| cgB (nf hp408) rfl rfl (oGt rfl tm (cI (by decide))) (s1 rfl) <| cp (oPkF (nf hp408) tm tm) (s2 rfl rfl) <| .nil) (by kernel_rfl) ?_
        exact pJ1 _ (so h) ⟨rfl, rfl, trivial⟩ rfl
      · refine rg (cr (oLdN (n := 1) (k := 0) rfl rfl rfl t148 tm) (s1 rfl) <| cr (oLenR (n := 0) u148 rfl tm) (s1 rfl) <| cp (oNe rfl tm (cI (by decide))) (s1 rfl) <| cp (oMv tm) (s1 rfl) <| csB (nt hp408) rfl rfl <| csB (nt hp408) rfl rfl <| csB (nt hp408) rfl rfl <| cp (oPkT (nt hp408) tm cB) (s1 rfl) <| .nil) (by kernel_rfl) ?_
        exact pJ1 _ (so h) ⟨rfl, rfl, trivial⟩ rfl
    · rintro x407 rfl
      replace h := hk1
      rcases ic h with ⟨hp409, h⟩ | ⟨hp409, h⟩
      · refine wBT hp409 tm (s1 rfl) ?_
        refine wSeq ?_
        refine rg (cp (oAs cB) trivial <| cp (oAs cB) trivial <| .nil) (by kernel_rfl) ?_
        refine pSeq ?_
        refine wRet ?_
        refine pThenR ?_
        obtain rfl := so h
        exact pRn (.inl rfl) rfl rfl (.tmp rfl <| .tmp rfl <| .nil)
      · refine wBF hp409 tm (s1 rfl) ?_
        refine wSkip ?_
        refine pSeq ?_
        refine wSeq ?_
        obtain ⟨y410, hy410, h⟩ := bd h
        refine rg (cr (oLdN (n := 1) (k := 0) rfl rfl rfl t148 tm) (s1 rfl) <| cr (oIdxR (n := 0) u148 z107 rfl hy410 tm (cI (by decide))) (s1 rfl) <| cr (oLdE (n := 0) rfl hy410 rfl t107 tm) (s1 rfl) <| cp (oAs tm) (s1 rfl) <| cp (oAs cB) trivial <| .nil) (by kernel_rfl) ?_
        refine pSeq ?_
        refine wRet ?_
        obtain rfl := so h
        exact pRn (.inl rfl) rfl rfl (.tmp rfl <| .tmp rfl <| .nil)

theorem rule_Right.ok {a0 : List Int} {a1 : Bool} {r : Bool} (h : rule_Right.f a0 a1 = some r) : FnA Try.prog 47 [(kL (kI .i64)).sig a0, kB.sig a1] (kB.sig r) := by
  refine fnIntro Try.func47 rfl (by kernel_rfl) fun H0 w0 => ?_
  unfold rule_Right.f at h
  refine wSeq ?_
  refine rg (cp (oAs cB) trivial <| .nil) (by kernel_rfl) ?_
  refine pSeq ?_
  refine wSeq ?_
  obtain ⟨y1, hy1, h⟩ := bd h
  refine rg (cp (oMv tm) (s1 rfl) <| cp (oCall rfl (rule_made.ok hy1) b85 (opds_cons tm opds_nil)) (s1 rfl) <| cp (oMv tm) (s1 rfl) <| cp (oExt (k := 0) rfl tm) (s1 rfl) <| cp (oExt (k := 1) rfl tm) (s1 rfl) <| cp (oAs tm) (s1 rfl) <| cp (oAs tm) (s1 rfl) <| .nil) (by kernel_rfl) ?_
  refine pSeq ?_
  obtain ⟨o1, h, hk1⟩ := bd h
  refine wJ1 (fun x3 => x3 = o1) (fun x3 => [(4, .d (kB.sig x3))]) (fun x3 => []) ?_ ?_
  · rcases ic h with ⟨hp4, h⟩ | ⟨hp4, h⟩
    · refine rg (cp (oMv tm) (s1 rfl) <| cp (oMv tm) (s1 rfl) <| cgB hp4 rfl rfl (oMv tm) (s1 rfl) <| cgB hp4 rfl rfl (oMv tm) (s1 rfl) <| cgB hp4 rfl rfl (oBEq u4 rfl tm tm) (s2 rfl rfl) <| cp (oPkT hp4 tm tm) (s2 rfl rfl) <| cp (oAs tm) (s1 rfl) <| .nil) (by kernel_rfl) ?_
      exact pJ1 _ (so h) ⟨rfl, trivial⟩ rfl
    · refine rg (cp (oMv tm) (s1 rfl) <| cp (oMv tm) (s1 rfl) <| csB (nb hp4) rfl rfl <| csB (nb hp4) rfl rfl <| csB (nb hp4) rfl rfl <| cp (oPkF (nb hp4) tm cB) (s1 rfl) <| cp (oAs tm) (s1 rfl) <| .nil) (by kernel_rfl) ?_
      exact pJ1 _ (so h) ⟨rfl, trivial⟩ rfl
  · rintro x3 rfl
    replace h := hk1
    refine wRet ?_
    obtain rfl := so h
    exact pR1 (.inl rfl) rfl (.tmp rfl <| .nil)

theorem show_word.ok {a0 : Int} {r : Str × Int × Bool} (h : show_word.f a0 = some r) : FnA Try.prog 59 [(kI .i64).sig a0] (tup [kS.sig r.1, (kI .i64).sig r.2.1, kB.sig r.2.2]) := by
  refine fnIntro Try.func59 rfl (by kernel_rfl) fun H0 w0 => ?_
  unfold show_word.f at h
  refine wSeq ?_
  refine rg (cp (oAs (cS (by decide))) trivial <| cp (oAs (cI (by decide))) trivial <| cp (oAs cB) trivial <| .nil) (by kernel_rfl) ?_
  refine pSeq ?_
  refine wSeq ?_
  refine wSeq ?_
  refine rg (cp (oMv tm) (s1 rfl) <| .nil) (by kernel_rfl) ?_
  refine pSeq ?_
  refine wBlock ?_
  refine wSeq ?_
  refine rg (cp (oEq rfl tm (cI (by decide))) (s1 rfl) <| cp (oAs tm) (s1 rfl) <| .nil) (by kernel_rfl) ?_
  refine pSeq ?_
  rcases ic h with ⟨hp1, h⟩ | ⟨hp1, h⟩
  · refine wCT hp1 tm (s1 rfl) ?_
    refine wSeq ?_
    refine rg (cp (oAs (cS (by decide))) trivial <| cp (oAs (cI (by decide))) trivial <| cp (oAs cB) trivial <| .nil) (by kernel_rfl) ?_
    refine pSeq ?_
    refine wRet ?_
    refine pBlkR ?_
    refine pThenR ?_
    obtain rfl := so h
    exact pRn (.inl rfl) rfl rfl (.tmp rfl <| .tmp rfl <| .tmp rfl <| .nil)
  · refine wCF hp1 tm (s1 rfl) ?_
    refine wSeq ?_
    refine rg (cp (oEq rfl tm (cI (by decide))) (s1 rfl) <| cp (oAs tm) (s1 rfl) <| .nil) (by kernel_rfl) ?_
    refine pSeq ?_
    rcases ic h with ⟨hp2, h⟩ | ⟨hp2, h⟩
    · refine wCT hp2 tm (s1 rfl) ?_
      refine wSeq ?_
      refine rg (cp (oAs (cS (by decide))) trivial <| cp (oAs (cI (by decide))) trivial <| cp (oAs cB) trivial <| .nil) (by kernel_rfl) ?_
      refine pSeq ?_
      refine wRet ?_
      refine pBlkR ?_
      refine pThenR ?_
      obtain rfl := so h
      exact pRn (.inl rfl) rfl rfl (.tmp rfl <| .tmp rfl <| .tmp rfl <| .nil)
    · refine wCF hp2 tm (s1 rfl) ?_
      refine wSeq ?_
      refine rg (cp (oEq rfl tm (cI (by decide))) (s1 rfl) <| cp (oAs tm) (s1 rfl) <| .nil) (by kernel_rfl) ?_
      refine pSeq ?_
      rcases ic h with ⟨hp3, h⟩ | ⟨hp3, h⟩
      · refine wCT hp3 tm (s1 rfl) ?_
        refine wSeq ?_
        refine rg (cp (oAs (cS (by decide))) trivial <| cp (oAs (cI (by decide))) trivial <| cp (oAs cB) trivial <| .nil) (by kernel_rfl) ?_
        refine pSeq ?_
        refine wRet ?_
        refine pBlkR ?_
        refine pThenR ?_
        obtain rfl := so h
        exact pRn (.inl rfl) rfl rfl (.tmp rfl <| .tmp rfl <| .tmp rfl <| .nil)
      · refine wCF hp3 tm (s1 rfl) ?_
        refine wSeq ?_
        refine rg (cp (oEq rfl tm (cI (by decide))) (s1 rfl) <| cp (oAs tm) (s1 rfl) <| .nil) (by kernel_rfl) ?_
        refine pSeq ?_
        rcases ic h with ⟨hp4, h⟩ | ⟨hp4, h⟩
        · refine wCT hp4 tm (s1 rfl) ?_
          refine wSeq ?_
          refine rg (cp (oAs (cS (by decide))) trivial <| cp (oAs (cI (by decide))) trivial <| cp (oAs cB) trivial <| .nil) (by kernel_rfl) ?_
          refine pSeq ?_
          refine wRet ?_
          refine pBlkR ?_
          refine pThenR ?_
          obtain rfl := so h
          exact pRn (.inl rfl) rfl rfl (.tmp rfl <| .tmp rfl <| .tmp rfl <| .nil)
        · refine wCF hp4 tm (s1 rfl) ?_
          refine wSeq ?_
          refine rg (cp (oEq rfl tm (cI (by decide))) (s1 rfl) <| cp (oAs tm) (s1 rfl) <| .nil) (by kernel_rfl) ?_
          refine pSeq ?_
          rcases ic h with ⟨hp5, h⟩ | ⟨hp5, h⟩
          · refine wCT hp5 tm (s1 rfl) ?_
            refine wSeq ?_
            refine rg (cp (oAs (cS (by decide))) trivial <| cp (oAs (cI (by decide))) trivial <| cp (oAs cB) trivial <| .nil) (by kernel_rfl) ?_
            refine pSeq ?_
            refine wRet ?_
            refine pBlkR ?_
            refine pThenR ?_
            obtain rfl := so h
            exact pRn (.inl rfl) rfl rfl (.tmp rfl <| .tmp rfl <| .tmp rfl <| .nil)
          · refine wCF hp5 tm (s1 rfl) ?_
            refine wSeq ?_
            refine rg (cp (oEq rfl tm (cI (by decide))) (s1 rfl) <| cp (oAs tm) (s1 rfl) <| .nil) (by kernel_rfl) ?_
            refine pSeq ?_
            rcases ic h with ⟨hp6, h⟩ | ⟨hp6, h⟩
            · refine wCT hp6 tm (s1 rfl) ?_
              refine wSeq ?_
              refine rg (cp (oAs (cS (by decide))) trivial <| cp (oAs (cI (by decide))) trivial <| cp (oAs cB) trivial <| .nil) (by kernel_rfl) ?_
              refine pSeq ?_
              refine wRet ?_
              refine pBlkR ?_
              refine pThenR ?_
              obtain rfl := so h
              exact pRn (.inl rfl) rfl rfl (.tmp rfl <| .tmp rfl <| .tmp rfl <| .nil)
            · refine wCF hp6 tm (s1 rfl) ?_
              refine wSeq ?_
              refine rg (cp (oEq rfl tm (cI (by decide))) (s1 rfl) <| cp (oAs tm) (s1 rfl) <| .nil) (by kernel_rfl) ?_
              refine pSeq ?_
              rcases ic h with ⟨hp7, h⟩ | ⟨hp7, h⟩
              · refine wCT hp7 tm (s1 rfl) ?_
                refine wSeq ?_
                refine rg (cp (oAs (cS (by decide))) trivial <| cp (oAs (cI (by decide))) trivial <| cp (oAs cB) trivial <| .nil) (by kernel_rfl) ?_
                refine pSeq ?_
                refine wRet ?_
                refine pBlkR ?_
                refine pThenR ?_
                obtain rfl := so h
                exact pRn (.inl rfl) rfl rfl (.tmp rfl <| .tmp rfl <| .tmp rfl <| .nil)
              · refine wCF hp7 tm (s1 rfl) ?_
                refine wSkip ?_
                refine pBlkN ?_
                refine pSeq ?_
                refine wSeq ?_
                obtain ⟨y8, hy8, h⟩ := bd h
                refine rg (cp (oLit (d := kS) el39 (by decide) rfl rfl rfl (e1 (cS (by decide)) (e1 (cS (by decide)) (e1 (cS (by decide)) (e1 (cS (by decide)) (e1 (cS (by decide)) (e1 (cS (by decide)) e0))))))) trivial <| cp (oMv tm) (s1 rfl) <| cp (oSub tm (cI (by decide))) (s1 rfl) <| cp (oIdx u39 z9 hy8 tm tm) (s2 rfl rfl) <| cp (oLd t9 tm) (s1 rfl) <| cp (oAs tm) (s1 rfl) <| cp (oAs (cI (by decide))) trivial <| cp (oAs cB) trivial <| .nil) (by kernel_rfl) ?_
                refine pSeq ?_
                refine wRet ?_
                obtain rfl := so h
                exact pRn (.inl rfl) rfl rfl (.tmp rfl <| .tmp rfl <| .tmp rfl <| .nil)

theorem show_pile_show_piece_put.ok {a0 : show_piece_81} {a1 : show_piece} {r : show_piece_81} (h : show_pile_show_piece_put.f a0 a1 = some r) : FnS Try.prog 60 [.p 70000 0, .d ((kR f_show_piece).sig a1)] [.box 70000 81 [.v 70001], .row 70001 86 (kR f_show_piece) a0.l_] [70000] (.d (tup [])) [.box 70000 81 [.v 70001], .row 70001 86 (kR f_show_piece) r.l_] := by
  refine fnIntroS Try.func60 rfl (by kernel_rfl) fun X H0 w0 pv => ?_
  unfold show_pile_show_piece_put.f at h
  refine wSeq ?_
  refine rg (cp (oBox tm) (s1 rfl) <| .nil) (by kernel_rfl) ?_
  refine pSeq ?_
  obtain ⟨hc1, h⟩ := ib h
  refine rgD hm (cp (oMv tm) (s1 rfl) <| cp (oMv tm) (s1 rfl) <| cp (oNilP tm) (s1 rfl) <| cp (oFldP o81_0 tm) (s1 rfl) <| cr (oLdN (n := 0) (k := 0) rfl rfl rfl t79 tm) (s1 rfl) <| cp (oLd t86 tm) (s1 rfl) <| cp (oLit (d := (kR f_show_piece)) el79 (by decide) rfl rfl rfl (e1 tm e0)) (s1 rfl) <| cw (oApp (n := 1) (id' := 11) el79 (by decide) rfl (by decide) hc1 tm tm) (s2 rfl rfl) <| cp (oNilP tm) (s1 rfl) <| cp (oFldP o81_0 tm) (s1 rfl) <| cwn (oStN (n := 0) (m := 1) (k := 0) rfl rfl rfl rfl z79 rfl tm tm) (s2 rfl rfl) <| .nil) (by kernel_rfl) (by kernel_rfl) ?_
  obtain rfl := so h
  refine pSub (Γ' := []) trivial ?_
  refine pRen 11 70001 rfl ?_
  exact pSn [0, 1] rfl rfl (.inr rfl) rfl rfl (.nil)

theorem show_pile_show_piece_take.ok {a0 : show_piece_81} {r : show_piece_81 × show_piece} (h : show_pile_show_piece_take.f a0 = some r) : FnS Try.prog 61 [.p 70000 0] [.box 70000 81 [.v 70001], .row 70001 86 (kR f_show_piece) a0.l_] [70000] (.d ((kR f_show_piece).sig r.2)) [.box 70000 81 [.v 70001], .row 70001 86 (kR f_show_piece) r.1.l_] := by
  refine fnIntroS Try.func61 rfl (by kernel_rfl) fun X H0 w0 pv => ?_
  unfold show_pile_show_piece_take.f at h
  refine wSeq ?_
  refine rg (cw (oAlloc (id := 2) (ls := [.d kS [], .d (kI .i64) 0, .d (kI .i64) 0]) ze86 (fun g => ⟨[(.string ⟨⟨[]⟩⟩)], _, rfl, zS g.H, ⟨[(.int .i64 0)], _, rfl, zI_i64 g.H, ⟨[(.int .i64 0)], _, rfl, zI_i64 g.H, rfl⟩⟩⟩)) trivial <| .nil) (by kernel_rfl) ?_
  refine pSeq ?_
  refine wSeq ?_
  refine rg (cp (oMv tm) (s1 rfl) <| cp (oNilP tm) (s1 rfl) <| cp (oFldP o81_0 tm) (s1 rfl) <| cr (oLdN (n := 1) (k := 0) rfl rfl rfl t79 tm) (s1 rfl) <| cr (oLenR (n := 2) u79 rfl tm) (s1 rfl) <| cp (oSub tm (cI (by decide))) (s1 rfl) <| cp (oAs tm) (s1 rfl) <| .nil) (by kernel_rfl) ?_
  refine pSeq ?_
  refine wSeq ?_
  obtain ⟨y1, hy1, h⟩ := bd h
  refine rg (cp (oMv tm) (s1 rfl) <| cp (oNilP tm) (s1 rfl) <| cp (oFldP o81_0 tm) (s1 rfl) <| cr (oLdN (n := 1) (k := 0) rfl rfl rfl t79 tm) (s1 rfl) <| cp (oMv tm) (s1 rfl) <| cr (oIdxR (n := 2) u79 z86 rfl hy1 tm tm) (s2 rfl rfl) <| cr (oLdE (n := 2) rfl hy1 rfl t86 tm) (s1 rfl) <| cw (oAlloc (id := 4) (ls := [.d kS [], .d (kI .i64) 0, .d (kI .i64) 0]) ze86 (fun g => ⟨[(.string ⟨⟨[]⟩⟩)], _, rfl, zS g.H, ⟨[(.int .i64 0)], _, rfl, zI_i64 g.H, ⟨[(.int .i64 0)], _, rfl, zI_i64 g.H, rfl⟩⟩⟩)) trivial <| cwn (oStA (n := 0) (fs := f_show_piece) rfl rfl z86 tm tm) (s2 rfl rfl) <| .nil) (by kernel_rfl) ?_
  refine pSeq ?_
  refine wSeq ?_
  obtain ⟨hc2, h⟩ := ib h
  refine rg (cp (oMv tm) (s1 rfl) <| cp (oMv tm) (s1 rfl) <| cp (oNilP tm) (s1 rfl) <| cp (oFldP o81_0 tm) (s1 rfl) <| cr (oLdN (n := 2) (k := 0) rfl rfl rfl t79 tm) (s1 rfl) <| cp (oMv tm) (s1 rfl) <| cw (oCutR (n := 3) (id' := 24) u79 z86 rfl hc2.1 hc2.2 tm tm) (s2 rfl rfl) <| cp (oNilP tm) (s1 rfl) <| cp (oFldP o81_0 tm) (s1 rfl) <| cwn (oStN (n := 2) (m := 3) (k := 0) rfl rfl rfl rfl z79 rfl tm tm) (s2 rfl rfl) <| .nil) (by kernel_rfl) ?_
  refine pSeq ?_
  refine wSeq ?_
  refine rg (cr (oLdA (n := 0) (fs := f_show_piece) (u := ⟨y1.text_, y1.binds_, y1.deep_⟩) rfl ⟨rfl, rfl, rfl, trivial⟩ t86 tm) (s1 rfl) <| cwn (oStA (n := 1) (fs := f_show_piece) rfl rfl z86 tm tm) (s2 rfl rfl) <| .nil) (by kernel_rfl) ?_
  refine pSeq ?_
  refine wRet ?_
  obtain rfl := so h
  refine pSub (Γ' := [(2, .p 2 0)]) ⟨rfl, trivial⟩ ?_
  refine pRen 24 70001 rfl ?_
  exact pS1 [2, 3] rfl rfl (.inl rfl) rfl (.box (n := 1) (fs := f_show_piece) (u := ⟨(⟨y1.text_, y1.binds_, y1.deep_⟩ : show_piece).text_, (⟨y1.text_, y1.binds_, y1.deep_⟩ : show_piece).binds_, (⟨y1.text_, y1.binds_, y1.deep_⟩ : show_piece).deep_⟩) rfl rfl ⟨rfl, rfl, rfl, trivial⟩ t86 <| .nil)

theorem show_within.ok {a0 : show_piece} {a1 : Int} {a2 : Str} {a3 : Str} {r : show_piece} (h : show_within.f a0 a1 a2 a3 = some r) : FnA Try.prog 62 [(kR f_show_piece).sig a0, (kI .i64).sig a1, kS.sig a2, kS.sig a3] ((kR f_show_piece).sig r) := by
  refine fnIntro Try.func62 rfl (by kernel_rfl) fun H0 w0 => ?_
  unfold show_within.f at h
  refine wSeq ?_
  refine rg (cp (oBox tm) (s1 rfl) <| cw (oAlloc (id := 8) (ls := [.d kS [], .d (kI .i64) 0, .d (kI .i64) 0]) ze86 (fun g => ⟨[(.string ⟨⟨[]⟩⟩)], _, rfl, zS g.H, ⟨[(.int .i64 0)], _, rfl, zI_i64 g.H, ⟨[(.int .i64 0)], _, rfl, zI_i64 g.H, rfl⟩⟩⟩)) trivial <| .nil) (by kernel_rfl) ?_
  refine pSeq ?_
  refine wSeq ?_
  refine wSeq ?_
  refine rg (cp (oFld (fs := f_show_piece) (k := 1) rfl o86_1 tm) (s1 rfl) <| cp (oLd t3 tm) (s1 rfl) <| cp (oMv tm) (s1 rfl) <| cp (oGe rfl tm tm) (s2 rfl rfl) <| .nil) (by kernel_rfl) ?_
  refine pSeq ?_
  rcases ic h with ⟨hp1, h⟩ | ⟨hp1, h⟩
  · refine wCT hp1 tm (s1 rfl) ?_
    refine wSeq ?_
    refine rg (cp (oLd t86 tm) (s1 rfl) <| cwn (oStA (n := 0) (fs := f_show_piece) rfl rfl z86 tm tm) (s2 rfl rfl) <| .nil) (by kernel_rfl) ?_
    refine pSeq ?_
    refine wRet ?_
    refine pThenR ?_
    obtain rfl := so h
    exact pR1 (.inl rfl) rfl (.box (n := 0) (fs := f_show_piece) (u := ⟨a0.text_, a0.binds_, a0.deep_⟩) rfl rfl ⟨rfl, rfl, rfl, trivial⟩ t86 <| .nil)
  · refine wCF hp1 tm (s1 rfl) ?_
    refine wSkip ?_
    refine pSeq ?_
    refine wSeq ?_
    obtain ⟨hc2, h⟩ := ib h
    obtain ⟨hc3, h⟩ := ib h
    refine rg (cp (oMv tm) (s1 rfl) <| cp (oFld (fs := f_show_piece) (k := 0) rfl o86_0 tm) (s1 rfl) <| cp (oLd t9 tm) (s1 rfl) <| cp (oSAdd hc2 tm tm) (s2 rfl rfl) <| cp (oMv tm) (s1 rfl) <| cp (oSAdd hc3 tm tm) (s2 rfl rfl) <| cp (oFld (fs := f_show_piece) (k := 2) rfl o86_2 tm) (s1 rfl) <| cp (oLd t3 tm) (s1 rfl) <| cp (oAdd tm (cI (by decide))) (s1 rfl) <| cp (oBuild (fs := f_show_piece) (u := ⟨(a2 ++ a0.text_) ++ a3, 3, IntKind.i64.wrap (a0.deep_ + 1)⟩) rfl ze86 pl86 po86 (.op (zc := [(.string ⟨⟨[]⟩⟩)]) tm rfl (.op (zc := [(.int .i64 0)]) (cI (by decide)) rfl (.op (zc := [(.int .i64 0)]) tm rfl .nil)))) (s2 rfl rfl) <| cwn (oStA (n := 0) (fs := f_show_piece) rfl rfl z86 tm tm) (s2 rfl rfl) <| .nil) (by kernel_rfl) ?_
    refine pSeq ?_
    refine wRet ?_
    obtain rfl := so h
    exact pR1 (.inl rfl) rfl (.box (n := 0) (fs := f_show_piece) (u := ⟨(⟨(a2 ++ a0.text_) ++ a3, 3, IntKind.i64.wrap (a0.deep_ + 1)⟩ : show_piece).text_, (⟨(a2 ++ a0.text_) ++ a3, 3, IntKind.i64.wrap (a0.deep_ + 1)⟩ : show_piece).binds_, (⟨(a2 ++ a0.text_) ++ a3, 3, IntKind.i64.wrap (a0.deep_ + 1)⟩ : show_piece).deep_⟩) rfl rfl ⟨rfl, rfl, rfl, trivial⟩ t86 <| .nil)

theorem show_Text.ok {a0 : List Int} {r : Str × Int} (h : show_Text.f a0 = some r) : FnA Try.prog 14 [(kL (kI .i64)).sig a0] (tup [kS.sig r.1, (kI .i64).sig r.2]) := by
  refine fnIntro Try.func14 rfl (by kernel_rfl) fun H0 w0 => ?_
  unfold show_Text.f at h
  refine wSeq ?_
  refine rg (cp (oAs (cS (by decide))) trivial <| cp (oAs (cI (by decide))) trivial <| .nil) (by kernel_rfl) ?_
  refine pSeq ?_
  refine wSeq ?_
  obtain ⟨o1, h, hk1⟩ := bd h
  refine wJ1 (fun x4 => x4 = o1) (fun x4 => [(0, .d ((kL (kI .i64)).sig a0)), (22, .d (kB.sig x4))]) (fun x4 => []) ?_ ?_
  · obtain ⟨y5, hy5, h⟩ := bd h
    rcases ic h with ⟨hp6, h⟩ | ⟨hp6, h⟩
    · obtain ⟨y7, hy7, h⟩ := bd h
      refine rg (cp (oMv tm) (s1 rfl) <| cp (oCall rfl (rule_Right.ok hy5) b47 (opds_cons tm (opds_cons cB opds_nil))) (s1 rfl) <| cp (oNot tm) (s1 rfl) <| cp (oMv tm) (s1 rfl) <| cgB hp6 rfl rfl (oMv tm) (s1 rfl) <| cgB hp6 rfl rfl (oCall rfl (rule_Right.ok hy7) b47 (opds_cons tm (opds_cons cB opds_nil))) (s1 rfl) <| cgB hp6 rfl rfl (oNot tm) (s1 rfl) <| cp (oPkT hp6 tm tm) (s2 rfl rfl) <| .nil) (by kernel_rfl) ?_
      exact pJ1 _ (so h) ⟨rfl, rfl, trivial⟩ rfl
    · refine rg (cp (oMv tm) (s1 rfl) <| cp (oCall rfl (rule_Right.ok hy5) b47 (opds_cons tm (opds_cons cB opds_nil))) (s1 rfl) <| cp (oNot tm) (s1 rfl) <| cp (oMv tm) (s1 rfl) <| csB (nb hp6) rfl rfl <| csB (nb hp6) rfl rfl <| csB (nb hp6) rfl rfl <| cp (oPkF (nb hp6) tm cB) (s1 rfl) <| .nil) (by kernel_rfl) ?_
      exact pJ1 _ (so h) ⟨rfl, rfl, trivial⟩ rfl
  · rintro x4 rfl
    replace h := hk1
    rcases ic h with ⟨hp8, h⟩ | ⟨hp8, h⟩
    · refine wBT hp8 tm (s1 rfl) ?_
      refine wSeq ?_
      refine rg (cp (oAs (cS (by decide))) trivial <| cp (oAs (cI (by decide))) trivial <| .nil) (by kernel_rfl) ?_
      refine pSeq ?_
      refine wRet ?_
      refine pThenR ?_
      obtain rfl := so h
      exact pRn (.inl rfl) rfl rfl (.tmp rfl <| .tmp rfl <| .nil)
    · refine wBF hp8 tm (s1 rfl) ?_
      refine wSkip ?_
      refine pSeq ?_
      refine wSeq ?_
      refine rg (cw (oAlloc (id := 4) (ls := [.d (kN show_piece) []]) ze81 (fun g => ⟨[(.slice none 0 0)], _, rfl, zN g.H, rfl⟩)) trivial <| .nil) (by kernel_rfl) ?_
      refine pSeq ?_
      refine wSeq ?_
      refine wSeq ?_
      refine rg (cp (oMv tm) (s1 rfl) <| cp (oLenL u22 tm) (s1 rfl) <| cp (oMv (cI (by decide))) trivial <| .nil) (by kernel_rfl) ?_
      refine pSeq ?_
      refine wNilL (kR f_show_piece) 86 5200 (n := 0) (k := 0) rfl rfl rfl ?_
      obtain ⟨o1, h, hk1⟩ := bd h
      refine wK1 (fun x159 => x159 = o1) (fun x159 => [(4, .p 4 0)]) (fun x159 => [.row 5200 86 (kR f_show_piece) x159, .box 4 81 [.v 5200]]) ?_ ?_
      · refine wBlock (wLoop ?_)
        refine lW (pc2 o1 (fun v157 v158 => [(4, .p 4 0), (23, .d ((kL (kI .i64)).sig a0)), (24, .d ((kI .i64).sig (a0.length : Int))), (25, .d ((kI .i64).sig v158))]) (fun v157 v158 => [.row 5200 86 (kR f_show_piece) v157, .box 4 81 [.v 5200]]) (show_Text.l0.partial_correctness a0) ?_ _ _ h) ⟨rfl, rfl, rfl, rfl, trivial⟩ rfl
        clear h
        intro f' ih v157 v158 h
        refine wSeq ?_
        refine rg (cp (oLt rfl tm tm) (s2 rfl rfl) <| .nil) (by kernel_rfl) ?_
        refine pSeq ?_
        refine wSeq ?_
        rcases ic h with ⟨hp160, h⟩ | ⟨hp160, h⟩
        · refine wCT hp160 tm (s1 rfl) ?_
          refine wSkip ?_
          refine pSeq ?_
          obtain ⟨o2, h, hk2⟩ := bd h
          refine wJ1 (fun x197 => x197 = o2) (fun x197 => [(4, .p 4 0), (23, .d ((kL (kI .i64)).sig a0)), (24, .d ((kI .i64).sig (a0.length : Int))), (25, .d ((kI .i64).sig v158))]) (fun x197 => [.row 5200 86 (kR f_show_piece) x197, .box 4 81 [.v 5200]]) ?_ ?_
          · refine wBlock ?_
            refine wSeq ?_
            obtain ⟨y198, hy198, h⟩ := bd h
            refine rg (cp (oIdx u22 z3 hy198 tm tm) (s2 rfl rfl) <| cp (oLd t3 tm) (s1 rfl) <| cp (oAs tm) (s1 rfl) <| .nil) (by kernel_rfl) ?_
            refine pSeq ?_
            refine wSeq ?_
            obtain ⟨y199, hy199, h⟩ := bd h
            refine rg (cp (oMv tm) (s1 rfl) <| cp (oCall rfl (show_word.ok hy199) b59 (opds_cons tm opds_nil)) (s1 rfl) <| cp (oMv tm) (s1 rfl) <| cp (oExt (k := 0) rfl tm) (s1 rfl) <| cp (oExt (k := 1) rfl tm) (s1 rfl) <| cp (oExt (k := 2) rfl tm) (s1 rfl) <| cp (oAs tm) (s1 rfl) <| cp (oAs tm) (s1 rfl) <| cp (oAs tm) (s1 rfl) <| .nil) (by kernel_rfl) ?_
            refine pSeq ?_
            refine wSeq ?_
            refine wSeq ?_
            refine rg (cp (oMv tm) (s1 rfl) <| cp (oNot tm) (s1 rfl) <| .nil) (by kernel_rfl) ?_
            refine pSeq ?_
            rcases ic h with ⟨hp200, h⟩ | ⟨hp200, h⟩
            · refine wBT hp200 tm (s1 rfl) ?_
              refine wSeq ?_
              obtain ⟨y201, hy201, h⟩ := bd h
              refine rg (cp (oMv tm) (s1 rfl) <| cp (oMv tm) (s1 rfl) <| cp (oBuild (fs := f_show_piece) (u := ⟨y199.1, y199.2.1, 0⟩) rfl ze86 pl86 po86 (.op (zc := [(.string ⟨⟨[]⟩⟩)]) tm rfl (.op (zc := [(.int .i64 0)]) tm rfl (.op (zc := [(.int .i64 0)]) (cI (by decide)) rfl .nil)))) (s2 rfl rfl) <| cm (oCallS (rest := []) (R' := [.row 390120 86 (kR f_show_piece) y201.l_, .box 4 81 [.v 390120]]) (out' := .d (tup [])) [(70000, 4), (70001, 5200)] [(70001, 390120)] [1, 0] [] [1, 0] rfl (show_pile_show_piece_put.ok hy201) b60 (oE1 tm (oE1 tm oE0)) rfl rfl rfl rfl rfl rfl rfl rfl) (s2 rfl rfl) <| .nil) (by kernel_rfl) ?_
              refine pSeq ?_
              refine wExit ?_
              refine pThenX ?_
              refine pBlkX ?_
              refine pSub (Γ' := [(4, .p 4 0), (23, .d ((kL (kI .i64)).sig a0)), (24, .d ((kI .i64).sig (a0.length : Int))), (25, .d ((kI .i64).sig v158))]) ⟨rfl, rfl, rfl, rfl, trivial⟩ ?_
              refine pRen 390120 5200 rfl ?_
              exact pJ1 _ (so h) ⟨rfl, rfl, rfl, rfl, trivial⟩ rfl
            · refine wBF hp200 tm (s1 rfl) ?_
              refine wSkip ?_
              refine pSeq ?_
              refine wSeq ?_
              obtain ⟨y202, hy202, h⟩ := bd h
              obtain ⟨y203, hy203, h⟩ := bd h
              refine rg (cm (oCallS (rest := []) (R' := [.row 400000 86 (kR f_show_piece) y202.1.l_, .box 4 81 [.v 400000]]) (out' := .d ((kR f_show_piece).sig y202.2)) [(70000, 4), (70001, 5200)] [(70001, 400000)] [1, 0] [] [1, 0] rfl (show_pile_show_piece_take.ok hy202) b61 (oE1 tm oE0) rfl rfl rfl rfl rfl rfl rfl rfl) (s1 rfl) <| cm (oCallS (rest := []) (R' := [.row 400040 86 (kR f_show_piece) y203.1.l_, .box 4 81 [.v 400040]]) (out' := .d ((kR f_show_piece).sig y203.2)) [(70000, 4), (70001, 400000)] [(70001, 400040)] [1, 0] [] [1, 0] rfl (show_pile_show_piece_take.ok hy203) b61 (oE1 tm oE0) rfl rfl rfl rfl rfl rfl rfl rfl) (s1 rfl) <| cw (oAlloc (id := 10) (ls := [.d kS [], .d (kI .i64) 0, .d (kI .i64) 0]) ze86 (fun g => ⟨[(.string ⟨⟨[]⟩⟩)], _, rfl, zS g.H, ⟨[(.int .i64 0)], _, rfl, zI_i64 g.H, ⟨[(.int .i64 0)], _, rfl, zI_i64 g.H, rfl⟩⟩⟩)) trivial <| cw (oAlloc (id := 11) (ls := [.d kS [], .d (kI .i64) 0, .d (kI .i64) 0]) ze86 (fun g => ⟨[(.string ⟨⟨[]⟩⟩)], _, rfl, zS g.H, ⟨[(.int .i64 0)], _, rfl, zI_i64 g.H, ⟨[(.int .i64 0)], _, rfl, zI_i64 g.H, rfl⟩⟩⟩)) trivial <| cwn (oStA (n := 1) (fs := f_show_piece) rfl rfl z86 tm tm) (s2 rfl rfl) <| cwn (oStA (n := 0) (fs := f_show_piece) rfl rfl z86 tm tm) (s2 rfl rfl) <| .nil) (by kernel_rfl) ?_
              refine pSeq ?_
              refine wSeq ?_
              refine rg (cp (oAs (cS (by decide))) trivial <| cp (oAs (cS (by decide))) trivial <| .nil) (by kernel_rfl) ?_
              refine pSeq ?_
              refine wSeq ?_
              refine wWeak (Γ' := [(4, .p 4 0), (6, .d ((kI .i64).sig y198)), (7, .d (kS.sig y199.1)), (8, .d ((kI .i64).sig y199.2.1)), (10, .p 10 0), (11, .p 11 0), (12, .d (kS.sig ([40] : Str))), (13, .d (kS.sig ([41] : Str))), (23, .d ((kL (kI .i64)).sig a0)), (24, .d ((kI .i64).sig (a0.length : Int))), (25, .d ((kI .i64).sig v158))]) ⟨rfl, rfl, rfl, rfl, rfl, rfl, rfl, rfl, rfl, rfl, rfl, trivial⟩ ?_
              refine wRen 400040 5200 rfl ?_
              obtain ⟨o3, h, hk3⟩ := bd h
              refine wJ1 (fun x205 => x205 = o3) (fun x205 => [(4, .p 4 0), (6, .d ((kI .i64).sig y198)), (7, .d (kS.sig y199.1)), (8, .d ((kI .i64).sig y199.2.1)), (10, .p 10 0), (11, .p 11 0), (12, .d (kS.sig ([40] : Str))), (13, .d (kS.sig ([41] : Str))), (23, .d ((kL (kI .i64)).sig a0)), (24, .d ((kI .i64).sig (a0.length : Int))), (25, .d ((kI .i64).sig v158)), (48, .d (kB.sig x205))]) (fun x205 => [.box 11 86 [.d kS y203.2.text_, .d (kI .i64) y203.2.binds_, .d (kI .i64) y203.2.deep_], .box 10 86 [.d kS y202.2.text_, .d (kI .i64) y202.2.binds_, .d (kI .i64) y202.2.deep_], .row 5200 86 (kR f_show_piece) y203.1.l_, .box 4 81 [.v 5200]]) ?_ ?_
              · rcases ic h with ⟨hp206, h⟩ | ⟨hp206, h⟩
                · refine rg (cp (oMv tm) (s1 rfl) <| cp (oEq rfl tm (cI (by decide))) (s1 rfl) <| cp (oMv tm) (s1 rfl) <| csB (decide_eq_true hp206) rfl rfl <| csB (decide_eq_true hp206) rfl rfl <| cp (oPkT (decide_eq_true hp206) tm cB) (s1 rfl) <| .nil) (by kernel_rfl) ?_
                  exact pJ1 _ (so h) ⟨rfl, rfl, rfl, rfl, rfl, rfl, rfl, rfl, rfl, rfl, rfl, rfl, trivial⟩ rfl
                · refine rg (cp (oMv tm) (s1 rfl) <| cp (oEq rfl tm (cI (by decide))) (s1 rfl) <| cp (oMv tm) (s1 rfl) <| cgB (decide_eq_false hp206) rfl rfl (oMv tm) (s1 rfl) <| cgB (decide_eq_false hp206) rfl rfl (oEq rfl tm (cI (by decide))) (s1 rfl) <| cp (oPkF (decide_eq_false hp206) tm tm) (s2 rfl rfl) <| .nil) (by kernel_rfl) ?_
                  exact pJ1 _ (so h) ⟨rfl, rfl, rfl, rfl, rfl, rfl, rfl, rfl, rfl, rfl, rfl, rfl, trivial⟩ rfl
              · rintro x205 rfl
                replace h := hk3
                rcases ic h with ⟨hp207, h⟩ | ⟨hp207, h⟩
                · refine wBT hp207 tm (s1 rfl) ?_
                  refine rg (cp (oAs (cS (by decide))) trivial <| cp (oAs (cS (by decide))) trivial <| .nil) (by kernel_rfl) ?_
                  refine pSeq ?_
                  refine wSeq ?_
                  refine wSeq ?_
                  refine rg (cp (oMv tm) (s1 rfl) <| cp (oNe rfl tm (cI (by decide))) (s1 rfl) <| .nil) (by kernel_rfl) ?_
                  refine pSeq ?_
                  rcases ic h with ⟨hp208, h⟩ | ⟨hp208, h⟩
                  · refine wNT hp208 tm (s1 rfl) ?_
                    refine wSkip ?_
                    refine pSeq ?_
                    obtain ⟨hc209, h⟩ := ib h
                    obtain ⟨hc210, h⟩ := ib h
                    obtain ⟨hc211, h⟩ := ib h
                    obtain ⟨hc212, h⟩ := ib h
                    obtain ⟨y213, hy213, h⟩ := bd h
                    refine rg (cp (oFldP o86_0 tm) (s1 rfl) <| cr (oLdB (n := 0) (k := 0) rfl rfl rfl t9 tm) (s1 rfl) <| cp (oSAdd hc209 tm (cS (by decide))) (s1 rfl) <| cp (oMv tm) (s1 rfl) <| cp (oSAdd hc210 tm tm) (s2 rfl rfl) <| cp (oSAdd hc211 tm (cS (by decide))) (s1 rfl) <| cp (oFldP o86_0 tm) (s1 rfl) <| cr (oLdB (n := 1) (k := 0) rfl rfl rfl t9 tm) (s1 rfl) <| cp (oSAdd hc212 tm tm) (s2 rfl rfl) <| cp (oMv tm) (s1 rfl) <| cp (oFldP o86_2 tm) (s1 rfl) <| cr (oLdB (n := 0) (k := 2) rfl rfl rfl t3 tm) (s1 rfl) <| cp (oFldP o86_2 tm) (s1 rfl) <| cr (oLdB (n := 1) (k := 2) rfl rfl rfl t3 tm) (s1 rfl) <| cp (oMax tm tm) (s2 rfl rfl) <| cp (oBuild (fs := f_show_piece) (u := ⟨(((y203.2.text_ ++ ([32] : Str)) ++ y199.1) ++ ([32] : Str)) ++ y202.2.text_, y199.2.1, (if y203.2.deep_ < y202.2.deep_ then y202.2.deep_ else y203.2.deep_)⟩) rfl ze86 pl86 po86 (.op (zc := [(.string ⟨⟨[]⟩⟩)]) tm rfl (.op (zc := [(.int .i64 0)]) tm rfl (.op (zc := [(.int .i64 0)]) tm rfl .nil)))) (s3 rfl rfl rfl) <| cm (oCallS (rest := [.box 11 86 [.d kS y203.2.text_, .d (kI .i64) y203.2.binds_, .d (kI .i64) y203.2.deep_], .box 10 86 [.d kS y202.2.text_, .d (kI .i64) y202.2.binds_, .d (kI .i64) y202.2.deep_]]) (R' := [.box 11 86 [.d kS y203.2.text_, .d (kI .i64) y203.2.binds_, .d (kI .i64) y203.2.deep_], .box 10 86 [.d kS y202.2.text_, .d (kI .i64) y202.2.binds_, .d (kI .i64) y202.2.deep_], .row 460640 86 (kR f_show_piece) y213.l_, .box 4 81 [.v 460640]]) (out' := .d (tup [])) [(70000, 4), (70001, 5200)] [(70001, 460640)] [3, 2] [0, 1] [2, 3, 1, 0] rfl (show_pile_show_piece_put.ok hy213) b60 (oE1 tm (oE1 tm oE0)) rfl rfl rfl rfl rfl rfl rfl rfl) (s2 rfl rfl) <| .nil) (by kernel_rfl) ?_
                    refine pBlkN ?_
                    refine pDrop (.cons _ (.cons _ (.cons_cons _ (.cons_cons _ .slnil)))) ?_
                    refine pSub (Γ' := [(4, .p 4 0), (23, .d ((kL (kI .i64)).sig a0)), (24, .d ((kI .i64).sig (a0.length : Int))), (25, .d ((kI .i64).sig v158))]) ⟨rfl, rfl, rfl, rfl, trivial⟩ ?_
                    refine pRen 460640 5200 rfl ?_
                    exact pJ1 _ (so h) ⟨rfl, rfl, rfl, rfl, trivial⟩ rfl
                  · refine wNF hp208 tm (s1 rfl) ?_
                    obtain ⟨y214, hy214, h⟩ := bd h
                    obtain ⟨y215, hy215, h⟩ := bd h
                    refine rgD hm (cr (oLdA (n := 0) (fs := f_show_piece) (u := ⟨y203.2.text_, y203.2.binds_, y203.2.deep_⟩) rfl ⟨rfl, rfl, rfl, trivial⟩ t86 tm) (s1 rfl) <| cp (oMv tm) (s1 rfl) <| cp (oMv tm) (s1 rfl) <| cp (oMv tm) (s1 rfl) <| cp (oCall rfl (show_within.ok hy214) b62 (opds_cons tm (opds_cons tm (opds_cons tm (opds_cons tm opds_nil))))) ⟨rfl, rfl, rfl, rfl, trivial⟩ <| cr (oLdA (n := 1) (fs := f_show_piece) (u := ⟨y202.2.text_, y202.2.binds_, y202.2.deep_⟩) rfl ⟨rfl, rfl, rfl, trivial⟩ t86 tm) (s1 rfl) <| cp (oMv tm) (s1 rfl) <| cp (oAdd tm (cI (by decide))) (s1 rfl) <| cp (oMv tm) (s1 rfl) <| cp (oMv tm) (s1 rfl) <| cp (oCall rfl (show_within.ok hy215) b62 (opds_cons tm (opds_cons tm (opds_cons tm (opds_cons tm opds_nil))))) ⟨rfl, rfl, rfl, rfl, trivial⟩ <| cwn (oStA (n := 0) (fs := f_show_piece) rfl rfl z86 tm tm) (s2 rfl rfl) <| cwn (oStA (n := 1) (fs := f_show_piece) rfl rfl z86 tm tm) (s2 rfl rfl) <| .nil) (by kernel_rfl) (by kernel_rfl) ?_
                    refine pSeq ?_
                    obtain ⟨hc216, h⟩ := ib h
                    obtain ⟨hc217, h⟩ := ib h
                    obtain ⟨hc218, h⟩ := ib h
                    obtain ⟨hc219, h⟩ := ib h
                    obtain ⟨y220, hy220, h⟩ := bd h
                    refine rg (cp (oFldP o86_0 tm) (s1 rfl) <| cr (oLdB (n := 0) (k := 0) rfl rfl rfl t9 tm) (s1 rfl) <| cp (oSAdd hc216 tm (cS (by decide))) (s1 rfl) <| cp (oMv tm) (s1 rfl) <| cp (oSAdd hc217 tm tm) (s2 rfl rfl) <| cp (oSAdd hc218 tm (cS (by decide))) (s1 rfl) <| cp (oFldP o86_0 tm) (s1 rfl) <| cr (oLdB (n := 1) (k := 0) rfl rfl rfl t9 tm) (s1 rfl) <| cp (oSAdd hc219 tm tm) (s2 rfl rfl) <| cp (oMv tm) (s1 rfl) <| cp (oFldP o86_2 tm) (s1 rfl) <| cr (oLdB (n := 0) (k := 2) rfl rfl rfl t3 tm) (s1 rfl) <| cp (oFldP o86_2 tm) (s1 rfl) <| cr (oLdB (n := 1) (k := 2) rfl rfl rfl t3 tm) (s1 rfl) <| cp (oMax tm tm) (s2 rfl rfl) <| cp (oBuild (fs := f_show_piece) (u := ⟨(((y214.text_ ++ ([32] : Str)) ++ y199.1) ++ ([32] : Str)) ++ y215.text_, y199.2.1, (if y214.deep_ < y215.deep_ then y215.deep_ else y214.deep_)⟩) rfl ze86 pl86 po86 (.op (zc := [(.string ⟨⟨[]⟩⟩)]) tm rfl (.op (zc := [(.int .i64 0)]) tm rfl (.op (zc := [(.int .i64 0)]) tm rfl .nil)))) (s3 rfl rfl rfl) <| cm (oCallS (rest := [.box 11 86 [.d kS y214.text_, .d (kI .i64) y214.binds_, .d (kI .i64) y214.deep_], .box 10 86 [.d kS y215.text_, .d (kI .i64) y215.binds_, .d (kI .i64) y215.deep_]]) (R' := [.box 11 86 [.d kS y214.text_, .d (kI .i64) y214.binds_, .d (kI .i64) y214.deep_], .box 10 86 [.d kS y215.text_, .d (kI .i64) y215.binds_, .d (kI .i64) y215.deep_], .row 460640 86 (kR f_show_piece) y220.l_, .box 4 81 [.v 460640]]) (out' := .d (tup [])) [(70000, 4), (70001, 5200)] [(70001, 460640)] [3, 2] [0, 1] [2, 3, 1, 0] rfl (show_pile_show_piece_put.ok hy220) b60 (oE1 tm (oE1 tm oE0)) rfl rfl rfl rfl rfl rfl rfl rfl) (s2 rfl rfl) <| .nil) (by kernel_rfl) ?_
                    refine pBlkN ?_
                    refine pDrop (.cons _ (.cons _ (.cons_cons _ (.cons_cons _ .slnil)))) ?_
                    refine pSub (Γ' := [(4, .p 4 0), (23, .d ((kL (kI .i64)).sig a0)), (24, .d ((kI .i64).sig (a0.length : Int))), (25, .d ((kI .i64).sig v158))]) ⟨rfl, rfl, rfl, rfl, trivial⟩ ?_
                    refine pRen 460640 5200 rfl ?_
                    exact pJ1 _ (so h) ⟨rfl, rfl, rfl, rfl, trivial⟩ rfl
                · refine wBF hp207 tm (s1 rfl) ?_
                  refine wSkip ?_
                  refine pSeq ?_
                  refine wSeq ?_
                  refine wSeq ?_
                  refine rg (cp (oMv tm) (s1 rfl) <| cp (oNe rfl tm (cI (by decide))) (s1 rfl) <| .nil) (by kernel_rfl) ?_
                  refine pSeq ?_
                  rcases ic h with ⟨hp221, h⟩ | ⟨hp221, h⟩
                  · refine wNT hp221 tm (s1 rfl) ?_
                    refine wSkip ?_
                    refine pSeq ?_
                    obtain ⟨hc222, h⟩ := ib h
                    obtain ⟨hc223, h⟩ := ib h
                    obtain ⟨hc224, h⟩ := ib h
                    obtain ⟨hc225, h⟩ := ib h
                    obtain ⟨y226, hy226, h⟩ := bd h
                    refine rg (cp (oFldP o86_0 tm) (s1 rfl) <| cr (oLdB (n := 0) (k := 0) rfl rfl rfl t9 tm) (s1 rfl) <| cp (oSAdd hc222 tm (cS (by decide))) (s1 rfl) <| cp (oMv tm) (s1 rfl) <| cp (oSAdd hc223 tm tm) (s2 rfl rfl) <| cp (oSAdd hc224 tm (cS (by decide))) (s1 rfl) <| cp (oFldP o86_0 tm) (s1 rfl) <| cr (oLdB (n := 1) (k := 0) rfl rfl rfl t9 tm) (s1 rfl) <| cp (oSAdd hc225 tm tm) (s2 rfl rfl) <| cp (oMv tm) (s1 rfl) <| cp (oFldP o86_2 tm) (s1 rfl) <| cr (oLdB (n := 0) (k := 2) rfl rfl rfl t3 tm) (s1 rfl) <| cp (oFldP o86_2 tm) (s1 rfl) <| cr (oLdB (n := 1) (k := 2) rfl rfl rfl t3 tm) (s1 rfl) <| cp (oMax tm tm) (s2 rfl rfl) <| cp (oBuild (fs := f_show_piece) (u := ⟨(((y203.2.text_ ++ ([32] : Str)) ++ y199.1) ++ ([32] : Str)) ++ y202.2.text_, y199.2.1, (if y203.2.deep_ < y202.2.deep_ then y202.2.deep_ else y203.2.deep_)⟩) rfl ze86 pl86 po86 (.op (zc := [(.string ⟨⟨[]⟩⟩)]) tm rfl (.op (zc := [(.int .i64 0)]) tm rfl (.op (zc := [(.int .i64 0)]) tm rfl .nil)))) (s3 rfl rfl rfl) <| cm (oCallS (rest := [.box 11 86 [.d kS y203.2.text_, .d (kI .i64) y203.2.binds_, .d (kI .i64) y203.2.deep_], .box 10 86 [.d kS y202.2.text_, .d (kI .i64) y202.2.binds_, .d (kI .i64) y202.2.deep_]]) (R' := [.box 11 86 [.d kS y203.2.text_, .d (kI .i64) y203.2.binds_, .d (kI .i64) y203.2.deep_], .box 10 86 [.d kS y202.2.text_, .d (kI .i64) y202.2.binds_, .d (kI .i64) y202.2.deep_], .row 460640 86 (kR f_show_piece) y226.l_, .box 4 81 [.v 460640]]) (out' := .d (tup [])) [(70000, 4), (70001, 5200)] [(70001, 460640)] [3, 2] [0, 1] [2, 3, 1, 0] rfl (show_pile_show_piece_put.ok hy226) b60 (oE1 tm (oE1 tm oE0)) rfl rfl rfl rfl rfl rfl rfl rfl) (s2 rfl rfl) <| .nil) (by kernel_rfl) ?_
                    refine pBlkN ?_
                    refine pDrop (.cons _ (.cons _ (.cons_cons _ (.cons_cons _ .slnil)))) ?_
                    refine pSub (Γ' := [(4, .p 4 0), (23, .d ((kL (kI .i64)).sig a0)), (24, .d ((kI .i64).sig (a0.length : Int))), (25, .d ((kI .i64).sig v158))]) ⟨rfl, rfl, rfl, rfl, trivial⟩ ?_
                    refine pRen 460640 5200 rfl ?_
                    exact pJ1 _ (so h) ⟨rfl, rfl, rfl, rfl, trivial⟩ rfl
                  · refine wNF hp221 tm (s1 rfl) ?_
                    obtain ⟨y227, hy227, h⟩ := bd h
                    obtain ⟨y228, hy228, h⟩ := bd h
                    refine rgD hm (cr (oLdA (n := 0) (fs := f_show_piece) (u := ⟨y203.2.text_, y203.2.binds_, y203.2.deep_⟩) rfl ⟨rfl, rfl, rfl, trivial⟩ t86 tm) (s1 rfl) <| cp (oMv tm) (s1 rfl) <| cp (oMv tm) (s1 rfl) <| cp (oMv tm) (s1 rfl) <| cp (oCall rfl (show_within.ok hy227) b62 (opds_cons tm (opds_cons tm (opds_cons tm (opds_cons tm opds_nil))))) ⟨rfl, rfl, rfl, rfl, trivial⟩ <| cr (oLdA (n := 1) (fs := f_show_piece) (u := ⟨y202.2.text_, y202.2.binds_, y202.2.deep_⟩) rfl ⟨rfl, rfl, rfl, trivial⟩ t86 tm) (s1 rfl) <| cp (oMv tm) (s1 rfl) <| cp (oAdd tm (cI (by decide))) (s1 rfl) <| cp (oMv tm) (s1 rfl) <| cp (oMv tm) (s1 rfl) <| cp (oCall rfl (show_within.ok hy228) b62 (opds_cons tm (opds_cons tm (opds_cons tm (opds_cons tm opds_nil))))) ⟨rfl, rfl, rfl, rfl, trivial⟩ <| cwn (oStA (n := 0) (fs := f_show_piece) rfl rfl z86 tm tm) (s2 rfl rfl) <| cwn (oStA (n := 1) (fs := f_show_piece) rfl rfl z86 tm tm) (s2 rfl rfl) <| .nil) (by kernel_rfl) (by kernel_rfl) ?_
                    refine pSeq ?_
                    obtain ⟨hc229, h⟩ := ib h
                    obtain ⟨hc230, h⟩ := ib h
                    obtain ⟨hc231, h⟩ := ib h
                    obtain ⟨hc232, h⟩ := ib h
                    obtain ⟨y233, hy233, h⟩ := bd h
                    refine rg (cp (oFldP o86_0 tm) (s1 rfl) <| cr (oLdB (n := 0) (k := 0) rfl rfl rfl t9 tm) (s1 rfl) <| cp (oSAdd hc229 tm (cS (by decide))) (s1 rfl) <| cp (oMv tm) (s1 rfl) <| cp (oSAdd hc230 tm tm) (s2 rfl rfl) <| cp (oSAdd hc231 tm (cS (by decide))) (s1 rfl) <| cp (oFldP o86_0 tm) (s1 rfl) <| cr (oLdB (n := 1) (k := 0) rfl rfl rfl t9 tm) (s1 rfl) <| cp (oSAdd hc232 tm tm) (s2 rfl rfl) <| cp (oMv tm) (s1 rfl) <| cp (oFldP o86_2 tm) (s1 rfl) <| cr (oLdB (n := 0) (k := 2) rfl rfl rfl t3 tm) (s1 rfl) <| cp (oFldP o86_2 tm) (s1 rfl) <| cr (oLdB (n := 1) (k := 2) rfl rfl rfl t3 tm) (s1 rfl) <| cp (oMax tm tm) (s2 rfl rfl) <| cp (oBuild (fs := f_show_piece) (u := ⟨(((y227.text_ ++ ([32] : Str)) ++ y199.1) ++ ([32] : Str)) ++ y228.text_, y199.2.1, (if y227.deep_ < y228.deep_ then y228.deep_ else y227.deep_)⟩) rfl ze86 pl86 po86 (.op (zc := [(.string ⟨⟨[]⟩⟩)]) tm rfl (.op (zc := [(.int .i64 0)]) tm rfl (.op (zc := [(.int .i64 0)]) tm rfl .nil)))) (s3 rfl rfl rfl) <| cm (oCallS (rest := [.box 11 86 [.d kS y227.text_, .d (kI .i64) y227.binds_, .d (kI .i64) y227.deep_], .box 10 86 [.d kS y228.text_, .d (kI .i64) y228.binds_, .d (kI .i64) y228.deep_]]) (R' := [.box 11 86 [.d kS y227.text_, .d (kI .i64) y227.binds_, .d (kI .i64) y227.deep_], .box 10 86 [.d kS y228.text_, .d (kI .i64) y228.binds_, .d (kI .i64) y228.deep_], .row 460640 86 (kR f_show_piece) y233.l_, .box 4 81 [.v 460640]]) (out' := .d (tup [])) [(70000, 4), (70001, 5200)] [(70001, 460640)] [3, 2] [0, 1] [2, 3, 1, 0] rfl (show_pile_show_piece_put.ok hy233) b60 (oE1 tm (oE1 tm oE0)) rfl rfl rfl rfl rfl rfl rfl rfl) (s2 rfl rfl) <| .nil) (by kernel_rfl) ?_
                    refine pBlkN ?_
                    refine pDrop (.cons _ (.cons _ (.cons_cons _ (.cons_cons _ .slnil)))) ?_
                    refine pSub (Γ' := [(4, .p 4 0), (23, .d ((kL (kI .i64)).sig a0)), (24, .d ((kI .i64).sig (a0.length : Int))), (25, .d ((kI .i64).sig v158))]) ⟨rfl, rfl, rfl, rfl, trivial⟩ ?_
                    refine pRen 460640 5200 rfl ?_
                    exact pJ1 _ (so h) ⟨rfl, rfl, rfl, rfl, trivial⟩ rfl
          · rintro x197 rfl
            replace h := hk2
            refine rg (cp (oAdd tm (cI (by decide))) (s1 rfl) <| cp (oMv tm) (s1 rfl) <| .nil) (by kernel_rfl) ?_
            exact pLoop (lW (ih _ _ h) ⟨rfl, rfl, rfl, rfl, trivial⟩ rfl)
        · refine wCF hp160 tm (s1 rfl) ?_
          refine wExit ?_
          refine pThenX ?_
          refine pThenX ?_
          refine pBlkX ?_
          exact pJ1 _ (so h) ⟨rfl, trivial⟩ rfl
      · rintro x159 rfl
        replace h := hk1
        refine pSeq ?_
        refine wSeq ?_
        obtain ⟨y234, hy234, h⟩ := bd h
        refine rg (cm (oCallS (rest := []) (R' := [.row 480000 86 (kR f_show_piece) y234.1.l_, .box 4 81 [.v 480000]]) (out' := .d ((kR f_show_piece).sig y234.2)) [(70000, 4), (70001, 5200)] [(70001, 480000)] [1, 0] [] [1, 0] rfl (show_pile_show_piece_take.ok hy234) b61 (oE1 tm oE0) rfl rfl rfl rfl rfl rfl rfl rfl) (s1 rfl) <| cw (oAlloc (id := 14) (ls := [.d kS [], .d (kI .i64) 0, .d (kI .i64) 0]) ze86 (fun g => ⟨[(.string ⟨⟨[]⟩⟩)], _, rfl, zS g.H, ⟨[(.int .i64 0)], _, rfl, zI_i64 g.H, ⟨[(.int .i64 0)], _, rfl, zI_i64 g.H, rfl⟩⟩⟩)) trivial <| cwn (oStA (n := 0) (fs := f_show_piece) rfl rfl z86 tm tm) (s2 rfl rfl) <| .nil) (by kernel_rfl) ?_
        refine pSeq ?_
        refine wSeq ?_
        refine wSeq ?_
        refine rg (cp (oFldP o86_2 tm) (s1 rfl) <| cr (oLdB (n := 0) (k := 2) rfl rfl rfl t3 tm) (s1 rfl) <| cp (oGt rfl tm (cI (by decide))) (s1 rfl) <| .nil) (by kernel_rfl) ?_
        refine pSeq ?_
        rcases ic h with ⟨hp235, h⟩ | ⟨hp235, h⟩
        · refine wCT hp235 tm (s1 rfl) ?_
          refine wSeq ?_
          refine rg (cp (oAs (cS (by decide))) trivial <| cp (oAs (cI (by decide))) trivial <| .nil) (by kernel_rfl) ?_
          refine pSeq ?_
          refine wRet ?_
          refine pThenR ?_
          obtain rfl := so h
          exact pRn (.inl rfl) rfl rfl (.tmp rfl <| .tmp rfl <| .nil)
        · refine wCF hp235 tm (s1 rfl) ?_
          refine wSkip ?_
          refine pSeq ?_
          refine wSeq ?_
          refine rg (cp (oFldP o86_0 tm) (s1 rfl) <| cr (oLdB (n := 0) (k := 0) rfl rfl rfl t9 tm) (s1 rfl) <| cp (oAs tm) (s1 rfl) <| cp (oAs (cI (by decide))) trivial <| .nil) (by kernel_rfl) ?_
          refine pSeq ?_
          refine wRet ?_
          obtain rfl := so h
          exact pRn (.inl rfl) rfl rfl (.tmp rfl <| .tmp rfl <| .nil)

theorem reticentref04_two.ok {a0 : List Int} {a1 : Int} {r : Bool} (h : reticentref04_two.f a0 a1 = some r) : FnA Try.prog 63 [(kL (kI .i64)).sig a0, (kI .i64).sig a1] (kB.sig r) := by
  refine fnIntro Try.func63 rfl (by kernel_rfl) fun H0 w0 => ?_
  unfold reticentref04_two.f at h
  refine wSeq ?_
  refine rg (cp (oAs cB) trivial <| .nil) (by kernel_rfl) ?_
  refine pSeq ?_
  refine wSeq ?_
  refine rg (cp (oMv tm) (s1 rfl) <| cp (oLenL u22 tm) (s1 rfl) <| cp (oAs tm) (s1 rfl) <| .nil) (by kernel_rfl) ?_
  refine pSeq ?_
  obtain ⟨o1, h, hk1⟩ := bd h
  refine wJ1 (fun x5 => x5 = o1) (fun x5 => [(4, .d (kB.sig x5))]) (fun x5 => []) ?_ ?_
  · rcases ic h with ⟨hp6, h⟩ | ⟨hp6, h⟩
    · obtain ⟨y7, hy7, h⟩ := bd h
      rcases ic h with ⟨hp8, h⟩ | ⟨hp8, h⟩
      · obtain ⟨y9, hy9, h⟩ := bd h
        refine rg (cp (oMv tm) (s1 rfl) <| cp (oGe rfl tm (cI (by decide))) (s1 rfl) <| cp (oMv tm) (s1 rfl) <| cgB (decide_eq_true hp6) rfl rfl (oMv tm) (s1 rfl) <| cgB (decide_eq_true hp6) rfl rfl (oMv tm) (s1 rfl) <| cgB (decide_eq_true hp6) rfl rfl (oSub tm (cI (by decide))) (s1 rfl) <| cgB (decide_eq_true hp6) rfl rfl (oIdx u22 z3 hy7 tm tm) (s2 rfl rfl) <| cgB (decide_eq_true hp6) rfl rfl (oLd t3 tm) (s1 rfl) <| cgB (decide_eq_true hp6) rfl rfl (oMv tm) (s1 rfl) <| cgB (decide_eq_true hp6) rfl rfl (oEq rfl tm tm) (s2 rfl rfl) <| cp (oPkT (decide_eq_true hp6) tm tm) (s2 rfl rfl) <| cp (oMv tm) (s1 rfl) <| cgB (decide_eq_true hp8) rfl rfl (oMv tm) (s1 rfl) <| cgB (decide_eq_true hp8) rfl rfl (oMv tm) (s1 rfl) <| cgB (decide_eq_true hp8) rfl rfl (oSub tm (cI (by decide))) (s1 rfl) <| cgB (decide_eq_true hp8) rfl rfl (oIdx u22 z3 hy9 tm tm) (s2 rfl rfl) <| cgB (decide_eq_true hp8) rfl rfl (oLd t3 tm) (s1 rfl) <| cgB (decide_eq_true hp8) rfl rfl (oMv tm) (s1 rfl) <| cgB (decide_eq_true hp8) rfl rfl (oEq rfl tm tm) (s2 rfl rfl) <| cp (oPkT (decide_eq_true hp8) tm tm) (s2 rfl rfl) <| cp (oAs tm) (s1 rfl) <| .nil) (by kernel_rfl) ?_
        exact pJ1 _ (so h) ⟨rfl, trivial⟩ rfl
      · refine rg (cp (oMv tm) (s1 rfl) <| cp (oGe rfl tm (cI (by decide))) (s1 rfl) <| cp (oMv tm) (s1 rfl) <| cgB (decide_eq_true hp6) rfl rfl (oMv tm) (s1 rfl) <| cgB (decide_eq_true hp6) rfl rfl (oMv tm) (s1 rfl) <| cgB (decide_eq_true hp6) rfl rfl (oSub tm (cI (by decide))) (s1 rfl) <| cgB (decide_eq_true hp6) rfl rfl (oIdx u22 z3 hy7 tm tm) (s2 rfl rfl) <| cgB (decide_eq_true hp6) rfl rfl (oLd t3 tm) (s1 rfl) <| cgB (decide_eq_true hp6) rfl rfl (oMv tm) (s1 rfl) <| cgB (decide_eq_true hp6) rfl rfl (oEq rfl tm tm) (s2 rfl rfl) <| cp (oPkT (decide_eq_true hp6) tm tm) (s2 rfl rfl) <| cp (oMv tm) (s1 rfl) <| csB (decide_eq_false hp8) rfl rfl <| csB (decide_eq_false hp8) rfl rfl <| csB (decide_eq_false hp8) rfl rfl <| csB (decide_eq_false hp8) rfl rfl <| csB (decide_eq_false hp8) rfl rfl <| csB (decide_eq_false hp8) rfl rfl <| csB (decide_eq_false hp8) rfl rfl <| cp (oPkF (decide_eq_false hp8) tm cB) (s1 rfl) <| cp (oAs tm) (s1 rfl) <| .nil) (by kernel_rfl) ?_
        exact pJ1 _ (so h) ⟨rfl, trivial⟩ rfl
    · refine rg (cp (oMv tm) (s1 rfl) <| cp (oGe rfl tm (cI (by decide))) (s1 rfl) <| cp (oMv tm) (s1 rfl) <| csB (decide_eq_false hp6) rfl rfl <| csB (decide_eq_false hp6) rfl rfl <| csB (decide_eq_false hp6) rfl rfl <| csB (decide_eq_false hp6) rfl rfl <| csB (decide_eq_false hp6) rfl rfl <| csB (decide_eq_false hp6) rfl rfl <| csB (decide_eq_false hp6) rfl rfl <| cp (oPkF (decide_eq_false hp6) tm cB) (s1 rfl) <| cp (oMv tm) (s1 rfl) <| csB rfl rfl rfl <| csB rfl rfl rfl <| csB rfl rfl rfl <| csB rfl rfl rfl <| csB rfl rfl rfl <| csB rfl rfl rfl <| csB rfl rfl rfl <| cp (oPkF rfl tm cB) (s1 rfl) <| cp (oAs tm) (s1 rfl) <| .nil) (by kernel_rfl) ?_
      exact pJ1 _ (so h) ⟨rfl, trivial⟩ rfl
  · rintro x5 rfl
    replace h := hk1
    refine wRet ?_
    obtain rfl := so h
    exact pR1 (.inl rfl) rfl (.tmp rfl <| .nil)

theorem reticentref04_Made.ok {a0 : List Int} {r : Int} (h : reticentref04_Made.f a0 = some r) : FnA Try.prog 15 [(kL (kI .i64)).sig a0] ((kI .i64).sig r) := by
  refine fnIntro Try.func15 rfl (by kernel_rfl) fun H0 w0 => ?_
  unfold reticentref04_Made.f at h
  refine wSeq ?_
  refine rg (cp (oAs (cI (by decide))) trivial <| .nil) (by kernel_rfl) ?_
  refine pSeq ?_
  refine wSeq ?_
  refine rg (cw (oLitR (id := 7) (d := (kI .i64)) el22 (by decide) rfl rfl rfl e0) trivial <| cp (oAs tm) (s1 rfl) <| .nil) (by kernel_rfl) ?_
  refine pSeq ?_
  refine wSeq ?_
  refine wSeq ?_
  refine rg (cp (oMv tm) (s1 rfl) <| cp (oLenL u22 tm) (s1 rfl) <| cp (oMv (cI (by decide))) trivial <| .nil) (by kernel_rfl) ?_
  refine pSeq ?_
  refine wWeak (Γ' := [(0, .d ((kL (kI .i64)).sig a0)), (3, .v 7), (8, .d ((kL (kI .i64)).sig a0)), (9, .d ((kI .i64).sig (a0.length : Int))), (10, .d ((kI .i64).sig 0))]) ⟨rfl, rfl, rfl, rfl, rfl, trivial⟩ ?_
  refine wRen 7 1003 rfl ?_
  obtain ⟨o1, h, hk1⟩ := bd h
  refine wK1 (fun x171 => .inr x171 = o1) (fun x171 => [(0, .d ((kL (kI .i64)).sig a0)), (3, .v 1003)]) (fun x171 => [.row 1003 3 (kI .i64) x171]) ?_ ?_
  · refine wBlock (wLoop ?_)
    refine lW (pc2 o1 (fun v169 v170 => [(0, .d ((kL (kI .i64)).sig a0)), (3, .v 1003), (8, .d ((kL (kI .i64)).sig a0)), (9, .d ((kI .i64).sig (a0.length : Int))), (10, .d ((kI .i64).sig v170))]) (fun v169 v170 => [.row 1003 3 (kI .i64) v169]) (reticentref04_Made.l0.partial_correctness a0) ?_ _ _ h) ⟨rfl, rfl, rfl, rfl, rfl, trivial⟩ rfl
    clear h
    intro f' ih v169 v170 h
    refine wSeq ?_
    refine rg (cp (oLt rfl tm tm) (s2 rfl rfl) <| .nil) (by kernel_rfl) ?_
    refine pSeq ?_
    refine wSeq ?_
    rcases ic h with ⟨hp172, h⟩ | ⟨hp172, h⟩
    · refine wCT hp172 tm (s1 rfl) ?_
      refine wSkip ?_
      refine pSeq ?_
      obtain ⟨o2, h, hk2⟩ := bd h
      refine wJ1 (fun x214 => .inr x214 = o2) (fun x214 => [(0, .d ((kL (kI .i64)).sig a0)), (3, .v 1003), (8, .d ((kL (kI .i64)).sig a0)), (9, .d ((kI .i64).sig (a0.length : Int))), (10, .d ((kI .i64).sig v170))]) (fun x214 => [.row 1003 3 (kI .i64) x214]) ?_ ?_
      · refine wBlock ?_
        refine wSeq ?_
        obtain ⟨y215, hy215, h⟩ := bd h
        refine rg (cp (oIdx u22 z3 hy215 tm tm) (s2 rfl rfl) <| cp (oLd t3 tm) (s1 rfl) <| cp (oAs tm) (s1 rfl) <| .nil) (by kernel_rfl) ?_
        refine pSeq ?_
        refine wSeq ?_
        refine rg (cp (oMv tm) (s1 rfl) <| cr (oLenR (n := 0) u22 rfl tm) (s1 rfl) <| cp (oAs tm) (s1 rfl) <| .nil) (by kernel_rfl) ?_
        refine pSeq ?_
        obtain ⟨o3, h, hk3⟩ := bd h
        refine wJ1 (fun x217 => x217 = o3) (fun x217 => [(0, .d ((kL (kI .i64)).sig a0)), (3, .v 1003), (5, .d ((kI .i64).sig y215)), (6, .d ((kI .i64).sig (v169.length : Int))), (8, .d ((kL (kI .i64)).sig a0)), (9, .d ((kI .i64).sig (a0.length : Int))), (10, .d ((kI .i64).sig v170)), (21, .d (kB.sig x217))]) (fun x217 => [.row 1003 3 (kI .i64) v169]) ?_ ?_
        · rcases ic h with ⟨hp218, h⟩ | ⟨hp218, h⟩
          · refine rg (cp (oMv tm) (s1 rfl) <| cp (oEq rfl tm (cI (by decide))) (s1 rfl) <| cp (oMv tm) (s1 rfl) <| csB (decide_eq_true hp218) rfl rfl <| csB (decide_eq_true hp218) rfl rfl <| cp (oPkT (decide_eq_true hp218) tm cB) (s1 rfl) <| .nil) (by kernel_rfl) ?_
            exact pJ1 _ (so h) ⟨rfl, rfl, rfl, rfl, rfl, rfl, rfl, rfl, trivial⟩ rfl
          · refine rg (cp (oMv tm) (s1 rfl) <| cp (oEq rfl tm (cI (by decide))) (s1 rfl) <| cp (oMv tm) (s1 rfl) <| cgB (decide_eq_false hp218) rfl rfl (oMv tm) (s1 rfl) <| cgB (decide_eq_false hp218) rfl rfl (oEq rfl tm (cI (by decide))) (s1 rfl) <| cp (oPkF (decide_eq_false hp218) tm tm) (s2 rfl rfl) <| .nil) (by kernel_rfl) ?_
            exact pJ1 _ (so h) ⟨rfl, rfl, rfl, rfl, rfl, rfl, rfl, rfl, trivial⟩ rfl
        · rintro x217 rfl
          replace h := hk3
          rcases ic h with ⟨hp219, h⟩ | ⟨hp219, h⟩
          · refine wBT hp219 tm (s1 rfl) ?_
            obtain ⟨hc220, h⟩ := ib h
            refine rg (cp (oMv tm) (s1 rfl) <| cp (oLit (d := (kI .i64)) el22 (by decide) rfl rfl rfl (e1 (cI (by decide)) e0)) trivial <| cw (oApp (n := 0) (id' := 24) el22 (by decide) rfl (by decide) hc220 tm tm) (s2 rfl rfl) <| cp (oAs tm) (s1 rfl) <| .nil) (by kernel_rfl) ?_
            refine pBlkN ?_
            refine pSub (Γ' := [(0, .d ((kL (kI .i64)).sig a0)), (3, .v 24), (8, .d ((kL (kI .i64)).sig a0)), (9, .d ((kI .i64).sig (a0.length : Int))), (10, .d ((kI .i64).sig v170))]) ⟨rfl, rfl, rfl, rfl, rfl, trivial⟩ ?_
            refine pRen 24 1003 rfl ?_
            exact pJ1 _ (so h) ⟨rfl, rfl, rfl, rfl, rfl, trivial⟩ rfl
          · refine wBF hp219 tm (s1 rfl) ?_
            obtain ⟨o3, h, hk3⟩ := bd h
            refine wJ1 (fun x222 => x222 = o3) (fun x222 => [(0, .d ((kL (kI .i64)).sig a0)), (3, .v 1003), (5, .d ((kI .i64).sig y215)), (6, .d ((kI .i64).sig (v169.length : Int))), (8, .d ((kL (kI .i64)).sig a0)), (9, .d ((kI .i64).sig (a0.length : Int))), (10, .d ((kI .i64).sig v170)), (30, .d (kB.sig x222))]) (fun x222 => [.row 1003 3 (kI .i64) v169]) ?_ ?_
            · rcases ic h with ⟨hp223, h⟩ | ⟨hp223, h⟩
              · refine rg (cp (oMv tm) (s1 rfl) <| cp (oGe rfl tm (cI (by decide))) (s1 rfl) <| cp (oMv tm) (s1 rfl) <| cgB (decide_eq_true hp223) rfl rfl (oMv tm) (s1 rfl) <| cgB (decide_eq_true hp223) rfl rfl (oLe rfl tm (cI (by decide))) (s1 rfl) <| cp (oPkT (decide_eq_true hp223) tm tm) (s2 rfl rfl) <| .nil) (by kernel_rfl) ?_
                exact pJ1 _ (so h) ⟨rfl, rfl, rfl, rfl, rfl, rfl, rfl, rfl, trivial⟩ rfl
              · refine rg (cp (oMv tm) (s1 rfl) <| cp (oGe rfl tm (cI (by decide))) (s1 rfl) <| cp (oMv tm) (s1 rfl) <| csB (decide_eq_false hp223) rfl rfl <| csB (decide_eq_false hp223) rfl rfl <| cp (oPkF (decide_eq_false hp223) tm cB) (s1 rfl) <| .nil) (by kernel_rfl) ?_
                exact pJ1 _ (so h) ⟨rfl, rfl, rfl, rfl, rfl, rfl, rfl, rfl, trivial⟩ rfl
            · rintro x222 rfl
              replace h := hk3
              rcases ic h with ⟨hp224, h⟩ | ⟨hp224, h⟩
              · refine wBT hp224 tm (s1 rfl) ?_
                obtain ⟨hc225, h⟩ := ib h
                refine rg (cp (oMv tm) (s1 rfl) <| cp (oLit (d := (kI .i64)) el22 (by decide) rfl rfl rfl (e1 (cI (by decide)) e0)) trivial <| cw (oApp (n := 0) (id' := 33) el22 (by decide) rfl (by decide) hc225 tm tm) (s2 rfl rfl) <| cp (oAs tm) (s1 rfl) <| .nil) (by kernel_rfl) ?_
                refine pBlkN ?_
                refine pSub (Γ' := [(0, .d ((kL (kI .i64)).sig a0)), (3, .v 33), (8, .d ((kL (kI .i64)).sig a0)), (9, .d ((kI .i64).sig (a0.length : Int))), (10, .d ((kI .i64).sig v170))]) ⟨rfl, rfl, rfl, rfl, rfl, trivial⟩ ?_
                refine pRen 33 1003 rfl ?_
                exact pJ1 _ (so h) ⟨rfl, rfl, rfl, rfl, rfl, trivial⟩ rfl
              · refine wBF hp224 tm (s1 rfl) ?_
                obtain ⟨o3, h, hk3⟩ := bd h
                refine wJ1 (fun x230 => x230 = o3) (fun x230 => [(0, .d ((kL (kI .i64)).sig a0)), (3, .v 1003), (5, .d ((kI .i64).sig y215)), (6, .d ((kI .i64).sig (v169.length : Int))), (8, .d ((kL (kI .i64)).sig a0)), (9, .d ((kI .i64).sig (a0.length : Int))), (10, .d ((kI .i64).sig v170)), (43, .d (kB.sig x230))]) (fun x230 => [.row 1003 3 (kI .i64) v169]) ?_ ?_
                · rcases ic h with ⟨hp231, h⟩ | ⟨hp231, h⟩
                  · obtain ⟨y232, hy232, h⟩ := bd h
                    refine rg (cp (oMv tm) (s1 rfl) <| cp (oEq rfl tm (cI (by decide))) (s1 rfl) <| cp (oMv tm) (s1 rfl) <| csB (decide_eq_true hp231) rfl rfl <| csB (decide_eq_true hp231) rfl rfl <| cp (oPkT (decide_eq_true hp231) tm cB) (s1 rfl) <| cp (oMv tm) (s1 rfl) <| cgB rfl rfl rfl (oMv tm) (s1 rfl) <| crgB rfl rfl rfl (oCallB rfl (reticentref04_two.ok hy232) (fK fB) b63 (rc1 (rR (n := 0) rfl) (rc1 (rD (cI (by decide))) rn0))) (s1 rfl) <| cp (oPkT rfl tm tm) (s2 rfl rfl) <| .nil) (by kernel_rfl) ?_
                    exact pJ1 _ (so h) ⟨rfl, rfl, rfl, rfl, rfl, rfl, rfl, rfl, trivial⟩ rfl
                  · rcases ic h with ⟨hp233, h⟩ | ⟨hp233, h⟩
                    · obtain ⟨y234, hy234, h⟩ := bd h
                      refine rg (cp (oMv tm) (s1 rfl) <| cp (oEq rfl tm (cI (by decide))) (s1 rfl) <| cp (oMv tm) (s1 rfl) <| cgB (decide_eq_false hp231) rfl rfl (oMv tm) (s1 rfl) <| cgB (decide_eq_false hp231) rfl rfl (oEq rfl tm (cI (by decide))) (s1 rfl) <| cp (oPkF (decide_eq_false hp231) tm tm) (s2 rfl rfl) <| cp (oMv tm) (s1 rfl) <| cgB (decide_eq_true hp233) rfl rfl (oMv tm) (s1 rfl) <| crgB (decide_eq_true hp233) rfl rfl (oCallB rfl (reticentref04_two.ok hy234) (fK fB) b63 (rc1 (rR (n := 0) rfl) (rc1 (rD (cI (by decide))) rn0))) (s1 rfl) <| cp (oPkT (decide_eq_true hp233) tm tm) (s2 rfl rfl) <| .nil) (by kernel_rfl) ?_
                      exact pJ1 _ (so h) ⟨rfl, rfl, rfl, rfl, rfl, rfl, rfl, rfl, trivial⟩ rfl
                    · refine rg (cp (oMv tm) (s1 rfl) <| cp (oEq rfl tm (cI (by decide))) (s1 rfl) <| cp (oMv tm) (s1 rfl) <| cgB (decide_eq_false hp231) rfl rfl (oMv tm) (s1 rfl) <| cgB (decide_eq_false hp231) rfl rfl (oEq rfl tm (cI (by decide))) (s1 rfl) <| cp (oPkF (decide_eq_false hp231) tm tm) (s2 rfl rfl) <| cp (oMv tm) (s1 rfl) <| csB (decide_eq_false hp233) rfl rfl <| csB (decide_eq_false hp233) rfl rfl <| cp (oPkF (decide_eq_false hp233) tm cB) (s1 rfl) <| .nil) (by kernel_rfl) ?_
                      exact pJ1 _ (so h) ⟨rfl, rfl, rfl, rfl, rfl, rfl, rfl, rfl, trivial⟩ rfl
                · rintro x230 rfl
                  replace h := hk3
                  rcases ic h with ⟨hp235, h⟩ | ⟨hp235, h⟩
                  · refine wBT hp235 tm (s1 rfl) ?_
                    obtain ⟨hc236, h⟩ := ib h
                    refine rg (cp (oMv tm) (s1 rfl) <| cp (oMv tm) (s1 rfl) <| cp (oSub tm (cI (by decide))) (s1 rfl) <| cw (oCutR (n := 0) (id' := 47) u22 z3 rfl hc236.1 hc236.2 tm tm) (s2 rfl rfl) <| cp (oAs tm) (s1 rfl) <| .nil) (by kernel_rfl) ?_
                    refine pBlkN ?_
                    refine pSub (Γ' := [(0, .d ((kL (kI .i64)).sig a0)), (3, .v 47), (8, .d ((kL (kI .i64)).sig a0)), (9, .d ((kI .i64).sig (a0.length : Int))), (10, .d ((kI .i64).sig v170))]) ⟨rfl, rfl, rfl, rfl, rfl, trivial⟩ ?_
                    refine pRen 47 1003 rfl ?_
                    exact pJ1 _ (so h) ⟨rfl, rfl, rfl, rfl, rfl, trivial⟩ rfl
                  · refine wBF hp235 tm (s1 rfl) ?_
                    obtain ⟨o3, h, hk3⟩ := bd h
                    refine wJ1 (fun x239 => x239 = o3) (fun x239 => [(0, .d ((kL (kI .i64)).sig a0)), (3, .v 1003), (5, .d ((kI .i64).sig y215)), (6, .d ((kI .i64).sig (v169.length : Int))), (8, .d ((kL (kI .i64)).sig a0)), (9, .d ((kI .i64).sig (a0.length : Int))), (10, .d ((kI .i64).sig v170)), (53, .d (kB.sig x239))]) (fun x239 => [.row 1003 3 (kI .i64) v169]) ?_ ?_
                    · rcases ic h with ⟨hp240, h⟩ | ⟨hp240, h⟩
                      · obtain ⟨y241, hy241, h⟩ := bd h
                        refine rg (cp (oMv tm) (s1 rfl) <| cp (oEq rfl tm (cI (by decide))) (s1 rfl) <| cp (oMv tm) (s1 rfl) <| cgB (decide_eq_true hp240) rfl rfl (oMv tm) (s1 rfl) <| crgB (decide_eq_true hp240) rfl rfl (oCallB rfl (reticentref04_two.ok hy241) (fK fB) b63 (rc1 (rR (n := 0) rfl) (rc1 (rD (cI (by decide))) rn0))) (s1 rfl) <| cp (oPkT (decide_eq_true hp240) tm tm) (s2 rfl rfl) <| .nil) (by kernel_rfl) ?_
                        exact pJ1 _ (so h) ⟨rfl, rfl, rfl, rfl, rfl, rfl, rfl, rfl, trivial⟩ rfl
                      · refine rg (cp (oMv tm) (s1 rfl) <| cp (oEq rfl tm (cI (by decide))) (s1 rfl) <| cp (oMv tm) (s1 rfl) <| csB (decide_eq_false hp240) rfl rfl <| csB (decide_eq_false hp240) rfl rfl <| cp (oPkF (decide_eq_false hp240) tm cB) (s1 rfl) <| .nil) (by kernel_rfl) ?_
                        exact pJ1 _ (so h) ⟨rfl, rfl, rfl, rfl, rfl, rfl, rfl, rfl, trivial⟩ rfl
                    · rintro x239 rfl
                      replace h := hk3
                      rcases ic h with ⟨hp242, h⟩ | ⟨hp242, h⟩
                      · refine wBT hp242 tm (s1 rfl) ?_
                        refine wSeq ?_
                        obtain ⟨hc243, h⟩ := ib h
                        refine rg (cp (oMv tm) (s1 rfl) <| cp (oMv tm) (s1 rfl) <| cp (oSub tm (cI (by decide))) (s1 rfl) <| cw (oCutR (n := 0) (id' := 57) u22 z3 rfl hc243.1 hc243.2 tm tm) (s2 rfl rfl) <| cp (oAs tm) (s1 rfl) <| .nil) (by kernel_rfl) ?_
                        refine pSeq ?_
                        obtain ⟨hc244, h⟩ := ib h
                        refine rg (cp (oMv tm) (s1 rfl) <| cp (oLit (d := (kI .i64)) el22 (by decide) rfl rfl rfl (e1 (cI (by decide)) e0)) trivial <| cw (oApp (n := 0) (id' := 60) el22 (by decide) rfl (by decide) hc244 tm tm) (s2 rfl rfl) <| cp (oAs tm) (s1 rfl) <| .nil) (by kernel_rfl) ?_
                        refine pBlkN ?_
                        refine pSub (Γ' := [(0, .d ((kL (kI .i64)).sig a0)), (3, .v 60), (8, .d ((kL (kI .i64)).sig a0)), (9, .d ((kI .i64).sig (a0.length : Int))), (10, .d ((kI .i64).sig v170))]) ⟨rfl, rfl, rfl, rfl, rfl, trivial⟩ ?_
                        refine pRen 60 1003 rfl ?_
                        exact pJ1 _ (so h) ⟨rfl, rfl, rfl, rfl, rfl, trivial⟩ rfl
                      · refine wBF hp242 tm (s1 rfl) ?_
                        obtain ⟨o3, h, hk3⟩ := bd h
                        refine wJ1 (fun x249 => x249 = o3) (fun x249 => [(0, .d ((kL (kI .i64)).sig a0)), (3, .v 1003), (6, .d ((kI .i64).sig (v169.length : Int))), (8, .d ((kL (kI .i64)).sig a0)), (9, .d ((kI .i64).sig (a0.length : Int))), (10, .d ((kI .i64).sig v170)), (70, .d (kB.sig x249))]) (fun x249 => [.row 1003 3 (kI .i64) v169]) ?_ ?_
                        · rcases ic h with ⟨hp250, h⟩ | ⟨hp250, h⟩
                          · obtain ⟨y251, hy251, h⟩ := bd h
                            refine rg (cp (oMv tm) (s1 rfl) <| cp (oEq rfl tm (cI (by decide))) (s1 rfl) <| cp (oMv tm) (s1 rfl) <| csB (decide_eq_true hp250) rfl rfl <| csB (decide_eq_true hp250) rfl rfl <| cp (oPkT (decide_eq_true hp250) tm cB) (s1 rfl) <| cp (oMv tm) (s1 rfl) <| cgB rfl rfl rfl (oMv tm) (s1 rfl) <| crgB rfl rfl rfl (oCallB rfl (reticentref04_two.ok hy251) (fK fB) b63 (rc1 (rR (n := 0) rfl) (rc1 (rD (cI (by decide))) rn0))) (s1 rfl) <| cp (oPkT rfl tm tm) (s2 rfl rfl) <| .nil) (by kernel_rfl) ?_
                            exact pJ1 _ (so h) ⟨rfl, rfl, rfl, rfl, rfl, rfl, rfl, trivial⟩ rfl
                          · rcases ic h with ⟨hp252, h⟩ | ⟨hp252, h⟩
                            · obtain ⟨y253, hy253, h⟩ := bd h
                              refine rg (cp (oMv tm) (s1 rfl) <| cp (oEq rfl tm (cI (by decide))) (s1 rfl) <| cp (oMv tm) (s1 rfl) <| cgB (decide_eq_false hp250) rfl rfl (oMv tm) (s1 rfl) <| cgB (decide_eq_false hp250) rfl rfl (oEq rfl tm (cI (by decide))) (s1 rfl) <| cp (oPkF (decide_eq_false hp250) tm tm) (s2 rfl rfl) <| cp (oMv tm) (s1 rfl) <| cgB (decide_eq_true hp252) rfl rfl (oMv tm) (s1 rfl) <| crgB (decide_eq_true hp252) rfl rfl (oCallB rfl (reticentref04_two.ok hy253) (fK fB) b63 (rc1 (rR (n := 0) rfl) (rc1 (rD (cI (by decide))) rn0))) (s1 rfl) <| cp (oPkT (decide_eq_true hp252) tm tm) (s2 rfl rfl) <| .nil) (by kernel_rfl) ?_
                              exact pJ1 _ (so h) ⟨rfl, rfl, rfl, rfl, rfl, rfl, rfl, trivial⟩ rfl
                            · refine rg (cp (oMv tm) (s1 rfl) <| cp (oEq rfl tm (cI (by decide))) (s1 rfl) <| cp (oMv tm) (s1 rfl) <| cgB (decide_eq_false hp250) rfl rfl (oMv tm) (s1 rfl) <| cgB (decide_eq_false hp250) rfl rfl (oEq rfl tm (cI (by decide))) (s1 rfl) <| cp (oPkF (decide_eq_false hp250) tm tm) (s2 rfl rfl) <| cp (oMv tm) (s1 rfl) <| csB (decide_eq_false hp252) rfl rfl <| csB (decide_eq_false hp252) rfl rfl <| cp (oPkF (decide_eq_false hp252) tm cB) (s1 rfl) <| .nil) (by kernel_rfl) ?_
                              exact pJ1 _ (so h) ⟨rfl, rfl, rfl, rfl, rfl, rfl, rfl, trivial⟩ rfl
                        · rintro x249 rfl
                          replace h := hk3
                          rcases ic h with ⟨hp254, h⟩ | ⟨hp254, h⟩
                          · refine wBT hp254 tm (s1 rfl) ?_
                            obtain ⟨hc255, h⟩ := ib h
                            refine rg (cp (oMv tm) (s1 rfl) <| cp (oMv tm) (s1 rfl) <| cp (oSub tm (cI (by decide))) (s1 rfl) <| cw (oCutR (n := 0) (id' := 74) u22 z3 rfl hc255.1 hc255.2 tm tm) (s2 rfl rfl) <| cp (oAs tm) (s1 rfl) <| .nil) (by kernel_rfl) ?_
                            refine pBlkN ?_
                            refine pSub (Γ' := [(0, .d ((kL (kI .i64)).sig a0)), (3, .v 74), (8, .d ((kL (kI .i64)).sig a0)), (9, .d ((kI .i64).sig (a0.length : Int))), (10, .d ((kI .i64).sig v170))]) ⟨rfl, rfl, rfl, rfl, rfl, trivial⟩ ?_
                            refine pRen 74 1003 rfl ?_
                            exact pJ1 _ (so h) ⟨rfl, rfl, rfl, rfl, rfl, trivial⟩ rfl
                          · refine wBF hp254 tm (s1 rfl) ?_
                            refine wSeq ?_
                            refine rg (cp (oAs (cI (by decide))) trivial <| .nil) (by kernel_rfl) ?_
                            refine pSeq ?_
                            refine wRet ?_
                            refine pBlkR ?_
                            refine pThenR ?_
                            obtain rfl := so h
                            replace h := hk2
                            refine pThenR ?_
                            refine pBlkR ?_
                            refine pThenR ?_
                            obtain rfl := so h
                            replace h := hk1
                            refine pThenR ?_
                            obtain rfl := so h
                            exact pR1 (.inl rfl) rfl (.tmp rfl <| .nil)
      · rintro x214 rfl
        replace h := hk2
        refine rg (cp (oAdd tm (cI (by decide))) (s1 rfl) <| cp (oMv tm) (s1 rfl) <| .nil) (by kernel_rfl) ?_
        exact pLoop (lW (ih _ _ h) ⟨rfl, rfl, rfl, rfl, rfl, trivial⟩ rfl)
    · refine wCF hp172 tm (s1 rfl) ?_
      refine wExit ?_
      refine pThenX ?_
      refine pThenX ?_
      refine pBlkX ?_
      exact pJ1 _ (so h) ⟨rfl, rfl, trivial⟩ rfl
  · rintro x171 rfl
    replace h := hk1
    refine pSeq ?_
    refine wSeq ?_
    obtain ⟨o1, h, hk1⟩ := bd h
    refine wJ1 (fun x257 => x257 = o1) (fun x257 => [(3, .v 1003), (83, .d (kB.sig x257))]) (fun x257 => [.row 1003 3 (kI .i64) x171]) ?_ ?_
    · rcases ic h with ⟨hp258, h⟩ | ⟨hp258, h⟩
      · refine rg (cp (oMv tm) (s1 rfl) <| cr (oLenR (n := 0) u22 rfl tm) (s1 rfl) <| cp (oNe rfl tm (cI (by decide))) (s1 rfl) <| cp (oMv tm) (s1 rfl) <| cgB (nf hp258) rfl rfl (oMv tm) (s1 rfl) <| cgB (nf hp258) rfl rfl (oLenL u22 tm) (s1 rfl) <| cgB (nf hp258) rfl rfl (oGt rfl tm (cI (by decide))) (s1 rfl) <| cp (oPkF (nf hp258) tm tm) (s2 rfl rfl) <| .nil) (by kernel_rfl) ?_
        exact pJ1 _ (so h) ⟨rfl, rfl, trivial⟩ rfl
      · refine rg (cp (oMv tm) (s1 rfl) <| cr (oLenR (n := 0) u22 rfl tm) (s1 rfl) <| cp (oNe rfl tm (cI (by decide))) (s1 rfl) <| cp (oMv tm) (s1 rfl) <| csB (nt hp258) rfl rfl <| csB (nt hp258) rfl rfl <| csB (nt hp258) rfl rfl <| cp (oPkT (nt hp258) tm cB) (s1 rfl) <| .nil) (by kernel_rfl) ?_
        exact pJ1 _ (so h) ⟨rfl, rfl, trivial⟩ rfl
    · rintro x257 rfl
      replace h := hk1
      rcases ic h with ⟨hp259, h⟩ | ⟨hp259, h⟩
      · refine wBT hp259 tm (s1 rfl) ?_
        refine wSeq ?_
        refine rg (cp (oAs (cI (by decide))) trivial <| .nil) (by kernel_rfl) ?_
        refine pSeq ?_
        refine wRet ?_
        refine pThenR ?_
        obtain rfl := so h
        exact pR1 (.inl rfl) rfl (.tmp rfl <| .nil)
      · refine wBF hp259 tm (s1 rfl) ?_
        refine wSkip ?_
        refine pSeq ?_
        refine wSeq ?_
        obtain ⟨y260, hy260, h⟩ := bd h
        refine rg (cp (oMv tm) (s1 rfl) <| cr (oIdxR (n := 0) u22 z3 rfl hy260 tm (cI (by decide))) (s1 rfl) <| cr (oLdE (n := 0) rfl hy260 rfl t3 tm) (s1 rfl) <| cp (oAs tm) (s1 rfl) <| .nil) (by kernel_rfl) ?_
        refine pSeq ?_
        refine wRet ?_
        obtain rfl := so h
        exact pR1 (.inl rfl) rfl (.tmp rfl <| .nil)

theorem reticentlaw05_alive.ok {r : Bool} (h : reticentlaw05_alive.f = some r) : FnA Try.prog 16 [] (kB.sig r) := by
  refine fnIntro Try.func16 rfl (by kernel_rfl) fun H0 w0 => ?_
  unfold reticentlaw05_alive.f at h
  refine wSeq ?_
  refine rg (cp (oAs cB) trivial <| .nil) (by kernel_rfl) ?_
  refine pSeq ?_
  refine wSeq ?_
  obtain ⟨y1, hy1, h⟩ := bd h
  refine rg (cp (oLit (d := (kI .i64)) el22 (by decide) rfl rfl rfl (e1 (cI (by decide)) (e1 (cI (by decide)) (e1 (cI (by decide)) (e1 (cI (by decide)) (e1 (cI (by decide)) (e1 (cI (by decide)) (e1 (cI (by decide)) e0)))))))) trivial <| cp (oCall rfl (show_Text.ok hy1) b14 (opds_cons tm opds_nil)) (s1 rfl) <| cp (oMv tm) (s1 rfl) <| cp (oExt (k := 0) rfl tm) (s1 rfl) <| cp (oExt (k := 1) rfl tm) (s1 rfl) <| cp (oAs tm) (s1 rfl) <| cp (oAs tm) (s1 rfl) <| .nil) (by kernel_rfl) ?_
  refine pSeq ?_
  obtain ⟨o1, h, hk1⟩ := bd h
  refine wJ1 (fun x3 => x3 = o1) (fun x3 => [(0, .d (kB.sig x3))]) (fun x3 => []) ?_ ?_
  · rcases ic h with ⟨hp4, h⟩ | ⟨hp4, h⟩
    · refine rg (cp (oMv tm) (s1 rfl) <| cp (oEq rfl tm (cI (by decide))) (s1 rfl) <| cp (oMv tm) (s1 rfl) <| cgB (decide_eq_true hp4) rfl rfl (oMv tm) (s1 rfl) <| cgB (decide_eq_true hp4) rfl rfl (oSEq rfl tm (cS (by decide))) (s1 rfl) <| cp (oPkT (decide_eq_true hp4) tm tm) (s2 rfl rfl) <| cp (oAs tm) (s1 rfl) <| .nil) (by kernel_rfl) ?_
      exact pJ1 _ (so h) ⟨rfl, trivial⟩ rfl
    · refine rg (cp (oMv tm) (s1 rfl) <| cp (oEq rfl tm (cI (by decide))) (s1 rfl) <| cp (oMv tm) (s1 rfl) <| csB (decide_eq_false hp4) rfl rfl <| csB (decide_eq_false hp4) rfl rfl <| cp (oPkF (decide_eq_false hp4) tm cB) (s1 rfl) <| cp (oAs tm) (s1 rfl) <| .nil) (by kernel_rfl) ?_
      exact pJ1 _ (so h) ⟨rfl, trivial⟩ rfl
  · rintro x3 rfl
    replace h := hk1
    refine wRet ?_
    obtain rfl := so h
    exact pR1 (.inl rfl) rfl (.tmp rfl <| .nil)

theorem reticentref05_two.ok {a0 : Int} {r : Bool} (h : reticentref05_two.f a0 = some r) : FnA Try.prog 91 [(kI .i64).sig a0] (kB.sig r) := by
  refine fnIntro Try.func91 rfl (by kernel_rfl) fun H0 w0 => ?_
  unfold reticentref05_two.f at h
  refine wSeq ?_
  refine rg (cp (oAs cB) trivial <| .nil) (by kernel_rfl) ?_
  refine pSeq ?_
  obtain ⟨o1, h, hk1⟩ := bd h
  refine wJ1 (fun x3 => x3 = o1) (fun x3 => [(2, .d (kB.sig x3))]) (fun x3 => []) ?_ ?_
  · rcases ic h with ⟨hp4, h⟩ | ⟨hp4, h⟩
    · rcases ic h with ⟨hp5, h⟩ | ⟨hp5, h⟩
      · refine rg (cp (oMv tm) (s1 rfl) <| cp (oGe rfl tm (cI (by decide))) (s1 rfl) <| cp (oMv tm) (s1 rfl) <| cgB (decide_eq_true hp4) rfl rfl (oMv tm) (s1 rfl) <| cgB (decide_eq_true hp4) rfl rfl (oLe rfl tm (cI (by decide))) (s1 rfl) <| cp (oPkT (decide_eq_true hp4) tm tm) (s2 rfl rfl) <| cp (oMv tm) (s1 rfl) <| csB (decide_eq_true hp5) rfl rfl <| csB (decide_eq_true hp5) rfl rfl <| cp (oPkT (decide_eq_true hp5) tm cB) (s1 rfl) <| cp (oAs tm) (s1 rfl) <| .nil) (by kernel_rfl) ?_
        exact pJ1 _ (so h) ⟨rfl, trivial⟩ rfl
      · refine rg (cp (oMv tm) (s1 rfl) <| cp (oGe rfl tm (cI (by decide))) (s1 rfl) <| cp (oMv tm) (s1 rfl) <| cgB (decide_eq_true hp4) rfl rfl (oMv tm) (s1 rfl) <| cgB (decide_eq_true hp4) rfl rfl (oLe rfl tm (cI (by decide))) (s1 rfl) <| cp (oPkT (decide_eq_true hp4) tm tm) (s2 rfl rfl) <| cp (oMv tm) (s1 rfl) <| cgB (decide_eq_false hp5) rfl rfl (oMv tm) (s1 rfl) <| cgB (decide_eq_false hp5) rfl rfl (oGe rfl tm (cI (by decide))) (s1 rfl) <| cp (oPkF (decide_eq_false hp5) tm tm) (s2 rfl rfl) <| cp (oAs tm) (s1 rfl) <| .nil) (by kernel_rfl) ?_
        exact pJ1 _ (so h) ⟨rfl, trivial⟩ rfl
    · refine rg (cp (oMv tm) (s1 rfl) <| cp (oGe rfl tm (cI (by decide))) (s1 rfl) <| cp (oMv tm) (s1 rfl) <| csB (decide_eq_false hp4) rfl rfl <| csB (decide_eq_false hp4) rfl rfl <| cp (oPkF (decide_eq_false hp4) tm cB) (s1 rfl) <| cp (oMv tm) (s1 rfl) <| cgB rfl rfl rfl (oMv tm) (s1 rfl) <| cgB rfl rfl rfl (oGe rfl tm (cI (by decide))) (s1 rfl) <| cp (oPkF rfl tm tm) (s2 rfl rfl) <| cp (oAs tm) (s1 rfl) <| .nil) (by kernel_rfl) ?_
      exact pJ1 _ (so h) ⟨rfl, trivial⟩ rfl
  · rintro x3 rfl
    replace h := hk1
    refine wRet ?_
    obtain rfl := so h
    exact pR1 (.inl rfl) rfl (.tmp rfl <| .nil)

theorem reticentref05_word.ok {a0 : Int} {r : Str} (h : reticentref05_word.f a0 = some r) : FnA Try.prog 92 [(kI .i64).sig a0] (kS.sig r) := by
  refine fnIntro Try.func92 rfl (by kernel_rfl) fun H0 w0 => ?_
  unfold reticentref05_word.f at h
  refine wSeq ?_
  refine rg (cp (oAs (cS (by decide))) trivial <| .nil) (by kernel_rfl) ?_
  refine pSeq ?_
  refine wSeq ?_
  obtain ⟨y1, hy1, h⟩ := bd h
  refine rg (cp (oLit (d := kS) el39 (by decide) rfl rfl rfl (e1 (cS (by decide)) (e1 (cS (by decide)) (e1 (cS (by decide)) (e1 (cS (by decide)) (e1 (cS (by decide)) (e1 (cS (by decide)) (e1 (cS (by decide)) (e1 (cS (by decide)) (e1 (cS (by decide)) (e1 (cS (by decide)) (e1 (cS (by decide)) (e1 (cS (by decide)) (e1 (cS (by decide)) (e1 (cS (by decide)) e0))))))))))))))) trivial <| cp (oMv tm) (s1 rfl) <| cp (oIdx u39 z9 hy1 tm tm) (s2 rfl rfl) <| cp (oLd t9 tm) (s1 rfl) <| cp (oAs tm) (s1 rfl) <| .nil) (by kernel_rfl) ?_
  refine pSeq ?_
  refine wRet ?_
  obtain rfl := so h
  exact pR1 (.inl rfl) rfl (.tmp rfl <| .nil)

theorem reticentref05_binds.ok {a0 : Int} {r : Int} (h : reticentref05_binds.f a0 = some r) : FnA Try.prog 94 [(kI .i64).sig a0] ((kI .i64).sig r) := by
  refine fnIntro Try.func94 rfl (by kernel_rfl) fun H0 w0 => ?_
  unfold reticentref05_binds.f at h
  refine wSeq ?_
  refine rg (cp (oAs (cI (by decide))) trivial <| .nil) (by kernel_rfl) ?_
  refine pSeq ?_
  refine wSeq ?_
  obtain ⟨o1, h, hk1⟩ := bd h
  refine wJ1 (fun x2 => x2 = o1) (fun x2 => [(0, .d ((kI .i64).sig a0)), (8, .d (kB.sig x2))]) (fun x2 => []) ?_ ?_
  · rcases ic h with ⟨hp3, h⟩ | ⟨hp3, h⟩
    · refine rg (cp (oMv tm) (s1 rfl) <| cp (oEq rfl tm (cI (by decide))) (s1 rfl) <| cp (oMv tm) (s1 rfl) <| csB (decide_eq_true hp3) rfl rfl <| csB (decide_eq_true hp3) rfl rfl <| cp (oPkT (decide_eq_true hp3) tm cB) (s1 rfl) <| .nil) (by kernel_rfl) ?_
      exact pJ1 _ (so h) ⟨rfl, rfl, trivial⟩ rfl
    · refine rg (cp (oMv tm) (s1 rfl) <| cp (oEq rfl tm (cI (by decide))) (s1 rfl) <| cp (oMv tm) (s1 rfl) <| cgB (decide_eq_false hp3) rfl rfl (oMv tm) (s1 rfl) <| cgB (decide_eq_false hp3) rfl rfl (oEq rfl tm (cI (by decide))) (s1 rfl) <| cp (oPkF (decide_eq_false hp3) tm tm) (s2 rfl rfl) <| .nil) (by kernel_rfl) ?_
      exact pJ1 _ (so h) ⟨rfl, rfl, trivial⟩ rfl
  · rintro x2 rfl
    replace h := hk1
    rcases ic h with ⟨hp4, h⟩ | ⟨hp4, h⟩
    · refine wBT hp4 tm (s1 rfl) ?_
      refine wSeq ?_
      refine rg (cp (oAs (cI (by decide))) trivial <| .nil) (by kernel_rfl) ?_
      refine pSeq ?_
      refine wRet ?_
      refine pThenR ?_
      obtain rfl := so h
      exact pR1 (.inl rfl) rfl (.tmp rfl <| .nil)
    · refine wBF hp4 tm (s1 rfl) ?_
      refine wSkip ?_
      refine pSeq ?_
      refine wSeq ?_
      obtain ⟨o1, h, hk1⟩ := bd h
      refine wJ1 (fun x6 => x6 = o1) (fun x6 => [(14, .d (kB.sig x6))]) (fun x6 => []) ?_ ?_
      · rcases ic h with ⟨hp7, h⟩ | ⟨hp7, h⟩
        · refine rg (cp (oMv tm) (s1 rfl) <| cp (oEq rfl tm (cI (by decide))) (s1 rfl) <| cp (oMv tm) (s1 rfl) <| csB (decide_eq_true hp7) rfl rfl <| csB (decide_eq_true hp7) rfl rfl <| cp (oPkT (decide_eq_true hp7) tm cB) (s1 rfl) <| .nil) (by kernel_rfl) ?_
          exact pJ1 _ (so h) ⟨rfl, trivial⟩ rfl
        · refine rg (cp (oMv tm) (s1 rfl) <| cp (oEq rfl tm (cI (by decide))) (s1 rfl) <| cp (oMv tm) (s1 rfl) <| cgB (decide_eq_false hp7) rfl rfl (oMv tm) (s1 rfl) <| cgB (decide_eq_false hp7) rfl rfl (oEq rfl tm (cI (by decide))) (s1 rfl) <| cp (oPkF (decide_eq_false hp7) tm tm) (s2 rfl rfl) <| .nil) (by kernel_rfl) ?_
          exact pJ1 _ (so h) ⟨rfl, trivial⟩ rfl
      · rintro x6 rfl
        replace h := hk1
        rcases ic h with ⟨hp8, h⟩ | ⟨hp8, h⟩
        · refine wBT hp8 tm (s1 rfl) ?_
          refine wSeq ?_
          refine rg (cp (oAs (cI (by decide))) trivial <| .nil) (by kernel_rfl) ?_
          refine pSeq ?_
          refine wRet ?_
          refine pThenR ?_
          obtain rfl := so h
          exact pR1 (.inl rfl) rfl (.tmp rfl <| .nil)
        · refine wBF hp8 tm (s1 rfl) ?_
          refine wSkip ?_
          refine pSeq ?_
          refine wSeq ?_
          refine rg (cp (oAs (cI (by decide))) trivial <| .nil) (by kernel_rfl) ?_
          refine pSeq ?_
          refine wRet ?_
          obtain rfl := so h
          exact pR1 (.inl rfl) rfl (.tmp rfl <| .nil)

theorem reticentref05_within.ok {a0 : reticentref05_T} {a1 : Int} {a2 : Int} {a3 : Int} {r : reticentref05_T} (h : reticentref05_within.f a0 a1 a2 a3 = some r) : FnA Try.prog 93 [(kR f_reticentref05_T).sig a0, (kI .i64).sig a1, (kI .i64).sig a2, (kI .i64).sig a3] ((kR f_reticentref05_T).sig r) := by
  refine fnIntro Try.func93 rfl (by kernel_rfl) fun H0 w0 => ?_
  unfold reticentref05_within.f at h
  refine wSeq ?_
  refine rg (cw (oBoxS (id := 4) (fs := f_reticentref05_T) tm) (s1 rfl) <| cw (oAlloc (id := 8) (ls := [.d kS [], .d (kI .i64) 0, .d (kI .i64) 0]) ze91 (fun g => ⟨[(.string ⟨⟨[]⟩⟩)], _, rfl, zS g.H, ⟨[(.int .i64 0)], _, rfl, zI_i64 g.H, ⟨[(.int .i64 0)], _, rfl, zI_i64 g.H, rfl⟩⟩⟩)) trivial <| .nil) (by kernel_rfl) ?_
  refine pSeq ?_
  refine wSeq ?_
  refine wSeq ?_
  obtain ⟨y1, hy1, h⟩ := bd h
  refine rg (cp (oMv tm) (s1 rfl) <| cp (oCall rfl (reticentref05_binds.ok hy1) b94 (opds_cons tm opds_nil)) (s1 rfl) <| cp (oMv tm) (s1 rfl) <| cp (oGe rfl tm tm) (s2 rfl rfl) <| .nil) (by kernel_rfl) ?_
  refine pSeq ?_
  rcases ic h with ⟨hp2, h⟩ | ⟨hp2, h⟩
  · refine wCT hp2 tm (s1 rfl) ?_
    refine wSeq ?_
    refine rg (cr (oLdA (n := 1) (fs := f_reticentref05_T) (u := ⟨a0.S, a0.Deep, a0.From⟩) rfl ⟨rfl, rfl, rfl, trivial⟩ t91 tm) (s1 rfl) <| cwn (oStA (n := 0) (fs := f_reticentref05_T) rfl rfl z91 tm tm) (s2 rfl rfl) <| .nil) (by kernel_rfl) ?_
    refine pSeq ?_
    refine wRet ?_
    refine pThenR ?_
    obtain rfl := so h
    exact pR1 (.inl rfl) rfl (.box (n := 0) (fs := f_reticentref05_T) (u := ⟨(⟨a0.S, a0.Deep, a0.From⟩ : reticentref05_T).S, (⟨a0.S, a0.Deep, a0.From⟩ : reticentref05_T).Deep, (⟨a0.S, a0.Deep, a0.From⟩ : reticentref05_T).From⟩) rfl rfl ⟨rfl, rfl, rfl, trivial⟩ t91 <| .nil)
  · refine wCF hp2 tm (s1 rfl) ?_
    refine wSkip ?_
    refine pSeq ?_
    refine wSeq ?_
    refine wSeq ?_
    refine rg (cp (oMv tm) (s1 rfl) <| cp (oGe rfl tm (cI (by decide))) (s1 rfl) <| .nil) (by kernel_rfl) ?_
    refine pSeq ?_
    rcases ic h with ⟨hp3, h⟩ | ⟨hp3, h⟩
    · refine wCT hp3 tm (s1 rfl) ?_
      obtain ⟨hc4, h⟩ := ib h
      obtain ⟨hc5, h⟩ := ib h
      refine rg (cp (oFldP o91_0 tm) (s1 rfl) <| cr (oLdB (n := 1) (k := 0) rfl rfl rfl t9 tm) (s1 rfl) <| cp (oSAdd hc4 (cS (by decide)) tm) (s1 rfl) <| cp (oSAdd hc5 tm (cS (by decide))) (s1 rfl) <| cp (oFldP o91_0 tm) (s1 rfl) <| cwn (oSt (n := 1) (k := 0) rfl rfl rfl rfl z9 tm tm) (s2 rfl rfl) <| .nil) (by kernel_rfl) ?_
      refine pSeq ?_
      refine wSeq ?_
      refine rg (cp (oFldP o91_1 tm) (s1 rfl) <| cr (oLdB (n := 1) (k := 1) rfl rfl rfl t3 tm) (s1 rfl) <| cp (oAdd tm (cI (by decide))) (s1 rfl) <| cp (oFldP o91_1 tm) (s1 rfl) <| cwn (oSt (n := 1) (k := 1) rfl rfl rfl rfl z3 tm tm) (s2 rfl rfl) <| .nil) (by kernel_rfl) ?_
      refine pSeq ?_
      refine wSeq ?_
      refine rg (cr (oLdA (n := 1) (fs := f_reticentref05_T) (u := ⟨(([91] : Str) ++ a0.S) ++ ([93] : Str), IntKind.i64.wrap (a0.Deep + 1), a0.From⟩) rfl ⟨rfl, rfl, rfl, trivial⟩ t91 tm) (s1 rfl) <| cwn (oStA (n := 0) (fs := f_reticentref05_T) rfl rfl z91 tm tm) (s2 rfl rfl) <| .nil) (by kernel_rfl) ?_
      refine pSeq ?_
      refine wRet ?_
      obtain rfl := so h
      exact pR1 (.inl rfl) rfl (.box (n := 0) (fs := f_reticentref05_T) (u := ⟨(⟨(([91] : Str) ++ a0.S) ++ ([93] : Str), IntKind.i64.wrap (a0.Deep + 1), a0.From⟩ : reticentref05_T).S, (⟨(([91] : Str) ++ a0.S) ++ ([93] : Str), IntKind.i64.wrap (a0.Deep + 1), a0.From⟩ : reticentref05_T).Deep, (⟨(([91] : Str) ++ a0.S) ++ ([93] : Str), IntKind.i64.wrap (a0.Deep + 1), a0.From⟩ : reticentref05_T).From⟩) rfl rfl ⟨rfl, rfl, rfl, trivial⟩ t91 <| .nil)
    · refine wCF hp3 tm (s1 rfl) ?_
      obtain ⟨hc6, h⟩ := ib h
      obtain ⟨hc7, h⟩ := ib h
      refine rg (cp (oFldP o91_0 tm) (s1 rfl) <| cr (oLdB (n := 1) (k := 0) rfl rfl rfl t9 tm) (s1 rfl) <| cp (oSAdd hc6 (cS (by decide)) tm) (s1 rfl) <| cp (oSAdd hc7 tm (cS (by decide))) (s1 rfl) <| cp (oFldP o91_0 tm) (s1 rfl) <| cwn (oSt (n := 1) (k := 0) rfl rfl rfl rfl z9 tm tm) (s2 rfl rfl) <| .nil) (by kernel_rfl) ?_
      refine pSeq ?_
      refine wSeq ?_
      refine rg (cp (oFldP o91_1 tm) (s1 rfl) <| cr (oLdB (n := 1) (k := 1) rfl rfl rfl t3 tm) (s1 rfl) <| cp (oAdd tm (cI (by decide))) (s1 rfl) <| cp (oFldP o91_1 tm) (s1 rfl) <| cwn (oSt (n := 1) (k := 1) rfl rfl rfl rfl z3 tm tm) (s2 rfl rfl) <| .nil) (by kernel_rfl) ?_
      refine pSeq ?_
      refine wSeq ?_
      refine rg (cr (oLdA (n := 1) (fs := f_reticentref05_T) (u := ⟨(([40] : Str) ++ a0.S) ++ ([41] : Str), IntKind.i64.wrap (a0.Deep + 1), a0.From⟩) rfl ⟨rfl, rfl, rfl, trivial⟩ t91 tm) (s1 rfl) <| cwn (oStA (n := 0) (fs := f_reticentref05_T) rfl rfl z91 tm tm) (s2 rfl rfl) <| .nil) (by kernel_rfl) ?_
      refine pSeq ?_
      refine wRet ?_
      obtain rfl := so h
      exact pR1 (.inl rfl) rfl (.box (n := 0) (fs := f_reticentref05_T) (u := ⟨(⟨(([40] : Str) ++ a0.S) ++ ([41] : Str), IntKind.i64.wrap (a0.Deep + 1), a0.From⟩ : reticentref05_T).S, (⟨(([40] : Str) ++ a0.S) ++ ([41] : Str), IntKind.i64.wrap (a0.Deep + 1), a0.From⟩ : reticentref05_T).Deep, (⟨(([40] : Str) ++ a0.S) ++ ([41] : Str), IntKind.i64.wrap (a0.Deep + 1), a0.From⟩ : reticentref05_T).From⟩) rfl rfl ⟨rfl, rfl, rfl, trivial⟩ t91 <| .nil)

theorem reticentref05_Thing.okB {rc : (List Int) → Int → Option reticentref05_T} (hrc : ∀ {a0 : List Int} {a1 : Int} {r : reticentref05_T}, rc a0 a1 = some r → FnA Try.prog 64 [(kL (kI .i64)).sig a0, (kI .i64).sig a1] ((kR f_reticentref05_T).sig r)) {a0 : List Int} {a1 : Int} {r : reticentref05_T} (h : reticentref05_Thing.B rc a0 a1 = some r) : FnA Try.prog 64 [(kL (kI .i64)).sig a0, (kI .i64).sig a1] ((kR f_reticentref05_T).sig r) := by
  refine fnIntro Try.func64 rfl (by kernel_rfl) fun H0 w0 => ?_
  unfold reticentref05_Thing.B at h
  refine wSeq ?_
  refine rg (cw (oAlloc (id := 4) (ls := [.d kS [], .d (kI .i64) 0, .d (kI .i64) 0]) ze91 (fun g => ⟨[(.string ⟨⟨[]⟩⟩)], _, rfl, zS g.H, ⟨[(.int .i64 0)], _, rfl, zI_i64 g.H, ⟨[(.int .i64 0)], _, rfl, zI_i64 g.H, rfl⟩⟩⟩)) trivial <| .nil) (by kernel_rfl) ?_
  refine pSeq ?_
  refine wSeq ?_
  obtain ⟨y1, hy1, h⟩ := bd h
  refine rg (cp (oMv tm) (s1 rfl) <| cp (oMv tm) (s1 rfl) <| cp (oIdx u22 z3 hy1 tm tm) (s2 rfl rfl) <| cp (oLd t3 tm) (s1 rfl) <| cp (oAs tm) (s1 rfl) <| .nil) (by kernel_rfl) ?_
  refine pSeq ?_
  refine wSeq ?_
  refine wSeq ?_
  obtain ⟨y2, hy2, h⟩ := bd h
  refine rg (cp (oMv tm) (s1 rfl) <| cp (oCall rfl (reticentref05_two.ok hy2) b91 (opds_cons tm opds_nil)) (s1 rfl) <| cp (oNot tm) (s1 rfl) <| .nil) (by kernel_rfl) ?_
  refine pSeq ?_
  rcases ic h with ⟨hp3, h⟩ | ⟨hp3, h⟩
  · refine wBT hp3 tm (s1 rfl) ?_
    refine wSeq ?_
    obtain ⟨y4, hy4, h⟩ := bd h
    refine rg (cp (oMv tm) (s1 rfl) <| cp (oCall rfl (reticentref05_word.ok hy4) b92 (opds_cons tm opds_nil)) (s1 rfl) <| cp (oMv tm) (s1 rfl) <| cp (oBuild (fs := f_reticentref05_T) (u := ⟨y4, 0, a1⟩) rfl ze91 pl91 po91 (.op (zc := [(.string ⟨⟨[]⟩⟩)]) tm rfl (.ze (zc := [(.int .i64 0)]) zI_i64 (.op (zc := [(.int .i64 0)]) tm rfl .nil)))) (s2 rfl rfl) <| cwn (oStA (n := 0) (fs := f_reticentref05_T) rfl rfl z91 tm tm) (s2 rfl rfl) <| .nil) (by kernel_rfl) ?_
    refine pSeq ?_
    refine wRet ?_
    refine pThenR ?_
    obtain rfl := so h
    exact pR1 (.inl rfl) rfl (.box (n := 0) (fs := f_reticentref05_T) (u := ⟨(⟨y4, 0, a1⟩ : reticentref05_T).S, (⟨y4, 0, a1⟩ : reticentref05_T).Deep, (⟨y4, 0, a1⟩ : reticentref05_T).From⟩) rfl rfl ⟨rfl, rfl, rfl, trivial⟩ t91 <| .nil)
  · refine wBF hp3 tm (s1 rfl) ?_
    refine wSkip ?_
    refine pSeq ?_
    refine wSeq ?_
    obtain ⟨y5, hy5, h⟩ := bd h
    refine rg (cp (oMv tm) (s1 rfl) <| cp (oMv tm) (s1 rfl) <| cp (oSub tm (cI (by decide))) (s1 rfl) <| cp (oCall rfl (hrc hy5) b64 (opds_cons tm (opds_cons tm opds_nil))) (s2 rfl rfl) <| cw (oAlloc (id := 6) (ls := [.d kS [], .d (kI .i64) 0, .d (kI .i64) 0]) ze91 (fun g => ⟨[(.string ⟨⟨[]⟩⟩)], _, rfl, zS g.H, ⟨[(.int .i64 0)], _, rfl, zI_i64 g.H, ⟨[(.int .i64 0)], _, rfl, zI_i64 g.H, rfl⟩⟩⟩)) trivial <| cwn (oStA (n := 0) (fs := f_reticentref05_T) rfl rfl z91 tm tm) (s2 rfl rfl) <| .nil) (by kernel_rfl) ?_
    refine pSeq ?_
    refine wSeq ?_
    refine rg (cp (oFldP o91_2 tm) (s1 rfl) <| cr (oLdB (n := 0) (k := 2) rfl rfl rfl t3 tm) (s1 rfl) <| cp (oSub tm (cI (by decide))) (s1 rfl) <| cp (oAs tm) (s1 rfl) <| .nil) (by kernel_rfl) ?_
    refine pSeq ?_
    refine wSeq ?_
    obtain ⟨y6, hy6, h⟩ := bd h
    refine rg (cp (oMv tm) (s1 rfl) <| cp (oMv tm) (s1 rfl) <| cp (oCall rfl (hrc hy6) b64 (opds_cons tm (opds_cons tm opds_nil))) (s2 rfl rfl) <| cw (oAlloc (id := 8) (ls := [.d kS [], .d (kI .i64) 0, .d (kI .i64) 0]) ze91 (fun g => ⟨[(.string ⟨⟨[]⟩⟩)], _, rfl, zS g.H, ⟨[(.int .i64 0)], _, rfl, zI_i64 g.H, ⟨[(.int .i64 0)], _, rfl, zI_i64 g.H, rfl⟩⟩⟩)) trivial <| cwn (oStA (n := 0) (fs := f_reticentref05_T) rfl rfl z91 tm tm) (s2 rfl rfl) <| .nil) (by kernel_rfl) ?_
    refine pSeq ?_
    refine wSeq ?_
    refine rg (cp (oFldP o91_2 tm) (s1 rfl) <| cr (oLdB (n := 0) (k := 2) rfl rfl rfl t3 tm) (s1 rfl) <| cp (oAs tm) (s1 rfl) <| .nil) (by kernel_rfl) ?_
    refine pSeq ?_
    refine wSeq ?_
    refine wSeq ?_
    refine rg (cp (oMv tm) (s1 rfl) <| cp (oNe rfl tm (cI (by decide))) (s1 rfl) <| .nil) (by kernel_rfl) ?_
    refine pSeq ?_
    rcases ic h with ⟨hp7, h⟩ | ⟨hp7, h⟩
    · refine wNT hp7 tm (s1 rfl) ?_
      refine wSkip ?_
      refine pSeq ?_
      refine wSeq ?_
      refine rg (cp (oFldP o91_1 tm) (s1 rfl) <| cr (oLdB (n := 0) (k := 1) rfl rfl rfl t3 tm) (s1 rfl) <| cp (oAs tm) (s1 rfl) <| .nil) (by kernel_rfl) ?_
      refine pSeq ?_
      refine wSeq ?_
      refine wSeq ?_
      refine rg (cp (oFldP o91_1 tm) (s1 rfl) <| cr (oLdB (n := 1) (k := 1) rfl rfl rfl t3 tm) (s1 rfl) <| cp (oMv tm) (s1 rfl) <| cp (oGt rfl tm tm) (s2 rfl rfl) <| .nil) (by kernel_rfl) ?_
      refine pSeq ?_
      rcases ic h with ⟨hp8, h⟩ | ⟨hp8, h⟩
      · refine wCT hp8 tm (s1 rfl) ?_
        refine rg (cp (oFldP o91_1 tm) (s1 rfl) <| cr (oLdB (n := 1) (k := 1) rfl rfl rfl t3 tm) (s1 rfl) <| cp (oAs tm) (s1 rfl) <| .nil) (by kernel_rfl) ?_
        refine pSeq ?_
        refine wSeq ?_
        obtain ⟨hc9, h⟩ := ib h
        obtain ⟨y10, hy10, h⟩ := bd h
        obtain ⟨hc11, h⟩ := ib h
        obtain ⟨hc12, h⟩ := ib h
        obtain ⟨hc13, h⟩ := ib h
        refine rgD hm (cp (oFldP o91_0 tm) (s1 rfl) <| cr (oLdB (n := 0) (k := 0) rfl rfl rfl t9 tm) (s1 rfl) <| cp (oSAdd hc9 tm (cS (by decide))) (s1 rfl) <| cp (oMv tm) (s1 rfl) <| cp (oCall rfl (reticentref05_word.ok hy10) b92 (opds_cons tm opds_nil)) (s1 rfl) <| cp (oSAdd hc11 tm tm) (s2 rfl rfl) <| cp (oSAdd hc12 tm (cS (by decide))) (s1 rfl) <| cp (oFldP o91_0 tm) (s1 rfl) <| cr (oLdB (n := 1) (k := 0) rfl rfl rfl t9 tm) (s1 rfl) <| cp (oSAdd hc13 tm tm) (s2 rfl rfl) <| cp (oMv tm) (s1 rfl) <| cp (oMv tm) (s1 rfl) <| cp (oBuild (fs := f_reticentref05_T) (u := ⟨(((y6.S ++ ([32] : Str)) ++ y10) ++ ([32] : Str)) ++ y5.S, y5.Deep, y6.From⟩) rfl ze91 pl91 po91 (.op (zc := [(.string ⟨⟨[]⟩⟩)]) tm rfl (.op (zc := [(.int .i64 0)]) tm rfl (.op (zc := [(.int .i64 0)]) tm rfl .nil)))) (s3 rfl rfl rfl) <| cwn (oStA (n := 2) (fs := f_reticentref05_T) rfl rfl z91 tm tm) (s2 rfl rfl) <| .nil) (by kernel_rfl) (by kernel_rfl) ?_
        refine pSeq ?_
        refine wRet ?_
        obtain rfl := so h
        exact pR1 (.inl rfl) rfl (.box (n := 2) (fs := f_reticentref05_T) (u := ⟨(⟨(((y6.S ++ ([32] : Str)) ++ y10) ++ ([32] : Str)) ++ y5.S, y5.Deep, y6.From⟩ : reticentref05_T).S, (⟨(((y6.S ++ ([32] : Str)) ++ y10) ++ ([32] : Str)) ++ y5.S, y5.Deep, y6.From⟩ : reticentref05_T).Deep, (⟨(((y6.S ++ ([32] : Str)) ++ y10) ++ ([32] : Str)) ++ y5.S, y5.Deep, y6.From⟩ : reticentref05_T).From⟩) rfl rfl ⟨rfl, rfl, rfl, trivial⟩ t91 <| .nil)
      · refine wCF hp8 tm (s1 rfl) ?_
        refine wSkip ?_
        refine pSeq ?_
        refine wSeq ?_
        obtain ⟨hc14, h⟩ := ib h
        obtain ⟨y15, hy15, h⟩ := bd h
        obtain ⟨hc16, h⟩ := ib h
        obtain ⟨hc17, h⟩ := ib h
        obtain ⟨hc18, h⟩ := ib h
        refine rgD hm (cp (oFldP o91_0 tm) (s1 rfl) <| cr (oLdB (n := 0) (k := 0) rfl rfl rfl t9 tm) (s1 rfl) <| cp (oSAdd hc14 tm (cS (by decide))) (s1 rfl) <| cp (oMv tm) (s1 rfl) <| cp (oCall rfl (reticentref05_word.ok hy15) b92 (opds_cons tm opds_nil)) (s1 rfl) <| cp (oSAdd hc16 tm tm) (s2 rfl rfl) <| cp (oSAdd hc17 tm (cS (by decide))) (s1 rfl) <| cp (oFldP o91_0 tm) (s1 rfl) <| cr (oLdB (n := 1) (k := 0) rfl rfl rfl t9 tm) (s1 rfl) <| cp (oSAdd hc18 tm tm) (s2 rfl rfl) <| cp (oMv tm) (s1 rfl) <| cp (oMv tm) (s1 rfl) <| cp (oBuild (fs := f_reticentref05_T) (u := ⟨(((y6.S ++ ([32] : Str)) ++ y15) ++ ([32] : Str)) ++ y5.S, y6.Deep, y6.From⟩) rfl ze91 pl91 po91 (.op (zc := [(.string ⟨⟨[]⟩⟩)]) tm rfl (.op (zc := [(.int .i64 0)]) tm rfl (.op (zc := [(.int .i64 0)]) tm rfl .nil)))) (s3 rfl rfl rfl) <| cwn (oStA (n := 2) (fs := f_reticentref05_T) rfl rfl z91 tm tm) (s2 rfl rfl) <| .nil) (by kernel_rfl) (by kernel_rfl) ?_
        refine pSeq ?_
        refine wRet ?_
        obtain rfl := so h
        exact pR1 (.inl rfl) rfl (.box (n := 2) (fs := f_reticentref05_T) (u := ⟨(⟨(((y6.S ++ ([32] : Str)) ++ y15) ++ ([32] : Str)) ++ y5.S, y6.Deep, y6.From⟩ : reticentref05_T).S, (⟨(((y6.S ++ ([32] : Str)) ++ y15) ++ ([32] : Str)) ++ y5.S, y6.Deep, y6.From⟩ : reticentref05_T).Deep, (⟨(((y6.S ++ ([32] : Str)) ++ y15) ++ ([32] : Str)) ++ y5.S, y6.Deep, y6.From⟩ : reticentref05_T).From⟩) rfl rfl ⟨rfl, rfl, rfl, trivial⟩ t91 <| .nil)
    · refine wNF hp7 tm (s1 rfl) ?_
      refine wSeq ?_
      obtain ⟨y19, hy19, h⟩ := bd h
      obtain ⟨y20, hy20, h⟩ := bd h
      obtain ⟨y21, hy21, h⟩ := bd h
      refine rgD hm (cr (oLdA (n := 0) (fs := f_reticentref05_T) (u := ⟨y6.S, y6.Deep, y6.From⟩) rfl ⟨rfl, rfl, rfl, trivial⟩ t91 tm) (s1 rfl) <| cp (oMv tm) (s1 rfl) <| cp (oMv tm) (s1 rfl) <| cp (oIdx u22 z3 hy19 tm tm) (s2 rfl rfl) <| cp (oLd t3 tm) (s1 rfl) <| cp (oMv tm) (s1 rfl) <| cp (oMv tm) (s1 rfl) <| cp (oCall rfl (reticentref05_binds.ok hy20) b94 (opds_cons tm opds_nil)) (s1 rfl) <| cp (oCall rfl (reticentref05_within.ok hy21) b93 (opds_cons tm (opds_cons tm (opds_cons tm (opds_cons tm opds_nil))))) ⟨rfl, rfl, rfl, rfl, trivial⟩ <| cwn (oStA (n := 0) (fs := f_reticentref05_T) rfl rfl z91 tm tm) (s2 rfl rfl) <| .nil) (by kernel_rfl) (by kernel_rfl) ?_
      refine pSeq ?_
      obtain ⟨y22, hy22, h⟩ := bd h
      obtain ⟨y23, hy23, h⟩ := bd h
      obtain ⟨y24, hy24, h⟩ := bd h
      refine rgD hm (cr (oLdA (n := 1) (fs := f_reticentref05_T) (u := ⟨y5.S, y5.Deep, y5.From⟩) rfl ⟨rfl, rfl, rfl, trivial⟩ t91 tm) (s1 rfl) <| cp (oMv tm) (s1 rfl) <| cp (oMv tm) (s1 rfl) <| cp (oSub tm (cI (by decide))) (s1 rfl) <| cp (oIdx u22 z3 hy22 tm tm) (s2 rfl rfl) <| cp (oLd t3 tm) (s1 rfl) <| cp (oMv tm) (s1 rfl) <| cp (oMv tm) (s1 rfl) <| cp (oCall rfl (reticentref05_binds.ok hy23) b94 (opds_cons tm opds_nil)) (s1 rfl) <| cp (oAdd tm (cI (by decide))) (s1 rfl) <| cp (oCall rfl (reticentref05_within.ok hy24) b93 (opds_cons tm (opds_cons tm (opds_cons tm (opds_cons tm opds_nil))))) ⟨rfl, rfl, rfl, rfl, trivial⟩ <| cwn (oStA (n := 1) (fs := f_reticentref05_T) rfl rfl z91 tm tm) (s2 rfl rfl) <| .nil) (by kernel_rfl) (by kernel_rfl) ?_
      refine pSeq ?_
      refine wSeq ?_
      refine rg (cp (oFldP o91_1 tm) (s1 rfl) <| cr (oLdB (n := 0) (k := 1) rfl rfl rfl t3 tm) (s1 rfl) <| cp (oAs tm) (s1 rfl) <| .nil) (by kernel_rfl) ?_
      refine pSeq ?_
      refine wSeq ?_
      refine wSeq ?_
      refine rg (cp (oFldP o91_1 tm) (s1 rfl) <| cr (oLdB (n := 1) (k := 1) rfl rfl rfl t3 tm) (s1 rfl) <| cp (oMv tm) (s1 rfl) <| cp (oGt rfl tm tm) (s2 rfl rfl) <| .nil) (by kernel_rfl) ?_
      refine pSeq ?_
      rcases ic h with ⟨hp25, h⟩ | ⟨hp25, h⟩
      · refine wCT hp25 tm (s1 rfl) ?_
        refine rg (cp (oFldP o91_1 tm) (s1 rfl) <| cr (oLdB (n := 1) (k := 1) rfl rfl rfl t3 tm) (s1 rfl) <| cp (oAs tm) (s1 rfl) <| .nil) (by kernel_rfl) ?_
        refine pSeq ?_
        refine wSeq ?_
        obtain ⟨hc26, h⟩ := ib h
        obtain ⟨y27, hy27, h⟩ := bd h
        obtain ⟨hc28, h⟩ := ib h
        obtain ⟨hc29, h⟩ := ib h
        obtain ⟨hc30, h⟩ := ib h
        refine rgD hm (cp (oFldP o91_0 tm) (s1 rfl) <| cr (oLdB (n := 0) (k := 0) rfl rfl rfl t9 tm) (s1 rfl) <| cp (oSAdd hc26 tm (cS (by decide))) (s1 rfl) <| cp (oMv tm) (s1 rfl) <| cp (oCall rfl (reticentref05_word.ok hy27) b92 (opds_cons tm opds_nil)) (s1 rfl) <| cp (oSAdd hc28 tm tm) (s2 rfl rfl) <| cp (oSAdd hc29 tm (cS (by decide))) (s1 rfl) <| cp (oFldP o91_0 tm) (s1 rfl) <| cr (oLdB (n := 1) (k := 0) rfl rfl rfl t9 tm) (s1 rfl) <| cp (oSAdd hc30 tm tm) (s2 rfl rfl) <| cp (oMv tm) (s1 rfl) <| cp (oMv tm) (s1 rfl) <| cp (oBuild (fs := f_reticentref05_T) (u := ⟨(((y21.S ++ ([32] : Str)) ++ y27) ++ ([32] : Str)) ++ y24.S, y24.Deep, y6.From⟩) rfl ze91 pl91 po91 (.op (zc := [(.string ⟨⟨[]⟩⟩)]) tm rfl (.op (zc := [(.int .i64 0)]) tm rfl (.op (zc := [(.int .i64 0)]) tm rfl .nil)))) (s3 rfl rfl rfl) <| cwn (oStA (n := 2) (fs := f_reticentref05_T) rfl rfl z91 tm tm) (s2 rfl rfl) <| .nil) (by kernel_rfl) (by kernel_rfl) ?_
        refine pSeq ?_
        refine wRet ?_
        obtain rfl := so h
        exact pR1 (.inl rfl) rfl (.box (n := 2) (fs := f_reticentref05_T) (u := ⟨(⟨(((y21.S ++ ([32] : Str)) ++ y27) ++ ([32] : Str)) ++ y24.S, y24.Deep, y6.From⟩ : reticentref05_T).S, (⟨(((y21.S ++ ([32] : Str)) ++ y27) ++ ([32] : Str)) ++ y24.S, y24.Deep, y6.From⟩ : reticentref05_T).Deep, (⟨(((y21.S ++ ([32] : Str)) ++ y27) ++ ([32] : Str)) ++ y24.S, y24.Deep, y6.From⟩ : reticentref05_T).From⟩) rfl rfl ⟨rfl, rfl, rfl, trivial⟩ t91 <| .nil)
      · refine wCF hp25 tm (s1 rfl) ?_
        refine wSkip ?_
        refine pSeq ?_
        refine wSeq ?_
        obtain ⟨hc31, h⟩ := ib h
        obtain ⟨y32, hy32, h⟩ := bd h
        obtain ⟨hc33, h⟩ := ib h
        obtain ⟨hc34, h⟩ := ib h
        obtain ⟨hc35, h⟩ := ib h
        refine rgD hm (cp (oFldP o91_0 tm) (s1 rfl) <| cr (oLdB (n := 0) (k := 0) rfl rfl rfl t9 tm) (s1 rfl) <| cp (oSAdd hc31 tm (cS (by decide))) (s1 rfl) <| cp (oMv tm) (s1 rfl) <| cp (oCall rfl (reticentref05_word.ok hy32) b92 (opds_cons tm opds_nil)) (s1 rfl) <| cp (oSAdd hc33 tm tm) (s2 rfl rfl) <| cp (oSAdd hc34 tm (cS (by decide))) (s1 rfl) <| cp (oFldP o91_0 tm) (s1 rfl) <| cr (oLdB (n := 1) (k := 0) rfl rfl rfl t9 tm) (s1 rfl) <| cp (oSAdd hc35 tm tm) (s2 rfl rfl) <| cp (oMv tm) (s1 rfl) <| cp (oMv tm) (s1 rfl) <| cp (oBuild (fs := f_reticentref05_T) (u := ⟨(((y21.S ++ ([32] : Str)) ++ y32) ++ ([32] : Str)) ++ y24.S, y21.Deep, y6.From⟩) rfl ze91 pl91 po91 (.op (zc := [(.string ⟨⟨[]⟩⟩)]) tm rfl (.op (zc := [(.int .i64 0)]) tm rfl (.op (zc := [(.int .i64 0)]) tm rfl .nil)))) (s3 rfl rfl rfl) <| cwn (oStA (n := 2) (fs := f_reticentref05_T) rfl rfl z91 tm tm) (s2 rfl rfl) <| .nil) (by kernel_rfl) (by kernel_rfl) ?_
        refine pSeq ?_
        refine wRet ?_
        obtain rfl := so h
        exact pR1 (.inl rfl) rfl (.box (n := 2) (fs := f_reticentref05_T) (u := ⟨(⟨(((y21.S ++ ([32] : Str)) ++ y32) ++ ([32] : Str)) ++ y24.S, y21.Deep, y6.From⟩ : reticentref05_T).S, (⟨(((y21.S ++ ([32] : Str)) ++ y32) ++ ([32] : Str)) ++ y24.S, y21.Deep, y6.From⟩ : reticentref05_T).Deep, (⟨(((y21.S ++ ([32] : Str)) ++ y32) ++ ([32] : Str)) ++ y24.S, y21.Deep, y6.From⟩ : reticentref05_T).From⟩) rfl rfl ⟨rfl, rfl, rfl, trivial⟩ t91 <| .nil)
theorem reticentref05_Thing.okF : ∀ (k : Nat) {a0 : List Int} {a1 : Int} {r : reticentref05_T}, reticentref05_Thing.F k a0 a1 = some r → FnA Try.prog 64 [(kL (kI .i64)).sig a0, (kI .i64).sig a1] ((kR f_reticentref05_T).sig r)
  | 0, _, _, _, h => by cases h
  | k + 1, _, _, _, h => reticentref05_Thing.okB (fun h => reticentref05_Thing.okF k h) h
theorem reticentref05_Thing.ok {a0 : List Int} {a1 : Int} {r : reticentref05_T} (h : reticentref05_Thing.f a0 a1 = some r) : FnA Try.prog 64 [(kL (kI .i64)).sig a0, (kI .i64).sig a1] ((kR f_reticentref05_T).sig r) := reticentref05_Thing.okF 1000 h

theorem reticentref05_Text.ok {a0 : List Int} {r : Str × Int} (h : reticentref05_Text.f a0 = some r) : FnA Try.prog 17 [(kL (kI .i64)).sig a0] (tup [kS.sig r.1, (kI .i64).sig r.2]) := by
  refine fnIntro Try.func17 rfl (by kernel_rfl) fun H0 w0 => ?_
  unfold reticentref05_Text.f at h
  refine wSeq ?_
  refine rg (cp (oAs (cS (by decide))) trivial <| cp (oAs (cI (by decide))) trivial <| .nil) (by kernel_rfl) ?_
  refine pSeq ?_
  refine wSeq ?_
  obtain ⟨y1, hy1, h⟩ := bd h
  refine rg (cp (oMv tm) (s1 rfl) <| cp (oMv tm) (s1 rfl) <| cp (oLenL u22 tm) (s1 rfl) <| cp (oSub tm (cI (by decide))) (s1 rfl) <| cp (oCall rfl (reticentref05_Thing.ok hy1) b64 (opds_cons tm (opds_cons tm opds_nil))) (s2 rfl rfl) <| cw (oAlloc (id := 4) (ls := [.d kS [], .d (kI .i64) 0, .d (kI .i64) 0]) ze91 (fun g => ⟨[(.string ⟨⟨[]⟩⟩)], _, rfl, zS g.H, ⟨[(.int .i64 0)], _, rfl, zI_i64 g.H, ⟨[(.int .i64 0)], _, rfl, zI_i64 g.H, rfl⟩⟩⟩)) trivial <| cwn (oStA (n := 0) (fs := f_reticentref05_T) rfl rfl z91 tm tm) (s2 rfl rfl) <| .nil) (by kernel_rfl) ?_
  refine pSeq ?_
  refine wSeq ?_
  refine wSeq ?_
  refine rg (cp (oFldP o91_1 tm) (s1 rfl) <| cr (oLdB (n := 0) (k := 1) rfl rfl rfl t3 tm) (s1 rfl) <| cp (oGt rfl tm (cI (by decide))) (s1 rfl) <| .nil) (by kernel_rfl) ?_
  refine pSeq ?_
  rcases ic h with ⟨hp2, h⟩ | ⟨hp2, h⟩
  · refine wCT hp2 tm (s1 rfl) ?_
    refine wSeq ?_
    refine rg (cp (oAs (cS (by decide))) trivial <| cp (oAs (cI (by decide))) trivial <| .nil) (by kernel_rfl) ?_
    refine pSeq ?_
    refine wRet ?_
    refine pThenR ?_
    obtain rfl := so h
    exact pRn (.inl rfl) rfl rfl (.tmp rfl <| .tmp rfl <| .nil)
  · refine wCF hp2 tm (s1 rfl) ?_
    refine wSkip ?_
    refine pSeq ?_
    refine wSeq ?_
    refine rg (cp (oFldP o91_0 tm) (s1 rfl) <| cr (oLdB (n := 0) (k := 0) rfl rfl rfl t9 tm) (s1 rfl) <| cp (oAs tm) (s1 rfl) <| cp (oAs (cI (by decide))) trivial <| .nil) (by kernel_rfl) ?_
    refine pSeq ?_
    refine wRet ?_
    obtain rfl := so h
    exact pRn (.inl rfl) rfl rfl (.tmp rfl <| .tmp rfl <| .nil)

theorem reticentlaw05_ShowTexts.ok {a0 : List Int} {r : Bool} (h : reticentlaw05_ShowTexts.f a0 = some r) : FnA Try.prog 3 [(kL (kI .i64)).sig a0] (kB.sig r) := by
  refine fnIntro Try.func3 rfl (by kernel_rfl) fun H0 w0 => ?_
  unfold reticentlaw05_ShowTexts.f at h
  refine wSeq ?_
  refine rg (cp (oAs cB) trivial <| .nil) (by kernel_rfl) ?_
  refine pSeq ?_
  refine wSeq ?_
  obtain ⟨hc1, h⟩ := ib h
  refine rg (cp (oMv tm) (s1 rfl) <| cp (oMv tm) (s1 rfl) <| cp (oLenL u22 tm) (s1 rfl) <| cp (oMin tm (cI (by decide))) (s1 rfl) <| cp (oCutHi u22 z3 hc1.1 hc1.2 tm tm) (s2 rfl rfl) <| cp (oAs tm) (s1 rfl) <| .nil) (by kernel_rfl) ?_
  refine pSeq ?_
  refine wSeq ?_
  obtain ⟨y2, hy2, h⟩ := bd h
  refine rg (cp (oMv tm) (s1 rfl) <| cp (oCall rfl (show_Text.ok hy2) b14 (opds_cons tm opds_nil)) (s1 rfl) <| cp (oMv tm) (s1 rfl) <| cp (oExt (k := 0) rfl tm) (s1 rfl) <| cp (oExt (k := 1) rfl tm) (s1 rfl) <| cp (oAs tm) (s1 rfl) <| cp (oAs tm) (s1 rfl) <| .nil) (by kernel_rfl) ?_
  refine pSeq ?_
  refine wSeq ?_
  refine wSeq ?_
  obtain ⟨y3, hy3, h⟩ := bd h
  refine rg (cp (oMv tm) (s1 rfl) <| cp (oCall rfl (reticentref04_Made.ok hy3) b15 (opds_cons tm opds_nil)) (s1 rfl) <| cp (oEq rfl tm (cI (by decide))) (s1 rfl) <| .nil) (by kernel_rfl) ?_
  refine pSeq ?_
  rcases ic h with ⟨hp4, h⟩ | ⟨hp4, h⟩
  · refine wCT hp4 tm (s1 rfl) ?_
    obtain ⟨o1, h, hk1⟩ := bd h
    refine wJ1 (fun x8 => x8 = o1) (fun x8 => [(2, .d (kB.sig x8))]) (fun x8 => []) ?_ ?_
    · obtain ⟨y9, hy9, h⟩ := bd h
      rcases ic h with ⟨hp10, h⟩ | ⟨hp10, h⟩
      · rcases ic h with ⟨hp11, h⟩ | ⟨hp11, h⟩
        · refine rg (cp (oCall rfl (reticentlaw05_alive.ok hy9) b16 opds_nil) trivial <| cp (oMv tm) (s1 rfl) <| cgB hp10 rfl rfl (oMv tm) (s1 rfl) <| cgB hp10 rfl rfl (oEq rfl tm (cI (by decide))) (s1 rfl) <| cp (oPkT hp10 tm tm) (s2 rfl rfl) <| cp (oMv tm) (s1 rfl) <| cgB (decide_eq_true hp11) rfl rfl (oMv tm) (s1 rfl) <| cgB (decide_eq_true hp11) rfl rfl (oSEq rfl tm (cS (by decide))) (s1 rfl) <| cp (oPkT (decide_eq_true hp11) tm tm) (s2 rfl rfl) <| cp (oAs tm) (s1 rfl) <| .nil) (by kernel_rfl) ?_
          exact pJ1 _ (so h) ⟨rfl, trivial⟩ rfl
        · refine rg (cp (oCall rfl (reticentlaw05_alive.ok hy9) b16 opds_nil) trivial <| cp (oMv tm) (s1 rfl) <| cgB hp10 rfl rfl (oMv tm) (s1 rfl) <| cgB hp10 rfl rfl (oEq rfl tm (cI (by decide))) (s1 rfl) <| cp (oPkT hp10 tm tm) (s2 rfl rfl) <| cp (oMv tm) (s1 rfl) <| csB (decide_eq_false hp11) rfl rfl <| csB (decide_eq_false hp11) rfl rfl <| cp (oPkF (decide_eq_false hp11) tm cB) (s1 rfl) <| cp (oAs tm) (s1 rfl) <| .nil) (by kernel_rfl) ?_
          exact pJ1 _ (so h) ⟨rfl, trivial⟩ rfl
      · refine rg (cp (oCall rfl (reticentlaw05_alive.ok hy9) b16 opds_nil) trivial <| cp (oMv tm) (s1 rfl) <| csB (nb hp10) rfl rfl <| csB (nb hp10) rfl rfl <| cp (oPkF (nb hp10) tm cB) (s1 rfl) <| cp (oMv tm) (s1 rfl) <| csB rfl rfl rfl <| csB rfl rfl rfl <| cp (oPkF rfl tm cB) (s1 rfl) <| cp (oAs tm) (s1 rfl) <| .nil) (by kernel_rfl) ?_
        exact pJ1 _ (so h) ⟨rfl, trivial⟩ rfl
    · rintro x8 rfl
      replace h := hk1
      refine wRet ?_
      refine pThenR ?_
      obtain rfl := so h
      exact pR1 (.inl rfl) rfl (.tmp rfl <| .nil)
  · refine wCF hp4 tm (s1 rfl) ?_
    refine wSkip ?_
    refine pSeq ?_
    refine wSeq ?_
    obtain ⟨y12, hy12, h⟩ := bd h
    refine rg (cp (oMv tm) (s1 rfl) <| cp (oCall rfl (reticentref05_Text.ok hy12) b17 (opds_cons tm opds_nil)) (s1 rfl) <| cp (oMv tm) (s1 rfl) <| cp (oExt (k := 0) rfl tm) (s1 rfl) <| cp (oExt (k := 1) rfl tm) (s1 rfl) <| cp (oAs tm) (s1 rfl) <| cp (oAs tm) (s1 rfl) <| .nil) (by kernel_rfl) ?_
    refine pSeq ?_
    obtain ⟨o1, h, hk1⟩ := bd h
    refine wJ1 (fun x16 => x16 = o1) (fun x16 => [(2, .d (kB.sig x16))]) (fun x16 => []) ?_ ?_
    · obtain ⟨y17, hy17, h⟩ := bd h
      rcases ic h with ⟨hp18, h⟩ | ⟨hp18, h⟩
      · rcases ic h with ⟨hp19, h⟩ | ⟨hp19, h⟩
        · refine rg (cp (oCall rfl (reticentlaw05_alive.ok hy17) b16 opds_nil) trivial <| cp (oMv tm) (s1 rfl) <| cgB hp18 rfl rfl (oMv tm) (s1 rfl) <| cgB hp18 rfl rfl (oMv tm) (s1 rfl) <| cgB hp18 rfl rfl (oEq rfl tm tm) (s2 rfl rfl) <| cp (oPkT hp18 tm tm) (s2 rfl rfl) <| cp (oMv tm) (s1 rfl) <| cgB (decide_eq_true hp19) rfl rfl (oMv tm) (s1 rfl) <| cgB (decide_eq_true hp19) rfl rfl (oMv tm) (s1 rfl) <| cgB (decide_eq_true hp19) rfl rfl (oSEq rfl tm tm) (s2 rfl rfl) <| cp (oPkT (decide_eq_true hp19) tm tm) (s2 rfl rfl) <| cp (oAs tm) (s1 rfl) <| .nil) (by kernel_rfl) ?_
          exact pJ1 _ (so h) ⟨rfl, trivial⟩ rfl
        · refine rg (cp (oCall rfl (reticentlaw05_alive.ok hy17) b16 opds_nil) trivial <| cp (oMv tm) (s1 rfl) <| cgB hp18 rfl rfl (oMv tm) (s1 rfl) <| cgB hp18 rfl rfl (oMv tm) (s1 rfl) <| cgB hp18 rfl rfl (oEq rfl tm tm) (s2 rfl rfl) <| cp (oPkT hp18 tm tm) (s2 rfl rfl) <| cp (oMv tm) (s1 rfl) <| csB (decide_eq_false hp19) rfl rfl <| csB (decide_eq_false hp19) rfl rfl <| csB (decide_eq_false hp19) rfl rfl <| cp (oPkF (decide_eq_false hp19) tm cB) (s1 rfl) <| cp (oAs tm) (s1 rfl) <| .nil) (by kernel_rfl) ?_
          exact pJ1 _ (so h) ⟨rfl, trivial⟩ rfl
      · refine rg (cp (oCall rfl (reticentlaw05_alive.ok hy17) b16 opds_nil) trivial <| cp (oMv tm) (s1 rfl) <| csB (nb hp18) rfl rfl <| csB (nb hp18) rfl rfl <| csB (nb hp18) rfl rfl <| cp (oPkF (nb hp18) tm cB) (s1 rfl) <| cp (oMv tm) (s1 rfl) <| csB rfl rfl rfl <| csB rfl rfl rfl <| csB rfl rfl rfl <| cp (oPkF rfl tm cB) (s1 rfl) <| cp (oAs tm) (s1 rfl) <| .nil) (by kernel_rfl) ?_
        exact pJ1 _ (so h) ⟨rfl, trivial⟩ rfl
    · rintro x16 rfl
      replace h := hk1
      refine wRet ?_
      obtain rfl := so h
      exact pR1 (.inl rfl) rfl (.tmp rfl <| .nil)

end Go.Proofs.Ythpmbokenhpakaa.LB
