import Derived.Test.YthpmbokenhpakaaShelf
import Derived.Test.YthpmbokenhpakaaDLF
import Derived.Test.YthpmbokenhpakaaProg
set_option linter.unusedVariables false
set_option maxRecDepth 10000
namespace Go.Proofs.Ythpmbokenhpakaa.LF
open Go Go.Proofs.Ythpmbokenhpakaa.Ab

theorem hm : Try.prog.follows .mixedOrders = true := by kernel_rfl
theorem ze148 : zeroIs Try.prog 148 [(.slice none 0 0)] := by unfold zeroIs; kernel_rfl
theorem t148 : tinf Try.prog 148 = some (false, 1) := by kernel_rfl
theorem u148 : Try.prog.underlying 148 = some (.slice 107) := by kernel_rfl
theorem z107 : sizeIs Try.prog 107 1 := by unfold sizeIs; kernel_rfl
theorem t107 : tinf Try.prog 107 = some (false, 1) := by kernel_rfl
theorem u107 : Try.prog.underlying 107 = some (.bool) := by kernel_rfl
theorem z148 : sizeIs Try.prog 148 1 := by unfold sizeIs; kernel_rfl
theorem u22 : Try.prog.underlying 22 = some (.slice 3) := by kernel_rfl
theorem z3 : sizeIs Try.prog 3 1 := by unfold sizeIs; kernel_rfl
theorem t3 : tinf Try.prog 3 = some (false, 1) := by kernel_rfl
theorem el148 : ElTy Try.prog 148 107 1 1 := ⟨by kernel_rfl, by kernel_rfl⟩
theorem b112 : bodied Try.prog 112 := by unfold bodied; kernel_rfl
theorem b85 : bodied Try.prog 85 := by unfold bodied; kernel_rfl
theorem u4 : Try.prog.underlying 4 = some (.bool) := by kernel_rfl
theorem el22 : ElTy Try.prog 22 3 1 8 := ⟨by kernel_rfl, by kernel_rfl⟩
theorem b63 : bodied Try.prog 63 := by unfold bodied; kernel_rfl
theorem b15 : bodied Try.prog 15 := by unfold bodied; kernel_rfl
theorem u9 : Try.prog.underlying 9 = some (.string) := by kernel_rfl
theorem b133 : bodied Try.prog 133 := by unfold bodied; kernel_rfl
theorem b118 : bodied Try.prog 118 := by unfold bodied; kernel_rfl
theorem b117 : bodied Try.prog 117 := by unfold bodied; kernel_rfl
theorem b119 : bodied Try.prog 119 := by unfold bodied; kernel_rfl
theorem b120 : bodied Try.prog 120 := by unfold bodied; kernel_rfl
theorem b121 : bodied Try.prog 121 := by unfold bodied; kernel_rfl
theorem b122 : bodied Try.prog 122 := by unfold bodied; kernel_rfl
theorem b90 : bodied Try.prog 90 := by unfold bodied; kernel_rfl
theorem pl36 : places Try.prog 36 = some [(0, 1), (1, 1), (2, 1)] := by kernel_rfl
theorem po36 : ∀ q f, f_api_Tok[q]? = some f → ([(0, 1), (1, 1), (2, 1)] : List (Nat × Nat))[q]? = some (offF f_api_Tok q, f.d.sz) := fun q f h => by
  unfold f_api_Tok at h
  match q, h with
  | 0, h => cases h; rfl
  | 1, h => cases h; rfl
  | 2, h => cases h; rfl
  | n + 3, h => simp at h
theorem ze36 : zeroIs Try.prog 36 [(.int .i64 0), (.string ⟨⟨[]⟩⟩), (.int .i64 0)] := by unfold zeroIs; kernel_rfl
theorem el34 : ElTy Try.prog 34 36 3 32 := ⟨by kernel_rfl, by kernel_rfl⟩
theorem zS : ∀ H, kS.reps H [.string ⟨⟨[]⟩⟩] [] := fun _ => ⟨rfl, by decide⟩
theorem zI_i64 : ∀ H, (kI .i64).reps H [.int .i64 0] 0 := fun _ => ⟨rfl, by decide⟩
theorem u34 : Try.prog.underlying 34 = some (.slice 36) := by kernel_rfl
theorem u169 : Try.prog.underlying 169 = some (.map 9 3) := by kernel_rfl
theorem mk9 : MKey Try.prog 9 .string kS := keyS u9
theorem o106_1 : fofs Try.prog 106 1 = some 1 := by kernel_rfl
theorem o106_0 : fofs Try.prog 106 0 = some 0 := by kernel_rfl
theorem t34 : tinf Try.prog 34 = some (false, 1) := by kernel_rfl
theorem o106_4 : fofs Try.prog 106 4 = some 4 := by kernel_rfl
theorem t23 : tinf Try.prog 23 = some (false, 1) := by kernel_rfl
theorem z23 : sizeIs Try.prog 23 1 := by unfold sizeIs; kernel_rfl
theorem o106_2 : fofs Try.prog 106 2 = some 2 := by kernel_rfl
theorem t22 : tinf Try.prog 22 = some (false, 1) := by kernel_rfl
theorem b140 : bodied Try.prog 140 := by unfold bodied; kernel_rfl
theorem z22 : sizeIs Try.prog 22 1 := by unfold sizeIs; kernel_rfl
theorem u39 : Try.prog.underlying 39 = some (.slice 9) := by kernel_rfl
theorem z9 : sizeIs Try.prog 9 1 := by unfold sizeIs; kernel_rfl
theorem t9 : tinf Try.prog 9 = some (false, 1) := by kernel_rfl
theorem b128 : bodied Try.prog 128 := by unfold bodied; kernel_rfl
theorem z36 : sizeIs Try.prog 36 3 := by unfold sizeIs; kernel_rfl
theorem t36 : tinf Try.prog 36 = some (true, 3) := by kernel_rfl
theorem o36_0 : fofs Try.prog 36 0 = some 0 := by kernel_rfl
theorem o36_1 : fofs Try.prog 36 1 = some 1 := by kernel_rfl
theorem b107 : bodied Try.prog 107 := by unfold bodied; kernel_rfl
theorem el39 : ElTy Try.prog 39 9 1 16 := ⟨by kernel_rfl, by kernel_rfl⟩
theorem b138 : bodied Try.prog 138 := by unfold bodied; kernel_rfl
theorem b139 : bodied Try.prog 139 := by unfold bodied; kernel_rfl
theorem pl106 : places Try.prog 106 = some [(0, 1), (1, 1), (2, 1), (3, 1), (4, 1)] := by kernel_rfl
theorem po106_2 : ∀ q f, f_rule_parser_n2[q]? = some f → ([(0, 1), (1, 1), (2, 1), (3, 1), (4, 1)] : List (Nat × Nat))[q]? = some (offF f_rule_parser_n2 q, f.d.sz) := fun q f h => by
  unfold f_rule_parser_n2 at h
  match q, h with
  | 0, h => cases h; rfl
  | 1, h => cases h; rfl
  | 2, h => cases h; rfl
  | 3, h => cases h; rfl
  | 4, h => cases h; rfl
  | n + 5, h => simp at h
theorem ze106 : zeroIs Try.prog 106 [(.slice none 0 0), (.int .i64 0), (.slice none 0 0), (.int .i64 0), (.int .i64 0)] := by unfold zeroIs; kernel_rfl
theorem b141 : bodied Try.prog 141 := by unfold bodied; kernel_rfl
theorem zv3 : zeroV Try.prog 3 (.int .i64 0) := by unfold zeroV; kernel_rfl
theorem b130 : bodied Try.prog 130 := by unfold bodied; kernel_rfl
theorem o106_3 : fofs Try.prog 106 3 = some 3 := by kernel_rfl
theorem b83 : bodied Try.prog 83 := by unfold bodied; kernel_rfl
theorem b129 : bodied Try.prog 129 := by unfold bodied; kernel_rfl
theorem b142 : bodied Try.prog 142 := by unfold bodied; kernel_rfl
theorem b131 : bodied Try.prog 131 := by unfold bodied; kernel_rfl
theorem b109 : bodied Try.prog 109 := by unfold bodied; kernel_rfl
theorem b110 : bodied Try.prog 110 := by unfold bodied; kernel_rfl
theorem b84 : bodied Try.prog 84 := by unfold bodied; kernel_rfl
theorem b132 : bodied Try.prog 132 := by unfold bodied; kernel_rfl
theorem b111 : bodied Try.prog 111 := by unfold bodied; kernel_rfl
theorem b57 : bodied Try.prog 57 := by unfold bodied; kernel_rfl
theorem b45 : bodied Try.prog 45 := by unfold bodied; kernel_rfl
theorem b21 : bodied Try.prog 21 := by unfold bodied; kernel_rfl
theorem b86 : bodied Try.prog 86 := by unfold bodied; kernel_rfl
theorem b48 : bodied Try.prog 48 := by unfold bodied; kernel_rfl
theorem b47 : bodied Try.prog 47 := by unfold bodied; kernel_rfl
theorem b49 : bodied Try.prog 49 := by unfold bodied; kernel_rfl
theorem b46 : bodied Try.prog 46 := by unfold bodied; kernel_rfl
theorem b50 : bodied Try.prog 50 := by unfold bodied; kernel_rfl
theorem b44 : bodied Try.prog 44 := by unfold bodied; kernel_rfl
theorem o81_0 : fofs Try.prog 81 0 = some 0 := by kernel_rfl
theorem t79 : tinf Try.prog 79 = some (false, 1) := by kernel_rfl
theorem t86 : tinf Try.prog 86 = some (true, 3) := by kernel_rfl
theorem el79 : ElTy Try.prog 79 86 3 32 := ⟨by kernel_rfl, by kernel_rfl⟩
theorem z79 : sizeIs Try.prog 79 1 := by unfold sizeIs; kernel_rfl
theorem ze86 : zeroIs Try.prog 86 [(.string ⟨⟨[]⟩⟩), (.int .i64 0), (.int .i64 0)] := by unfold zeroIs; kernel_rfl
theorem u79 : Try.prog.underlying 79 = some (.slice 86) := by kernel_rfl
theorem z86 : sizeIs Try.prog 86 3 := by unfold sizeIs; kernel_rfl
theorem o86_1 : fofs Try.prog 86 1 = some 1 := by kernel_rfl
theorem o86_0 : fofs Try.prog 86 0 = some 0 := by kernel_rfl
theorem o86_2 : fofs Try.prog 86 2 = some 2 := by kernel_rfl
theorem pl86 : places Try.prog 86 = some [(0, 1), (1, 1), (2, 1)] := by kernel_rfl
theorem po86 : ∀ q f, f_show_piece[q]? = some f → ([(0, 1), (1, 1), (2, 1)] : List (Nat × Nat))[q]? = some (offF f_show_piece q, f.d.sz) := fun q f h => by
  unfold f_show_piece at h
  match q, h with
  | 0, h => cases h; rfl
  | 1, h => cases h; rfl
  | 2, h => cases h; rfl
  | n + 3, h => simp at h
theorem ze81 : zeroIs Try.prog 81 [(.slice none 0 0)] := by unfold zeroIs; kernel_rfl
theorem b59 : bodied Try.prog 59 := by unfold bodied; kernel_rfl
theorem b60 : bodied Try.prog 60 := by unfold bodied; kernel_rfl
theorem b61 : bodied Try.prog 61 := by unfold bodied; kernel_rfl
theorem b62 : bodied Try.prog 62 := by unfold bodied; kernel_rfl
theorem b14 : bodied Try.prog 14 := by unfold bodied; kernel_rfl
theorem b16 : bodied Try.prog 16 := by unfold bodied; kernel_rfl

theorem rule_made_1.ok {a0 : Bool} {a1 : List Bool} {r : (List Bool) × Bool} (h : rule_made_1.f a0 a1 = some r) : FnS Try.prog 112 [.d (kB.sig a0), .p 70100 0] [.box 70100 148 [.v 70101], .row 70101 107 kB a1] [70100] (.d (kB.sig r.2)) [.box 70100 148 [.v 70101], .row 70101 107 kB r.1] := by
  refine fnIntroS Try.func112 rfl (by kernel_rfl) fun X H0 w0 pv => ?_
  unfold rule_made_1.f at h
  refine wSeq ?_
  refine rg (cp (oAs cB) trivial <| .nil) (by kernel_rfl) ?_
  refine pSeq ?_
  refine wSeq ?_
  refine rg (cr (oLdN (n := 0) (k := 0) rfl rfl rfl t148 tm) (s1 rfl) <| cr (oLenR (n := 1) u148 rfl tm) (s1 rfl) <| cp (oSub tm (cI (by decide))) (s1 rfl) <| cp (oAs tm) (s1 rfl) <| .nil) (by kernel_rfl) ?_
  refine pSeq ?_
  refine wSeq ?_
  refine wWeak (Γ' := [(0, .d (kB.sig a0)), (1, .p 70100 0), (4, .d ((kI .i64).sig (IntKind.i64.wrap ((a1.length : Int) - 1))))]) ⟨rfl, rfl, rfl, trivial⟩ ?_
  refine wRen 70101 3510000 rfl ?_
  obtain ⟨o1, h, hk1⟩ := bd h
  refine wJ1 (fun x5 => x5 = o1) (fun x5 => [(1, .p 70100 0), (4, .d ((kI .i64).sig (IntKind.i64.wrap ((a1.length : Int) - 1)))), (26, .d (kB.sig x5))]) (fun x5 => [.box 70100 148 [.v 3510000], .row 3510000 107 kB a1]) ?_ ?_
  · rcases ic h with ⟨hp6, h⟩ | ⟨hp6, h⟩
    · refine rg (cp (oMv tm) (s1 rfl) <| cp (oLt rfl tm (cI (by decide))) (s1 rfl) <| cp (oMv tm) (s1 rfl) <| csB (decide_eq_true hp6) rfl rfl <| csB (decide_eq_true hp6) rfl rfl <| csB (decide_eq_true hp6) rfl rfl <| csB (decide_eq_true hp6) rfl rfl <| csB (decide_eq_true hp6) rfl rfl <| csB (decide_eq_true hp6) rfl rfl <| cp (oPkT (decide_eq_true hp6) tm cB) (s1 rfl) <| cp (oMv tm) (s1 rfl) <| csB rfl rfl rfl <| csB rfl rfl rfl <| csB rfl rfl rfl <| csB rfl rfl rfl <| csB rfl rfl rfl <| csB rfl rfl rfl <| csB rfl rfl rfl <| cp (oPkT rfl tm cB) (s1 rfl) <| .nil) (by kernel_rfl) ?_
      exact pJ1 _ (so h) ⟨rfl, rfl, rfl, trivial⟩ rfl
    · obtain ⟨y7, hy7, h⟩ := bd h
      rcases ic h with ⟨hp8, h⟩ | ⟨hp8, h⟩
      · obtain ⟨y9, hy9, h⟩ := bd h
        refine rg (cp (oMv tm) (s1 rfl) <| cp (oLt rfl tm (cI (by decide))) (s1 rfl) <| cp (oMv tm) (s1 rfl) <| crgB (decide_eq_false hp6) rfl rfl (oLdN (n := 0) (k := 0) rfl rfl rfl t148 tm) (s1 rfl) <| cgB (decide_eq_false hp6) rfl rfl (oMv tm) (s1 rfl) <| crgB (decide_eq_false hp6) rfl rfl (oIdxR (n := 1) u148 z107 rfl hy7 tm tm) (s2 rfl rfl) <| crgB (decide_eq_false hp6) rfl rfl (oLdE (n := 1) rfl hy7 rfl t107 tm) (s1 rfl) <| cgB (decide_eq_false hp6) rfl rfl (oMv tm) (s1 rfl) <| cgB (decide_eq_false hp6) rfl rfl (oBNe u107 rfl tm tm) (s2 rfl rfl) <| cp (oPkF (decide_eq_false hp6) tm tm) (s2 rfl rfl) <| cp (oMv tm) (s1 rfl) <| crgB (nf hp8) rfl rfl (oLdN (n := 0) (k := 0) rfl rfl rfl t148 tm) (s1 rfl) <| cgB (nf hp8) rfl rfl (oMv tm) (s1 rfl) <| cgB (nf hp8) rfl rfl (oSub tm (cI (by decide))) (s1 rfl) <| crgB (nf hp8) rfl rfl (oIdxR (n := 1) u148 z107 rfl hy9 tm tm) (s2 rfl rfl) <| crgB (nf hp8) rfl rfl (oLdE (n := 1) rfl hy9 rfl t107 tm) (s1 rfl) <| cgB (nf hp8) rfl rfl (oMv tm) (s1 rfl) <| cgB (nf hp8) rfl rfl (oBNe u107 rfl tm tm) (s2 rfl rfl) <| cp (oPkF (nf hp8) tm tm) (s2 rfl rfl) <| .nil) (by kernel_rfl) ?_
        exact pJ1 _ (so h) ⟨rfl, rfl, rfl, trivial⟩ rfl
      · refine rg (cp (oMv tm) (s1 rfl) <| cp (oLt rfl tm (cI (by decide))) (s1 rfl) <| cp (oMv tm) (s1 rfl) <| crgB (decide_eq_false hp6) rfl rfl (oLdN (n := 0) (k := 0) rfl rfl rfl t148 tm) (s1 rfl) <| cgB (decide_eq_false hp6) rfl rfl (oMv tm) (s1 rfl) <| crgB (decide_eq_false hp6) rfl rfl (oIdxR (n := 1) u148 z107 rfl hy7 tm tm) (s2 rfl rfl) <| crgB (decide_eq_false hp6) rfl rfl (oLdE (n := 1) rfl hy7 rfl t107 tm) (s1 rfl) <| cgB (decide_eq_false hp6) rfl rfl (oMv tm) (s1 rfl) <| cgB (decide_eq_false hp6) rfl rfl (oBNe u107 rfl tm tm) (s2 rfl rfl) <| cp (oPkF (decide_eq_false hp6) tm tm) (s2 rfl rfl) <| cp (oMv tm) (s1 rfl) <| csB (nt hp8) rfl rfl <| csB (nt hp8) rfl rfl <| csB (nt hp8) rfl rfl <| csB (nt hp8) rfl rfl <| csB (nt hp8) rfl rfl <| csB (nt hp8) rfl rfl <| csB (nt hp8) rfl rfl <| cp (oPkT (nt hp8) tm cB) (s1 rfl) <| .nil) (by kernel_rfl) ?_
        exact pJ1 _ (so h) ⟨rfl, rfl, rfl, trivial⟩ rfl
  · rintro x5 rfl
    replace h := hk1
    rcases ic h with ⟨hp10, h⟩ | ⟨hp10, h⟩
    · refine wBT hp10 tm (s1 rfl) ?_
      refine wSeq ?_
      refine rg (cp (oAs cB) trivial <| .nil) (by kernel_rfl) ?_
      refine pSeq ?_
      refine wRet ?_
      refine pThenR ?_
      obtain rfl := so h
      refine pSub (Γ' := [(3, .d (kB.sig false))]) ⟨rfl, trivial⟩ ?_
      refine pRen 3510000 70101 rfl ?_
      exact pS1 [0, 1] rfl rfl (.inl rfl) rfl (.tmp rfl <| .nil)
    · refine wBF hp10 tm (s1 rfl) ?_
      refine wSkip ?_
      refine pSeq ?_
      refine wSeq ?_
      obtain ⟨hc11, h⟩ := ib h
      refine rg (cr (oLdN (n := 0) (k := 0) rfl rfl rfl t148 tm) (s1 rfl) <| cp (oMv tm) (s1 rfl) <| cp (oSub tm (cI (by decide))) (s1 rfl) <| cw (oCutR (n := 1) (id' := 30) u148 z107 rfl hc11.1 hc11.2 tm tm) (s2 rfl rfl) <| cwn (oStN (n := 0) (m := 1) (k := 0) rfl rfl rfl rfl z148 rfl tm tm) (s2 rfl rfl) <| .nil) (by kernel_rfl) ?_
      refine pSeq ?_
      refine wSeq ?_
      refine rg (cp (oAs cB) trivial <| .nil) (by kernel_rfl) ?_
      refine pSeq ?_
      refine wRet ?_
      obtain rfl := so h
      refine pSub (Γ' := [(3, .d (kB.sig true))]) ⟨rfl, trivial⟩ ?_
      refine pRen 30 70101 rfl ?_
      exact pS1 [0, 1] rfl rfl (.inl rfl) rfl (.tmp rfl <| .nil)

theorem rule_made.ok {a0 : List Int} {r : Bool × Bool} (h : rule_made.f a0 = some r) : FnA Try.prog 85 [(kL (kI .i64)).sig a0] (tup [kB.sig r.1, kB.sig r.2]) := by
  refine fnIntro Try.func85 rfl (by kernel_rfl) fun H0 w0 => ?_
  unfold rule_made.f at h
  refine wSeq ?_
  refine rg (cp (oAs cB) trivial <| cp (oAs cB) trivial <| .nil) (by kernel_rfl) ?_
  refine pSeq ?_
  refine wSeq ?_
  refine rg (cw (oAlloc (id := 4) (ls := [.d (kN Bool) []]) ze148 (fun g => ⟨[(.slice none 0 0)], _, rfl, zN g.H, rfl⟩)) trivial <| .nil) (by kernel_rfl) ?_
  refine pSeq ?_
  refine wSeq ?_
  refine rg (cp (oMkN (ids := [4]) (caps := [none]) rfl (oNp tm oN0)) (s1 rfl) <| cp (oAs tm) (s1 rfl) <| .nil) (by kernel_rfl) ?_
  refine pSeq ?_
  refine wSeq ?_
  refine wSeq ?_
  refine rg (cp (oMv tm) (s1 rfl) <| cp (oLenL u22 tm) (s1 rfl) <| cp (oMv (cI (by decide))) trivial <| .nil) (by kernel_rfl) ?_
  refine pSeq ?_
  refine wNilL kB 107 5200 (n := 0) (k := 0) rfl rfl rfl ?_
  obtain ⟨o1, h, hk1⟩ := bd h
  refine wK1 (fun x271 => .inr x271 = o1) (fun x271 => [(0, .d ((kL (kI .i64)).sig a0)), (4, .p 4 0)]) (fun x271 => [.row 5200 107 kB x271, .box 4 148 [.v 5200]]) ?_ ?_
  · refine wBlock (wLoop ?_)
    refine lW (pc2 o1 (fun v269 v270 => [(0, .d ((kL (kI .i64)).sig a0)), (4, .p 4 0), (5, .f [4] (sCloN 112 [none])), (10, .d ((kL (kI .i64)).sig a0)), (11, .d ((kI .i64).sig (a0.length : Int))), (12, .d ((kI .i64).sig v270))]) (fun v269 v270 => [.row 5200 107 kB v269, .box 4 148 [.v 5200]]) (rule_made.l0.partial_correctness a0) ?_ _ _ h) ⟨rfl, rfl, rfl, rfl, rfl, rfl, trivial⟩ rfl
    clear h
    intro f' ih v269 v270 h
    refine wSeq ?_
    refine rg (cp (oLt rfl tm tm) (s2 rfl rfl) <| .nil) (by kernel_rfl) ?_
    refine pSeq ?_
    refine wSeq ?_
    rcases ic h with ⟨hp272, h⟩ | ⟨hp272, h⟩
    · refine wCT hp272 tm (s1 rfl) ?_
      refine wSkip ?_
      refine pSeq ?_
      obtain ⟨o2, h, hk2⟩ := bd h
      refine wJ1 (fun x339 => .inr x339 = o2) (fun x339 => [(0, .d ((kL (kI .i64)).sig a0)), (4, .p 4 0), (5, .f [4] (sCloN 112 [none])), (10, .d ((kL (kI .i64)).sig a0)), (11, .d ((kI .i64).sig (a0.length : Int))), (12, .d ((kI .i64).sig v270))]) (fun x339 => [.row 5200 107 kB x339, .box 4 148 [.v 5200]]) ?_ ?_
      · refine wBlock ?_
        refine wSeq ?_
        obtain ⟨y340, hy340, h⟩ := bd h
        refine rg (cp (oIdx u22 z3 hy340 tm tm) (s2 rfl rfl) <| cp (oLd t3 tm) (s1 rfl) <| cp (oAs tm) (s1 rfl) <| .nil) (by kernel_rfl) ?_
        refine pSeq ?_
        refine wSeq ?_
        refine rg (cp (oAs cB) trivial <| .nil) (by kernel_rfl) ?_
        refine pSeq ?_
        refine wSeq ?_
        refine wSeq ?_
        refine rg (cp (oMv tm) (s1 rfl) <| .nil) (by kernel_rfl) ?_
        refine pSeq ?_
        obtain ⟨o3, h, hk3⟩ := bd h
        refine wK2 (fun x372 x373 => (x372, x373) = o3) (fun x372 x373 => [(0, .d ((kL (kI .i64)).sig a0)), (4, .p 4 0), (5, .f [4] (sCloN 112 [none])), (8, .d (kB.sig x373)), (10, .d ((kL (kI .i64)).sig a0)), (11, .d ((kI .i64).sig (a0.length : Int))), (12, .d ((kI .i64).sig v270))]) (fun x372 x373 => [.row 5200 107 kB x372, .box 4 148 [.v 5200]]) ?_ ?_
        · refine wBlock ?_
          refine wSeq ?_
          refine wSeq ?_
          refine rg (cp (oEq rfl tm (cI (by decide))) (s1 rfl) <| cp (oAs tm) (s1 rfl) <| .nil) (by kernel_rfl) ?_
          refine pSeq ?_
          rcases ic h with ⟨hp374, h⟩ | ⟨hp374, h⟩
          · refine wCT hp374 tm (s1 rfl) ?_
            refine wSkip ?_
            refine pSeq ?_
            refine wCT hp374 tm (s1 rfl) ?_
            obtain ⟨hc375, h⟩ := ib h
            refine rg (cr (oLdN (n := 1) (k := 0) rfl rfl rfl t148 tm) (s1 rfl) <| cp (oLit (d := kB) el148 (by decide) rfl rfl rfl (e1 cB e0)) trivial <| cw (oApp (n := 0) (id' := 22) el148 (by decide) rfl (by decide) hc375 tm tm) (s2 rfl rfl) <| cwn (oStN (n := 1) (m := 0) (k := 0) rfl rfl rfl rfl z148 rfl tm tm) (s2 rfl rfl) <| .nil) (by kernel_rfl) ?_
            refine pBlkN ?_
            refine pSub (Γ' := [(0, .d ((kL (kI .i64)).sig a0)), (4, .p 4 0), (5, .f [4] (sCloN 112 [none])), (8, .d (kB.sig true)), (10, .d ((kL (kI .i64)).sig a0)), (11, .d ((kI .i64).sig (a0.length : Int))), (12, .d ((kI .i64).sig v270))]) ⟨rfl, rfl, rfl, rfl, rfl, rfl, rfl, trivial⟩ ?_
            refine pRen 22 5200 rfl ?_
            exact pJ2 _ _ (so h) ⟨rfl, rfl, rfl, rfl, rfl, rfl, rfl, trivial⟩ rfl
          · refine wCF hp374 tm (s1 rfl) ?_
            refine rg (cp (oEq rfl tm (cI (by decide))) (s1 rfl) <| cp (oAs tm) (s1 rfl) <| .nil) (by kernel_rfl) ?_
            refine pSeq ?_
            rcases ic h with ⟨hp376, h⟩ | ⟨hp376, h⟩
            · refine wCT hp376 tm (s1 rfl) ?_
              obtain ⟨hc377, h⟩ := ib h
              refine rg (cr (oLdN (n := 1) (k := 0) rfl rfl rfl t148 tm) (s1 rfl) <| cp (oLit (d := kB) el148 (by decide) rfl rfl rfl (e1 cB e0)) trivial <| cw (oApp (n := 0) (id' := 22) el148 (by decide) rfl (by decide) hc377 tm tm) (s2 rfl rfl) <| cwn (oStN (n := 1) (m := 0) (k := 0) rfl rfl rfl rfl z148 rfl tm tm) (s2 rfl rfl) <| .nil) (by kernel_rfl) ?_
              refine pBlkN ?_
              refine pSub (Γ' := [(0, .d ((kL (kI .i64)).sig a0)), (4, .p 4 0), (5, .f [4] (sCloN 112 [none])), (8, .d (kB.sig true)), (10, .d ((kL (kI .i64)).sig a0)), (11, .d ((kI .i64).sig (a0.length : Int))), (12, .d ((kI .i64).sig v270))]) ⟨rfl, rfl, rfl, rfl, rfl, rfl, rfl, trivial⟩ ?_
              refine pRen 22 5200 rfl ?_
              exact pJ2 _ _ (so h) ⟨rfl, rfl, rfl, rfl, rfl, rfl, rfl, trivial⟩ rfl
            · refine wCF hp376 tm (s1 rfl) ?_
              refine wSeq ?_
              refine wSeq ?_
              refine rg (cp (oEq rfl tm (cI (by decide))) (s1 rfl) <| cp (oAs tm) (s1 rfl) <| .nil) (by kernel_rfl) ?_
              refine pSeq ?_
              rcases ic h with ⟨hp378, h⟩ | ⟨hp378, h⟩
              · refine wCT hp378 tm (s1 rfl) ?_
                refine wSkip ?_
                refine pSeq ?_
                refine wCT hp378 tm (s1 rfl) ?_
                obtain ⟨hc379, h⟩ := ib h
                refine rg (cr (oLdN (n := 1) (k := 0) rfl rfl rfl t148 tm) (s1 rfl) <| cp (oLit (d := kB) el148 (by decide) rfl rfl rfl (e1 cB e0)) trivial <| cw (oApp (n := 0) (id' := 32) el148 (by decide) rfl (by decide) hc379 tm tm) (s2 rfl rfl) <| cwn (oStN (n := 1) (m := 0) (k := 0) rfl rfl rfl rfl z148 rfl tm tm) (s2 rfl rfl) <| .nil) (by kernel_rfl) ?_
                refine pBlkN ?_
                refine pSub (Γ' := [(0, .d ((kL (kI .i64)).sig a0)), (4, .p 4 0), (5, .f [4] (sCloN 112 [none])), (8, .d (kB.sig true)), (10, .d ((kL (kI .i64)).sig a0)), (11, .d ((kI .i64).sig (a0.length : Int))), (12, .d ((kI .i64).sig v270))]) ⟨rfl, rfl, rfl, rfl, rfl, rfl, rfl, trivial⟩ ?_
                refine pRen 32 5200 rfl ?_
                exact pJ2 _ _ (so h) ⟨rfl, rfl, rfl, rfl, rfl, rfl, rfl, trivial⟩ rfl
              · refine wCF hp378 tm (s1 rfl) ?_
                refine wSeq ?_
                refine rg (cp (oEq rfl tm (cI (by decide))) (s1 rfl) <| cp (oAs tm) (s1 rfl) <| .nil) (by kernel_rfl) ?_
                refine pSeq ?_
                rcases ic h with ⟨hp380, h⟩ | ⟨hp380, h⟩
                · refine wCT hp380 tm (s1 rfl) ?_
                  refine wSkip ?_
                  refine pSeq ?_
                  refine wCT hp380 tm (s1 rfl) ?_
                  obtain ⟨hc381, h⟩ := ib h
                  refine rg (cr (oLdN (n := 1) (k := 0) rfl rfl rfl t148 tm) (s1 rfl) <| cp (oLit (d := kB) el148 (by decide) rfl rfl rfl (e1 cB e0)) trivial <| cw (oApp (n := 0) (id' := 32) el148 (by decide) rfl (by decide) hc381 tm tm) (s2 rfl rfl) <| cwn (oStN (n := 1) (m := 0) (k := 0) rfl rfl rfl rfl z148 rfl tm tm) (s2 rfl rfl) <| .nil) (by kernel_rfl) ?_
                  refine pBlkN ?_
                  refine pSub (Γ' := [(0, .d ((kL (kI .i64)).sig a0)), (4, .p 4 0), (5, .f [4] (sCloN 112 [none])), (8, .d (kB.sig true)), (10, .d ((kL (kI .i64)).sig a0)), (11, .d ((kI .i64).sig (a0.length : Int))), (12, .d ((kI .i64).sig v270))]) ⟨rfl, rfl, rfl, rfl, rfl, rfl, rfl, trivial⟩ ?_
                  refine pRen 32 5200 rfl ?_
                  exact pJ2 _ _ (so h) ⟨rfl, rfl, rfl, rfl, rfl, rfl, rfl, trivial⟩ rfl
                · refine wCF hp380 tm (s1 rfl) ?_
                  refine wSeq ?_
                  refine rg (cp (oEq rfl tm (cI (by decide))) (s1 rfl) <| cp (oAs tm) (s1 rfl) <| .nil) (by kernel_rfl) ?_
                  refine pSeq ?_
                  rcases ic h with ⟨hp382, h⟩ | ⟨hp382, h⟩
                  · refine wCT hp382 tm (s1 rfl) ?_
                    refine wSkip ?_
                    refine pSeq ?_
                    refine wCT hp382 tm (s1 rfl) ?_
                    obtain ⟨hc383, h⟩ := ib h
                    refine rg (cr (oLdN (n := 1) (k := 0) rfl rfl rfl t148 tm) (s1 rfl) <| cp (oLit (d := kB) el148 (by decide) rfl rfl rfl (e1 cB e0)) trivial <| cw (oApp (n := 0) (id' := 32) el148 (by decide) rfl (by decide) hc383 tm tm) (s2 rfl rfl) <| cwn (oStN (n := 1) (m := 0) (k := 0) rfl rfl rfl rfl z148 rfl tm tm) (s2 rfl rfl) <| .nil) (by kernel_rfl) ?_
                    refine pBlkN ?_
                    refine pSub (Γ' := [(0, .d ((kL (kI .i64)).sig a0)), (4, .p 4 0), (5, .f [4] (sCloN 112 [none])), (8, .d (kB.sig true)), (10, .d ((kL (kI .i64)).sig a0)), (11, .d ((kI .i64).sig (a0.length : Int))), (12, .d ((kI .i64).sig v270))]) ⟨rfl, rfl, rfl, rfl, rfl, rfl, rfl, trivial⟩ ?_
                    refine pRen 32 5200 rfl ?_
                    exact pJ2 _ _ (so h) ⟨rfl, rfl, rfl, rfl, rfl, rfl, rfl, trivial⟩ rfl
                  · refine wCF hp382 tm (s1 rfl) ?_
                    refine wSeq ?_
                    refine rg (cp (oEq rfl tm (cI (by decide))) (s1 rfl) <| cp (oAs tm) (s1 rfl) <| .nil) (by kernel_rfl) ?_
                    refine pSeq ?_
                    rcases ic h with ⟨hp384, h⟩ | ⟨hp384, h⟩
                    · refine wCT hp384 tm (s1 rfl) ?_
                      refine wSkip ?_
                      refine pSeq ?_
                      refine wCT hp384 tm (s1 rfl) ?_
                      obtain ⟨hc385, h⟩ := ib h
                      refine rg (cr (oLdN (n := 1) (k := 0) rfl rfl rfl t148 tm) (s1 rfl) <| cp (oLit (d := kB) el148 (by decide) rfl rfl rfl (e1 cB e0)) trivial <| cw (oApp (n := 0) (id' := 32) el148 (by decide) rfl (by decide) hc385 tm tm) (s2 rfl rfl) <| cwn (oStN (n := 1) (m := 0) (k := 0) rfl rfl rfl rfl z148 rfl tm tm) (s2 rfl rfl) <| .nil) (by kernel_rfl) ?_
                      refine pBlkN ?_
                      refine pSub (Γ' := [(0, .d ((kL (kI .i64)).sig a0)), (4, .p 4 0), (5, .f [4] (sCloN 112 [none])), (8, .d (kB.sig true)), (10, .d ((kL (kI .i64)).sig a0)), (11, .d ((kI .i64).sig (a0.length : Int))), (12, .d ((kI .i64).sig v270))]) ⟨rfl, rfl, rfl, rfl, rfl, rfl, rfl, trivial⟩ ?_
                      refine pRen 32 5200 rfl ?_
                      exact pJ2 _ _ (so h) ⟨rfl, rfl, rfl, rfl, rfl, rfl, rfl, trivial⟩ rfl
                    · refine wCF hp384 tm (s1 rfl) ?_
                      refine wSeq ?_
                      refine rg (cp (oEq rfl tm (cI (by decide))) (s1 rfl) <| cp (oAs tm) (s1 rfl) <| .nil) (by kernel_rfl) ?_
                      refine pSeq ?_
                      rcases ic h with ⟨hp386, h⟩ | ⟨hp386, h⟩
                      · refine wCT hp386 tm (s1 rfl) ?_
                        refine wSkip ?_
                        refine pSeq ?_
                        refine wCT hp386 tm (s1 rfl) ?_
                        obtain ⟨hc387, h⟩ := ib h
                        refine rg (cr (oLdN (n := 1) (k := 0) rfl rfl rfl t148 tm) (s1 rfl) <| cp (oLit (d := kB) el148 (by decide) rfl rfl rfl (e1 cB e0)) trivial <| cw (oApp (n := 0) (id' := 32) el148 (by decide) rfl (by decide) hc387 tm tm) (s2 rfl rfl) <| cwn (oStN (n := 1) (m := 0) (k := 0) rfl rfl rfl rfl z148 rfl tm tm) (s2 rfl rfl) <| .nil) (by kernel_rfl) ?_
                        refine pBlkN ?_
                        refine pSub (Γ' := [(0, .d ((kL (kI .i64)).sig a0)), (4, .p 4 0), (5, .f [4] (sCloN 112 [none])), (8, .d (kB.sig true)), (10, .d ((kL (kI .i64)).sig a0)), (11, .d ((kI .i64).sig (a0.length : Int))), (12, .d ((kI .i64).sig v270))]) ⟨rfl, rfl, rfl, rfl, rfl, rfl, rfl, trivial⟩ ?_
                        refine pRen 32 5200 rfl ?_
                        exact pJ2 _ _ (so h) ⟨rfl, rfl, rfl, rfl, rfl, rfl, rfl, trivial⟩ rfl
                      · refine wCF hp386 tm (s1 rfl) ?_
                        refine rg (cp (oEq rfl tm (cI (by decide))) (s1 rfl) <| cp (oAs tm) (s1 rfl) <| .nil) (by kernel_rfl) ?_
                        refine pSeq ?_
                        rcases ic h with ⟨hp388, h⟩ | ⟨hp388, h⟩
                        · refine wCT hp388 tm (s1 rfl) ?_
                          obtain ⟨hc389, h⟩ := ib h
                          refine rg (cr (oLdN (n := 1) (k := 0) rfl rfl rfl t148 tm) (s1 rfl) <| cp (oLit (d := kB) el148 (by decide) rfl rfl rfl (e1 cB e0)) trivial <| cw (oApp (n := 0) (id' := 32) el148 (by decide) rfl (by decide) hc389 tm tm) (s2 rfl rfl) <| cwn (oStN (n := 1) (m := 0) (k := 0) rfl rfl rfl rfl z148 rfl tm tm) (s2 rfl rfl) <| .nil) (by kernel_rfl) ?_
                          refine pBlkN ?_
                          refine pSub (Γ' := [(0, .d ((kL (kI .i64)).sig a0)), (4, .p 4 0), (5, .f [4] (sCloN 112 [none])), (8, .d (kB.sig true)), (10, .d ((kL (kI .i64)).sig a0)), (11, .d ((kI .i64).sig (a0.length : Int))), (12, .d ((kI .i64).sig v270))]) ⟨rfl, rfl, rfl, rfl, rfl, rfl, rfl, trivial⟩ ?_
                          refine pRen 32 5200 rfl ?_
                          exact pJ2 _ _ (so h) ⟨rfl, rfl, rfl, rfl, rfl, rfl, rfl, trivial⟩ rfl
                        · refine wCF hp388 tm (s1 rfl) ?_
                          refine wSeq ?_
                          refine wSeq ?_
                          refine rg (cp (oEq rfl tm (cI (by decide))) (s1 rfl) <| cp (oAs tm) (s1 rfl) <| .nil) (by kernel_rfl) ?_
                          refine pSeq ?_
                          rcases ic h with ⟨hp390, h⟩ | ⟨hp390, h⟩
                          · refine wCT hp390 tm (s1 rfl) ?_
                            refine wSkip ?_
                            refine pSeq ?_
                            refine wCT hp390 tm (s1 rfl) ?_
                            refine wSeq ?_
                            obtain ⟨y391, hy391, h⟩ := bd h
                            refine rg (cp (oMv tm) (s1 rfl) <| cm (oCallN (ins := [.d (kB.sig false)]) (caps := [none]) (kn := [70100]) (rest := []) (R' := [.row 510040 107 kB y391.1, .box 4 148 [.v 510040]]) (out' := .d (kB.sig y391.2)) [(70100, 4), (70101, 5200)] [(70101, 510040)] [1, 0] [] [1, 0] rfl tm (rule_made_1.ok hy391) rfl b112 (oE1 cB oE0) rfl rfl rfl rfl rfl rfl rfl rfl) (s1 rfl) <| cp (oAs tm) (s1 rfl) <| .nil) (by kernel_rfl) ?_
                            refine pSeq ?_
                            obtain ⟨hc392, h⟩ := ib h
                            refine rg (cr (oLdN (n := 1) (k := 0) rfl rfl rfl t148 tm) (s1 rfl) <| cp (oLit (d := kB) el148 (by decide) rfl rfl rfl (e1 cB e0)) trivial <| cw (oApp (n := 0) (id' := 40) el148 (by decide) rfl (by decide) hc392 tm tm) (s2 rfl rfl) <| cwn (oStN (n := 1) (m := 0) (k := 0) rfl rfl rfl rfl z148 rfl tm tm) (s2 rfl rfl) <| .nil) (by kernel_rfl) ?_
                            refine pBlkN ?_
                            refine pSub (Γ' := [(0, .d ((kL (kI .i64)).sig a0)), (4, .p 4 0), (5, .f [4] (sCloN 112 [none])), (8, .d (kB.sig y391.2)), (10, .d ((kL (kI .i64)).sig a0)), (11, .d ((kI .i64).sig (a0.length : Int))), (12, .d ((kI .i64).sig v270))]) ⟨rfl, rfl, rfl, rfl, rfl, rfl, rfl, trivial⟩ ?_
                            refine pRen 40 5200 rfl ?_
                            exact pJ2 _ _ (so h) ⟨rfl, rfl, rfl, rfl, rfl, rfl, rfl, trivial⟩ rfl
                          · refine wCF hp390 tm (s1 rfl) ?_
                            refine rg (cp (oEq rfl tm (cI (by decide))) (s1 rfl) <| cp (oAs tm) (s1 rfl) <| .nil) (by kernel_rfl) ?_
                            refine pSeq ?_
                            rcases ic h with ⟨hp393, h⟩ | ⟨hp393, h⟩
                            · refine wCT hp393 tm (s1 rfl) ?_
                              refine wSeq ?_
                              obtain ⟨y394, hy394, h⟩ := bd h
                              refine rg (cp (oMv tm) (s1 rfl) <| cm (oCallN (ins := [.d (kB.sig false)]) (caps := [none]) (kn := [70100]) (rest := []) (R' := [.row 510040 107 kB y394.1, .box 4 148 [.v 510040]]) (out' := .d (kB.sig y394.2)) [(70100, 4), (70101, 5200)] [(70101, 510040)] [1, 0] [] [1, 0] rfl tm (rule_made_1.ok hy394) rfl b112 (oE1 cB oE0) rfl rfl rfl rfl rfl rfl rfl rfl) (s1 rfl) <| cp (oAs tm) (s1 rfl) <| .nil) (by kernel_rfl) ?_
                              refine pSeq ?_
                              obtain ⟨hc395, h⟩ := ib h
                              refine rg (cr (oLdN (n := 1) (k := 0) rfl rfl rfl t148 tm) (s1 rfl) <| cp (oLit (d := kB) el148 (by decide) rfl rfl rfl (e1 cB e0)) trivial <| cw (oApp (n := 0) (id' := 40) el148 (by decide) rfl (by decide) hc395 tm tm) (s2 rfl rfl) <| cwn (oStN (n := 1) (m := 0) (k := 0) rfl rfl rfl rfl z148 rfl tm tm) (s2 rfl rfl) <| .nil) (by kernel_rfl) ?_
                              refine pBlkN ?_
                              refine pSub (Γ' := [(0, .d ((kL (kI .i64)).sig a0)), (4, .p 4 0), (5, .f [4] (sCloN 112 [none])), (8, .d (kB.sig y394.2)), (10, .d ((kL (kI .i64)).sig a0)), (11, .d ((kI .i64).sig (a0.length : Int))), (12, .d ((kI .i64).sig v270))]) ⟨rfl, rfl, rfl, rfl, rfl, rfl, rfl, trivial⟩ ?_
                              refine pRen 40 5200 rfl ?_
                              exact pJ2 _ _ (so h) ⟨rfl, rfl, rfl, rfl, rfl, rfl, rfl, trivial⟩ rfl
                            · refine wCF hp393 tm (s1 rfl) ?_
                              refine wSeq ?_
                              refine rg (cp (oEq rfl tm (cI (by decide))) (s1 rfl) <| cp (oAs tm) (s1 rfl) <| .nil) (by kernel_rfl) ?_
                              refine pSeq ?_
                              rcases ic h with ⟨hp396, h⟩ | ⟨hp396, h⟩
                              · refine wCT hp396 tm (s1 rfl) ?_
                                refine wSeq ?_
                                obtain ⟨y397, hy397, h⟩ := bd h
                                refine rg (cp (oMv tm) (s1 rfl) <| cm (oCallN (ins := [.d (kB.sig true)]) (caps := [none]) (kn := [70100]) (rest := []) (R' := [.row 540040 107 kB y397.1, .box 4 148 [.v 540040]]) (out' := .d (kB.sig y397.2)) [(70100, 4), (70101, 5200)] [(70101, 540040)] [1, 0] [] [1, 0] rfl tm (rule_made_1.ok hy397) rfl b112 (oE1 cB oE0) rfl rfl rfl rfl rfl rfl rfl rfl) (s1 rfl) <| cp (oAs tm) (s1 rfl) <| .nil) (by kernel_rfl) ?_
                                refine pSeq ?_
                                obtain ⟨hc398, h⟩ := ib h
                                refine rg (cr (oLdN (n := 1) (k := 0) rfl rfl rfl t148 tm) (s1 rfl) <| cp (oLit (d := kB) el148 (by decide) rfl rfl rfl (e1 cB e0)) trivial <| cw (oApp (n := 0) (id' := 47) el148 (by decide) rfl (by decide) hc398 tm tm) (s2 rfl rfl) <| cwn (oStN (n := 1) (m := 0) (k := 0) rfl rfl rfl rfl z148 rfl tm tm) (s2 rfl rfl) <| .nil) (by kernel_rfl) ?_
                                refine pBlkN ?_
                                refine pSub (Γ' := [(0, .d ((kL (kI .i64)).sig a0)), (4, .p 4 0), (5, .f [4] (sCloN 112 [none])), (8, .d (kB.sig y397.2)), (10, .d ((kL (kI .i64)).sig a0)), (11, .d ((kI .i64).sig (a0.length : Int))), (12, .d ((kI .i64).sig v270))]) ⟨rfl, rfl, rfl, rfl, rfl, rfl, rfl, trivial⟩ ?_
                                refine pRen 47 5200 rfl ?_
                                exact pJ2 _ _ (so h) ⟨rfl, rfl, rfl, rfl, rfl, rfl, rfl, trivial⟩ rfl
                              · refine wCF hp396 tm (s1 rfl) ?_
                                refine wSeq ?_
                                refine wSeq ?_
                                refine rg (cp (oEq rfl tm (cI (by decide))) (s1 rfl) <| cp (oAs tm) (s1 rfl) <| .nil) (by kernel_rfl) ?_
                                refine pSeq ?_
                                rcases ic h with ⟨hp399, h⟩ | ⟨hp399, h⟩
                                · refine wCT hp399 tm (s1 rfl) ?_
                                  refine wSkip ?_
                                  refine pSeq ?_
                                  refine wCT hp399 tm (s1 rfl) ?_
                                  refine wSeq ?_
                                  obtain ⟨y400, hy400, h⟩ := bd h
                                  refine rg (cp (oMv tm) (s1 rfl) <| cm (oCallN (ins := [.d (kB.sig true)]) (caps := [none]) (kn := [70100]) (rest := []) (R' := [.row 580040 107 kB y400.1, .box 4 148 [.v 580040]]) (out' := .d (kB.sig y400.2)) [(70100, 4), (70101, 5200)] [(70101, 580040)] [1, 0] [] [1, 0] rfl tm (rule_made_1.ok hy400) rfl b112 (oE1 cB oE0) rfl rfl rfl rfl rfl rfl rfl rfl) (s1 rfl) <| cp (oAs tm) (s1 rfl) <| .nil) (by kernel_rfl) ?_
                                  refine pSeq ?_
                                  obtain ⟨hc401, h⟩ := ib h
                                  refine rg (cr (oLdN (n := 1) (k := 0) rfl rfl rfl t148 tm) (s1 rfl) <| cp (oLit (d := kB) el148 (by decide) rfl rfl rfl (e1 cB e0)) trivial <| cw (oApp (n := 0) (id' := 55) el148 (by decide) rfl (by decide) hc401 tm tm) (s2 rfl rfl) <| cwn (oStN (n := 1) (m := 0) (k := 0) rfl rfl rfl rfl z148 rfl tm tm) (s2 rfl rfl) <| .nil) (by kernel_rfl) ?_
                                  refine pBlkN ?_
                                  refine pSub (Γ' := [(0, .d ((kL (kI .i64)).sig a0)), (4, .p 4 0), (5, .f [4] (sCloN 112 [none])), (8, .d (kB.sig y400.2)), (10, .d ((kL (kI .i64)).sig a0)), (11, .d ((kI .i64).sig (a0.length : Int))), (12, .d ((kI .i64).sig v270))]) ⟨rfl, rfl, rfl, rfl, rfl, rfl, rfl, trivial⟩ ?_
                                  refine pRen 55 5200 rfl ?_
                                  exact pJ2 _ _ (so h) ⟨rfl, rfl, rfl, rfl, rfl, rfl, rfl, trivial⟩ rfl
                                · refine wCF hp399 tm (s1 rfl) ?_
                                  refine rg (cp (oEq rfl tm (cI (by decide))) (s1 rfl) <| cp (oAs tm) (s1 rfl) <| .nil) (by kernel_rfl) ?_
                                  refine pSeq ?_
                                  rcases ic h with ⟨hp402, h⟩ | ⟨hp402, h⟩
                                  · refine wCT hp402 tm (s1 rfl) ?_
                                    refine wSeq ?_
                                    obtain ⟨y403, hy403, h⟩ := bd h
                                    refine rg (cp (oMv tm) (s1 rfl) <| cm (oCallN (ins := [.d (kB.sig true)]) (caps := [none]) (kn := [70100]) (rest := []) (R' := [.row 580040 107 kB y403.1, .box 4 148 [.v 580040]]) (out' := .d (kB.sig y403.2)) [(70100, 4), (70101, 5200)] [(70101, 580040)] [1, 0] [] [1, 0] rfl tm (rule_made_1.ok hy403) rfl b112 (oE1 cB oE0) rfl rfl rfl rfl rfl rfl rfl rfl) (s1 rfl) <| cp (oAs tm) (s1 rfl) <| .nil) (by kernel_rfl) ?_
                                    refine pSeq ?_
                                    obtain ⟨hc404, h⟩ := ib h
                                    refine rg (cr (oLdN (n := 1) (k := 0) rfl rfl rfl t148 tm) (s1 rfl) <| cp (oLit (d := kB) el148 (by decide) rfl rfl rfl (e1 cB e0)) trivial <| cw (oApp (n := 0) (id' := 55) el148 (by decide) rfl (by decide) hc404 tm tm) (s2 rfl rfl) <| cwn (oStN (n := 1) (m := 0) (k := 0) rfl rfl rfl rfl z148 rfl tm tm) (s2 rfl rfl) <| .nil) (by kernel_rfl) ?_
                                    refine pBlkN ?_
                                    refine pSub (Γ' := [(0, .d ((kL (kI .i64)).sig a0)), (4, .p 4 0), (5, .f [4] (sCloN 112 [none])), (8, .d (kB.sig y403.2)), (10, .d ((kL (kI .i64)).sig a0)), (11, .d ((kI .i64).sig (a0.length : Int))), (12, .d ((kI .i64).sig v270))]) ⟨rfl, rfl, rfl, rfl, rfl, rfl, rfl, trivial⟩ ?_
                                    refine pRen 55 5200 rfl ?_
                                    exact pJ2 _ _ (so h) ⟨rfl, rfl, rfl, rfl, rfl, rfl, rfl, trivial⟩ rfl
                                  · refine wCF hp402 tm (s1 rfl) ?_
                                    refine rg (cp (oAs cB) trivial <| .nil) (by kernel_rfl) ?_
                                    refine pBlkN ?_
                                    exact pJ2 _ _ (so h) ⟨rfl, rfl, rfl, rfl, rfl, rfl, rfl, trivial⟩ rfl
        · rintro x372 x373 rfl
          replace h := hk3
          refine pSeq ?_
          refine wSeq ?_
          refine rg (cp (oMv tm) (s1 rfl) <| cp (oNot tm) (s1 rfl) <| .nil) (by kernel_rfl) ?_
          refine pSeq ?_
          rcases ic h with ⟨hp405, h⟩ | ⟨hp405, h⟩
          · refine wBT hp405 tm (s1 rfl) ?_
            refine wSeq ?_
            refine rg (cp (oAs cB) trivial <| cp (oAs cB) trivial <| .nil) (by kernel_rfl) ?_
            refine pSeq ?_
            refine wRet ?_
            refine pBlkR ?_
            refine pThenR ?_
            obtain rfl := so h
            replace h := hk2
            refine pThenR ?_
            refine pBlkR ?_
            refine pThenR ?_
            obtain rfl := so h
            replace h := hk1
            refine pThenR ?_
            obtain rfl := so h
            exact pRn (.inl rfl) rfl rfl (.tmp rfl <| .tmp rfl <| .nil)
          · refine wBF hp405 tm (s1 rfl) ?_
            refine wSkip ?_
            refine pBlkN ?_
            exact pJ1 _ (so h) ⟨rfl, rfl, rfl, rfl, rfl, rfl, trivial⟩ rfl
      · rintro x339 rfl
        replace h := hk2
        refine rg (cp (oAdd tm (cI (by decide))) (s1 rfl) <| cp (oMv tm) (s1 rfl) <| .nil) (by kernel_rfl) ?_
        exact pLoop (lW (ih _ _ h) ⟨rfl, rfl, rfl, rfl, rfl, rfl, trivial⟩ rfl)
    · refine wCF hp272 tm (s1 rfl) ?_
      refine wExit ?_
      refine pThenX ?_
      refine pThenX ?_
      refine pBlkX ?_
      exact pJ1 _ (so h) ⟨rfl, rfl, trivial⟩ rfl
  · rintro x271 rfl
    replace h := hk1
    refine pSeq ?_
    refine wSeq ?_
    obtain ⟨o1, h, hk1⟩ := bd h
    refine wJ1 (fun x407 => x407 = o1) (fun x407 => [(4, .p 4 0), (66, .d (kB.sig x407))]) (fun x407 => [.row 5200 107 kB x271, .box 4 148 [.v 5200]]) ?_ ?_
    · rcases ic h with ⟨hp408, h⟩ | ⟨hp408, h⟩
      · refine rg (cr (oLdN (n := 1) (k := 0) rfl rfl rfl t148 tm) (s1 rfl) <| cr (oLenR (n := 0) u148 rfl tm) (s1 rfl) <| cp (oNe rfl tm (cI (by decide))) (s1 rfl) <| cp (oMv tm) (s1 rfl) <| cgB (nf hp408) rfl rfl (oMv tm) (s1 rfl) <| cgB (nf hp408) rfl rfl (oLenL u22 tm) (s1 rfl) <| cgB (nf hp408) rfl rfl (oGt rfl tm (cI (by decide))) (s1 rfl) <| cp (oPkF (nf hp408) tm tm) (s2 rfl rfl) <| .nil) (by kernel_rfl) ?_
        exact pJ1 _ (so h) ⟨rfl, rfl, trivial⟩ rfl
      · refine rg (cr (oLdN (n := 1) (k := 0) rfl rfl rfl t148 tm) (s1 rfl) <| cr (oLenR (n := 0) u148 rfl tm) (s1 rfl) <| cp (oNe rfl tm (cI (by decide))) (s1 rfl) <| cp (oMv tm) (s1 rfl) <| csB (nt hp408) rfl rfl <| csB (nt hp408) rfl rfl <| csB (nt hp408) rfl rfl <| cp (oPkT (nt hp408) tm cB) (s1 rfl) <| .nil) (by kernel_rfl) ?_
        exact pJ1 _ (so h) ⟨rfl, rfl, trivial⟩ rfl
    · rintro x407 rfl
      replace h := hk1
      rcases ic h with ⟨hp409, h⟩ | ⟨hp409, h⟩
      · refine wBT hp409 tm (s1 rfl) ?_
        refine wSeq ?_
        refine rg (cp (oAs cB) trivial <| cp (oAs cB) trivial <| .nil) (by kernel_rfl) ?_
        refine pSeq ?_
        refine wRet ?_
        refine pThenR ?_
        obtain rfl := so h
        exact pRn (.inl rfl) rfl rfl (.tmp rfl <| .tmp rfl <| .nil)
      · refine wBF hp409 tm (s1 rfl) ?_
        refine wSkip ?_
        refine pSeq ?_
        refine wSeq ?_
        obtain ⟨y410, hy410, h⟩ := bd h
        refine rg (cr (oLdN (n := 1) (k := 0) rfl rfl rfl t148 tm) (s1 rfl) <| cr (oIdxR (n := 0) u148 z107 rfl hy410 tm (cI (by decide))) (s1 rfl) <| cr (oLdE (n := 0) rfl hy410 rfl t107 tm) (s1 rfl) <| cp (oAs tm) (s1 rfl) <| cp (oAs cB) trivial <| .nil) (by kernel_rfl) ?_
        refine pSeq ?_
        refine wRet ?_
        obtain rfl := so h
        exact pRn (.inl rfl) rfl rfl (.tmp rfl <| .tmp rfl <| .nil)

theorem rule_Uses.ok {a0 : List Int} {r : Int × Int} (h : rule_Uses.f a0 = some r) : FnA Try.prog 48 [(kL (kI .i64)).sig a0] (tup [(kI .u32).sig r.1, (kI .i64).sig r.2]) := by
  refine fnIntro Try.func48 rfl (by kernel_rfl) fun H0 w0 => ?_
  unfold rule_Uses.f at h
  refine wSeq ?_
  refine rg (cp (oAs (cI (by decide))) trivial <| cp (oAs (cI (by decide))) trivial <| .nil) (by kernel_rfl) ?_
  refine pSeq ?_
  refine wSeq ?_
  refine wSeq ?_
  obtain ⟨y1, hy1, h⟩ := bd h
  refine rg (cp (oMv tm) (s1 rfl) <| cp (oCall rfl (rule_made.ok hy1) b85 (opds_cons tm opds_nil)) (s1 rfl) <| cp (oMv tm) (s1 rfl) <| cp (oExt (k := 0) rfl tm) (s1 rfl) <| cp (oExt (k := 1) rfl tm) (s1 rfl) <| cp (oAs tm) (s1 rfl) <| cp (oAs tm) (s1 rfl) <| .nil) (by kernel_rfl) ?_
  refine pSeq ?_
  refine wSeq ?_
  refine rg (cp (oMv tm) (s1 rfl) <| cp (oNot tm) (s1 rfl) <| .nil) (by kernel_rfl) ?_
  refine pSeq ?_
  rcases ic h with ⟨hp2, h⟩ | ⟨hp2, h⟩
  · refine wBT hp2 tm (s1 rfl) ?_
    refine wSeq ?_
    refine rg (cp (oAs (cI (by decide))) trivial <| cp (oAs (cI (by decide))) trivial <| .nil) (by kernel_rfl) ?_
    refine pSeq ?_
    refine wRet ?_
    refine pThenR ?_
    obtain rfl := so h
    exact pRn (.inl rfl) rfl rfl (.tmp rfl <| .tmp rfl <| .nil)
  · refine wBF hp2 tm (s1 rfl) ?_
    refine wSkip ?_
    refine pSeq ?_
    refine wSeq ?_
    refine rg (cp (oAs (cI (by decide))) trivial <| .nil) (by kernel_rfl) ?_
    refine pSeq ?_
    refine wSeq ?_
    refine wSeq ?_
    refine rg (cp (oMv tm) (s1 rfl) <| cp (oLenL u22 tm) (s1 rfl) <| cp (oMv (cI (by decide))) trivial <| .nil) (by kernel_rfl) ?_
    refine pSeq ?_
    obtain ⟨o1, h, hk1⟩ := bd h
    refine wK1 (fun x33 => x33 = o1) (fun x33 => [(6, .d ((kI .u32).sig x33))]) (fun x33 => []) ?_ ?_
    · refine wBlock (wLoop ?_)
      refine lW (pc2 o1 (fun v31 v32 => [(6, .d ((kI .u32).sig v32)), (16, .d ((kL (kI .i64)).sig a0)), (17, .d ((kI .i64).sig (a0.length : Int))), (18, .d ((kI .i64).sig v31))]) (fun v31 v32 => []) (rule_Uses.l0.partial_correctness a0) ?_ _ _ h) ⟨rfl, rfl, rfl, rfl, trivial⟩ rfl
      clear h
      intro f' ih v31 v32 h
      refine wSeq ?_
      refine rg (cp (oLt rfl tm tm) (s2 rfl rfl) <| .nil) (by kernel_rfl) ?_
      refine pSeq ?_
      refine wSeq ?_
      rcases ic h with ⟨hp34, h⟩ | ⟨hp34, h⟩
      · refine wCT hp34 tm (s1 rfl) ?_
        refine wSkip ?_
        refine pSeq ?_
        obtain ⟨o2, h, hk2⟩ := bd h
        refine wJ1 (fun x41 => x41 = o2) (fun x41 => [(6, .d ((kI .u32).sig x41)), (16, .d ((kL (kI .i64)).sig a0)), (17, .d ((kI .i64).sig (a0.length : Int))), (18, .d ((kI .i64).sig v31))]) (fun x41 => []) ?_ ?_
        · refine wBlock ?_
          refine wSeq ?_
          obtain ⟨y42, hy42, h⟩ := bd h
          refine rg (cp (oIdx u22 z3 hy42 tm tm) (s2 rfl rfl) <| cp (oLd t3 tm) (s1 rfl) <| cp (oAs tm) (s1 rfl) <| .nil) (by kernel_rfl) ?_
          refine pSeq ?_
          obtain ⟨o3, h, hk3⟩ := bd h
          refine wJ1 (fun x44 => x44 = o3) (fun x44 => [(6, .d ((kI .u32).sig v32)), (8, .d ((kI .i64).sig y42)), (16, .d ((kL (kI .i64)).sig a0)), (17, .d ((kI .i64).sig (a0.length : Int))), (18, .d ((kI .i64).sig v31)), (27, .d (kB.sig x44))]) (fun x44 => []) ?_ ?_
          · rcases ic h with ⟨hp45, h⟩ | ⟨hp45, h⟩
            · refine rg (cp (oMv tm) (s1 rfl) <| cp (oGe rfl tm (cI (by decide))) (s1 rfl) <| cp (oMv tm) (s1 rfl) <| cgB (decide_eq_true hp45) rfl rfl (oMv tm) (s1 rfl) <| cgB (decide_eq_true hp45) rfl rfl (oLe rfl tm (cI (by decide))) (s1 rfl) <| cp (oPkT (decide_eq_true hp45) tm tm) (s2 rfl rfl) <| .nil) (by kernel_rfl) ?_
              exact pJ1 _ (so h) ⟨rfl, rfl, rfl, rfl, rfl, rfl, trivial⟩ rfl
            · refine rg (cp (oMv tm) (s1 rfl) <| cp (oGe rfl tm (cI (by decide))) (s1 rfl) <| cp (oMv tm) (s1 rfl) <| csB (decide_eq_false hp45) rfl rfl <| csB (decide_eq_false hp45) rfl rfl <| cp (oPkF (decide_eq_false hp45) tm cB) (s1 rfl) <| .nil) (by kernel_rfl) ?_
              exact pJ1 _ (so h) ⟨rfl, rfl, rfl, rfl, rfl, rfl, trivial⟩ rfl
          · rintro x44 rfl
            replace h := hk3
            rcases ic h with ⟨hp46, h⟩ | ⟨hp46, h⟩
            · refine wBT hp46 tm (s1 rfl) ?_
              obtain ⟨hc47, h⟩ := ib h
              refine rg (cp (oMv tm) (s1 rfl) <| cp (oMv tm) (s1 rfl) <| cp (oSub tm (cI (by decide))) (s1 rfl) <| cp (oShl hc47 (cI (by decide)) tm) (s1 rfl) <| cp (oOr tm tm) (s2 rfl rfl) <| cp (oAs tm) (s1 rfl) <| .nil) (by kernel_rfl) ?_
              refine pBlkN ?_
              exact pJ1 _ (so h) ⟨rfl, rfl, rfl, rfl, trivial⟩ rfl
            · refine wBF hp46 tm (s1 rfl) ?_
              refine wSkip ?_
              refine pBlkN ?_
              exact pJ1 _ (so h) ⟨rfl, rfl, rfl, rfl, trivial⟩ rfl
        · rintro x41 rfl
          replace h := hk2
          refine rg (cp (oAdd tm (cI (by decide))) (s1 rfl) <| cp (oMv tm) (s1 rfl) <| .nil) (by kernel_rfl) ?_
          exact pLoop (lW (ih _ _ h) ⟨rfl, rfl, rfl, rfl, trivial⟩ rfl)
      · refine wCF hp34 tm (s1 rfl) ?_
        refine wExit ?_
        refine pThenX ?_
        refine pThenX ?_
        refine pBlkX ?_
        exact pJ1 _ (so h) ⟨rfl, trivial⟩ rfl
    · rintro x33 rfl
      replace h := hk1
      refine pSeq ?_
      refine wSeq ?_
      refine rg (cp (oMv tm) (s1 rfl) <| cp (oAs tm) (s1 rfl) <| cp (oAs (cI (by decide))) trivial <| .nil) (by kernel_rfl) ?_
      refine pSeq ?_
      refine wRet ?_
      obtain rfl := so h
      exact pRn (.inl rfl) rfl rfl (.tmp rfl <| .tmp rfl <| .nil)

theorem rule_Right.ok {a0 : List Int} {a1 : Bool} {r : Bool} (h : rule_Right.f a0 a1 = some r) : FnA Try.prog 47 [(kL (kI .i64)).sig a0, kB.sig a1] (kB.sig r) := by
  refine fnIntro Try.func47 rfl (by kernel_rfl) fun H0 w0 => ?_
  unfold rule_Right.f at h
  refine wSeq ?_
  refine rg (cp (oAs cB) trivial <| .nil) (by kernel_rfl) ?_
  refine pSeq ?_
  refine wSeq ?_
  obtain ⟨y1, hy1, h⟩ := bd h
  refine rg (cp (oMv tm) (s1 rfl) <| cp (oCall rfl (rule_made.ok hy1) b85 (opds_cons tm opds_nil)) (s1 rfl) <| cp (oMv tm) (s1 rfl) <| cp (oExt (k := 0) rfl tm) (s1 rfl) <| cp (oExt (k := 1) rfl tm) (s1 rfl) <| cp (oAs tm) (s1 rfl) <| cp (oAs tm) (s1 rfl) <| .nil) (by kernel_rfl) ?_
  refine pSeq ?_
  obtain ⟨o1, h, hk1⟩ := bd h
  refine wJ1 (fun x3 => x3 = o1) (fun x3 => [(4, .d (kB.sig x3))]) (fun x3 => []) ?_ ?_
  · rcases ic h with ⟨hp4, h⟩ | ⟨hp4, h⟩
    · refine rg (cp (oMv tm) (s1 rfl) <| cp (oMv tm) (s1 rfl) <| cgB hp4 rfl rfl (oMv tm) (s1 rfl) <| cgB hp4 rfl rfl (oMv tm) (s1 rfl) <| cgB hp4 rfl rfl (oBEq u4 rfl tm tm) (s2 rfl rfl) <| cp (oPkT hp4 tm tm) (s2 rfl rfl) <| cp (oAs tm) (s1 rfl) <| .nil) (by kernel_rfl) ?_
      exact pJ1 _ (so h) ⟨rfl, trivial⟩ rfl
    · refine rg (cp (oMv tm) (s1 rfl) <| cp (oMv tm) (s1 rfl) <| csB (nb hp4) rfl rfl <| csB (nb hp4) rfl rfl <| csB (nb hp4) rfl rfl <| cp (oPkF (nb hp4) tm cB) (s1 rfl) <| cp (oAs tm) (s1 rfl) <| .nil) (by kernel_rfl) ?_
      exact pJ1 _ (so h) ⟨rfl, trivial⟩ rfl
  · rintro x3 rfl
    replace h := hk1
    refine wRet ?_
    obtain rfl := so h
    exact pR1 (.inl rfl) rfl (.tmp rfl <| .nil)

theorem reticentref04_two.ok {a0 : List Int} {a1 : Int} {r : Bool} (h : reticentref04_two.f a0 a1 = some r) : FnA Try.prog 63 [(kL (kI .i64)).sig a0, (kI .i64).sig a1] (kB.sig r) := by
  refine fnIntro Try.func63 rfl (by kernel_rfl) fun H0 w0 => ?_
  unfold reticentref04_two.f at h
  refine wSeq ?_
  refine rg (cp (oAs cB) trivial <| .nil) (by kernel_rfl) ?_
  refine pSeq ?_
  refine wSeq ?_
  refine rg (cp (oMv tm) (s1 rfl) <| cp (oLenL u22 tm) (s1 rfl) <| cp (oAs tm) (s1 rfl) <| .nil) (by kernel_rfl) ?_
  refine pSeq ?_
  obtain ⟨o1, h, hk1⟩ := bd h
  refine wJ1 (fun x5 => x5 = o1) (fun x5 => [(4, .d (kB.sig x5))]) (fun x5 => []) ?_ ?_
  · rcases ic h with ⟨hp6, h⟩ | ⟨hp6, h⟩
    · obtain ⟨y7, hy7, h⟩ := bd h
      rcases ic h with ⟨hp8, h⟩ | ⟨hp8, h⟩
      · obtain ⟨y9, hy9, h⟩ := bd h
        refine rg (cp (oMv tm) (s1 rfl) <| cp (oGe rfl tm (cI (by decide))) (s1 rfl) <| cp (oMv tm) (s1 rfl) <| cgB (decide_eq_true hp6) rfl rfl (oMv tm) (s1 rfl) <| cgB (decide_eq_true hp6) rfl rfl (oMv tm) (s1 rfl) <| cgB (decide_eq_true hp6) rfl rfl (oSub tm (cI (by decide))) (s1 rfl) <| cgB (decide_eq_true hp6) rfl rfl (oIdx u22 z3 hy7 tm tm) (s2 rfl rfl) <| cgB (decide_eq_true hp6) rfl rfl (oLd t3 tm) (s1 rfl) <| cgB (decide_eq_true hp6) rfl rfl (oMv tm) (s1 rfl) <| cgB (decide_eq_true hp6) rfl rfl (oEq rfl tm tm) (s2 rfl rfl) <| cp (oPkT (decide_eq_true hp6) tm tm) (s2 rfl rfl) <| cp (oMv tm) (s1 rfl) <| cgB (decide_eq_true hp8) rfl rfl (oMv tm) (s1 rfl) <| cgB (decide_eq_true hp8) rfl rfl (oMv tm) (s1 rfl) <| cgB (decide_eq_true hp8) rfl rfl (oSub tm (cI (by decide))) (s1 rfl) <| cgB (decide_eq_true hp8) rfl rfl (oIdx u22 z3 hy9 tm tm) (s2 rfl rfl) <| cgB (decide_eq_true hp8) rfl rfl (oLd t3 tm) (s1 rfl) <| cgB (decide_eq_true hp8) rfl rfl (oMv tm) (s1 rfl) <| cgB (decide_eq_true hp8) rfl rfl (oEq rfl tm tm) (s2 rfl rfl) <| cp (oPkT (decide_eq_true hp8) tm tm) (s2 rfl rfl) <| cp (oAs tm) (s1 rfl) <| .nil) (by kernel_rfl) ?_
        exact pJ1 _ (so h) ⟨rfl, trivial⟩ rfl
      · refine rg (cp (oMv tm) (s1 rfl) <| cp (oGe rfl tm (cI (by decide))) (s1 rfl) <| cp (oMv tm) (s1 rfl) <| cgB (decide_eq_true hp6) rfl rfl (oMv tm) (s1 rfl) <| cgB (decide_eq_true hp6) rfl rfl (oMv tm) (s1 rfl) <| cgB (decide_eq_true hp6) rfl rfl (oSub tm (cI (by decide))) (s1 rfl) <| cgB (decide_eq_true hp6) rfl rfl (oIdx u22 z3 hy7 tm tm) (s2 rfl rfl) <| cgB (decide_eq_true hp6) rfl rfl (oLd t3 tm) (s1 rfl) <| cgB (decide_eq_true hp6) rfl rfl (oMv tm) (s1 rfl) <| cgB (decide_eq_true hp6) rfl rfl (oEq rfl tm tm) (s2 rfl rfl) <| cp (oPkT (decide_eq_true hp6) tm tm) (s2 rfl rfl) <| cp (oMv tm) (s1 rfl) <| csB (decide_eq_false hp8) rfl rfl <| csB (decide_eq_false hp8) rfl rfl <| csB (decide_eq_false hp8) rfl rfl <| csB (decide_eq_false hp8) rfl rfl <| csB (decide_eq_false hp8) rfl rfl <| csB (decide_eq_false hp8) rfl rfl <| csB (decide_eq_false hp8) rfl rfl <| cp (oPkF (decide_eq_false hp8) tm cB) (s1 rfl) <| cp (oAs tm) (s1 rfl) <| .nil) (by kernel_rfl) ?_
        exact pJ1 _ (so h) ⟨rfl, trivial⟩ rfl
    · refine rg (cp (oMv tm) (s1 rfl) <| cp (oGe rfl tm (cI (by decide))) (s1 rfl) <| cp (oMv tm) (s1 rfl) <| csB (decide_eq_false hp6) rfl rfl <| csB (decide_eq_false hp6) rfl rfl <| csB (decide_eq_false hp6) rfl rfl <| csB (decide_eq_false hp6) rfl rfl <| csB (decide_eq_false hp6) rfl rfl <| csB (decide_eq_false hp6) rfl rfl <| csB (decide_eq_false hp6) rfl rfl <| cp (oPkF (decide_eq_false hp6) tm cB) (s1 rfl) <| cp (oMv tm) (s1 rfl) <| csB rfl rfl rfl <| csB rfl rfl rfl <| csB rfl rfl rfl <| csB rfl rfl rfl <| csB rfl rfl rfl <| csB rfl rfl rfl <| csB rfl rfl rfl <| cp (oPkF rfl tm cB) (s1 rfl) <| cp (oAs tm) (s1 rfl) <| .nil) (by kernel_rfl) ?_
      exact pJ1 _ (so h) ⟨rfl, trivial⟩ rfl
  · rintro x5 rfl
    replace h := hk1
    refine wRet ?_
    obtain rfl := so h
    exact pR1 (.inl rfl) rfl (.tmp rfl <| .nil)

theorem reticentref04_Made.ok {a0 : List Int} {r : Int} (h : reticentref04_Made.f a0 = some r) : FnA Try.prog 15 [(kL (kI .i64)).sig a0] ((kI .i64).sig r) := by
  refine fnIntro Try.func15 rfl (by kernel_rfl) fun H0 w0 => ?_
  unfold reticentref04_Made.f at h
  refine wSeq ?_
  refine rg (cp (oAs (cI (by decide))) trivial <| .nil) (by kernel_rfl) ?_
  refine pSeq ?_
  refine wSeq ?_
  refine rg (cw (oLitR (id := 7) (d := (kI .i64)) el22 (by decide) rfl rfl rfl e0) trivial <| cp (oAs tm) (s1 rfl) <| .nil) (by kernel_rfl) ?_
  refine pSeq ?_
  refine wSeq ?_
  refine wSeq ?_
  refine rg (cp (oMv tm) (s1 rfl) <| cp (oLenL u22 tm) (s1 rfl) <| cp (oMv (cI (by decide))) trivial <| .nil) (by kernel_rfl) ?_
  refine pSeq ?_
  refine wWeak (Γ' := [(0, .d ((kL (kI .i64)).sig a0)), (3, .v 7), (8, .d ((kL (kI .i64)).sig a0)), (9, .d ((kI .i64).sig (a0.length : Int))), (10, .d ((kI .i64).sig 0))]) ⟨rfl, rfl, rfl, rfl, rfl, trivial⟩ ?_
  refine wRen 7 1003 rfl ?_
  obtain ⟨o1, h, hk1⟩ := bd h
  refine wK1 (fun x171 => .inr x171 = o1) (fun x171 => [(0, .d ((kL (kI .i64)).sig a0)), (3, .v 1003)]) (fun x171 => [.row 1003 3 (kI .i64) x171]) ?_ ?_
  · refine wBlock (wLoop ?_)
    refine lW (pc2 o1 (fun v169 v170 => [(0, .d ((kL (kI .i64)).sig a0)), (3, .v 1003), (8, .d ((kL (kI .i64)).sig a0)), (9, .d ((kI .i64).sig (a0.length : Int))), (10, .d ((kI .i64).sig v170))]) (fun v169 v170 => [.row 1003 3 (kI .i64) v169]) (reticentref04_Made.l0.partial_correctness a0) ?_ _ _ h) ⟨rfl, rfl, rfl, rfl, rfl, trivial⟩ rfl
    clear h
    intro f' ih v169 v170 h
    refine wSeq ?_
    refine rg (cp (oLt rfl tm tm) (s2 rfl rfl) <| .nil) (by kernel_rfl) ?_
    refine pSeq ?_
    refine wSeq ?_
    rcases ic h with ⟨hp172, h⟩ | ⟨hp172, h⟩
    · refine wCT hp172 tm (s1 rfl) ?_
      refine wSkip ?_
      refine pSeq ?_
      obtain ⟨o2, h, hk2⟩ := bd h
      refine wJ1 (fun x214 => .inr x214 = o2) (fun x214 => [(0, .d ((kL (kI .i64)).sig a0)), (3, .v 1003), (8, .d ((kL (kI .i64)).sig a0)), (9, .d ((kI .i64).sig (a0.length : Int))), (10, .d ((kI .i64).sig v170))]) (fun x214 => [.row 1003 3 (kI .i64) x214]) ?_ ?_
      · refine wBlock ?_
        refine wSeq ?_
        obtain ⟨y215, hy215, h⟩ := bd h
        refine rg (cp (oIdx u22 z3 hy215 tm tm) (s2 rfl rfl) <| cp (oLd t3 tm) (s1 rfl) <| cp (oAs tm) (s1 rfl) <| .nil) (by kernel_rfl) ?_
        refine pSeq ?_
        refine wSeq ?_
        refine rg (cp (oMv tm) (s1 rfl) <| cr (oLenR (n := 0) u22 rfl tm) (s1 rfl) <| cp (oAs tm) (s1 rfl) <| .nil) (by kernel_rfl) ?_
        refine pSeq ?_
        obtain ⟨o3, h, hk3⟩ := bd h
        refine wJ1 (fun x217 => x217 = o3) (fun x217 => [(0, .d ((kL (kI .i64)).sig a0)), (3, .v 1003), (5, .d ((kI .i64).sig y215)), (6, .d ((kI .i64).sig (v169.length : Int))), (8, .d ((kL (kI .i64)).sig a0)), (9, .d ((kI .i64).sig (a0.length : Int))), (10, .d ((kI .i64).sig v170)), (21, .d (kB.sig x217))]) (fun x217 => [.row 1003 3 (kI .i64) v169]) ?_ ?_
        · rcases ic h with ⟨hp218, h⟩ | ⟨hp218, h⟩
          · refine rg (cp (oMv tm) (s1 rfl) <| cp (oEq rfl tm (cI (by decide))) (s1 rfl) <| cp (oMv tm) (s1 rfl) <| csB (decide_eq_true hp218) rfl rfl <| csB (decide_eq_true hp218) rfl rfl <| cp (oPkT (decide_eq_true hp218) tm cB) (s1 rfl) <| .nil) (by kernel_rfl) ?_
            exact pJ1 _ (so h) ⟨rfl, rfl, rfl, rfl, rfl, rfl, rfl, rfl, trivial⟩ rfl
          · refine rg (cp (oMv tm) (s1 rfl) <| cp (oEq rfl tm (cI (by decide))) (s1 rfl) <| cp (oMv tm) (s1 rfl) <| cgB (decide_eq_false hp218) rfl rfl (oMv tm) (s1 rfl) <| cgB (decide_eq_false hp218) rfl rfl (oEq rfl tm (cI (by decide))) (s1 rfl) <| cp (oPkF (decide_eq_false hp218) tm tm) (s2 rfl rfl) <| .nil) (by kernel_rfl) ?_
            exact pJ1 _ (so h) ⟨rfl, rfl, rfl, rfl, rfl, rfl, rfl, rfl, trivial⟩ rfl
        · rintro x217 rfl
          replace h := hk3
          rcases ic h with ⟨hp219, h⟩ | ⟨hp219, h⟩
          · refine wBT hp219 tm (s1 rfl) ?_
            obtain ⟨hc220, h⟩ := ib h
            refine rg (cp (oMv tm) (s1 rfl) <| cp (oLit (d := (kI .i64)) el22 (by decide) rfl rfl rfl (e1 (cI (by decide)) e0)) trivial <| cw (oApp (n := 0) (id' := 24) el22 (by decide) rfl (by decide) hc220 tm tm) (s2 rfl rfl) <| cp (oAs tm) (s1 rfl) <| .nil) (by kernel_rfl) ?_
            refine pBlkN ?_
            refine pSub (Γ' := [(0, .d ((kL (kI .i64)).sig a0)), (3, .v 24), (8, .d ((kL (kI .i64)).sig a0)), (9, .d ((kI .i64).sig (a0.length : Int))), (10, .d ((kI .i64).sig v170))]) ⟨rfl, rfl, rfl, rfl, rfl, trivial⟩ ?_
            refine pRen 24 1003 rfl ?_
            exact pJ1 _ (so h) ⟨rfl, rfl, rfl, rfl, rfl, trivial⟩ rfl
          · refine wBF hp219 tm (s1 rfl) ?_
            obtain ⟨o3, h, hk3⟩ := bd h
            refine wJ1 (fun x222 => x222 = o3) (fun x222 => [(0, .d ((kL (kI .i64)).sig a0)), (3, .v 1003), (5, .d ((kI .i64).sig y215)), (6, .d ((kI .i64).sig (v169.length : Int))), (8, .d ((kL (kI .i64)).sig a0)), (9, .d ((kI .i64).sig (a0.length : Int))), (10, .d ((kI .i64).sig v170)), (30, .d (kB.sig x222))]) (fun x222 => [.row 1003 3 (kI .i64) v169]) ?_ ?_
            · rcases ic h with ⟨hp223, h⟩ | ⟨hp223, h⟩
              · refine rg (cp (oMv tm) (s1 rfl) <| cp (oGe rfl tm (cI (by decide))) (s1 rfl) <| cp (oMv tm) (s1 rfl) <| cgB (decide_eq_true hp223) rfl rfl (oMv tm) (s1 rfl) <| cgB (decide_eq_true hp223) rfl rfl (oLe rfl tm (cI (by decide))) (s1 rfl) <| cp (oPkT (decide_eq_true hp223) tm tm) (s2 rfl rfl) <| .nil) (by kernel_rfl) ?_
                exact pJ1 _ (so h) ⟨rfl, rfl, rfl, rfl, rfl, rfl, rfl, rfl, trivial⟩ rfl
              · refine rg (cp (oMv tm) (s1 rfl) <| cp (oGe rfl tm (cI (by decide))) (s1 rfl) <| cp (oMv tm) (s1 rfl) <| csB (decide_eq_false hp223) rfl rfl <| csB (decide_eq_false hp223) rfl rfl <| cp (oPkF (decide_eq_false hp223) tm cB) (s1 rfl) <| .nil) (by kernel_rfl) ?_
                exact pJ1 _ (so h) ⟨rfl, rfl, rfl, rfl, rfl, rfl, rfl, rfl, trivial⟩ rfl
            · rintro x222 rfl
              replace h := hk3
              rcases ic h with ⟨hp224, h⟩ | ⟨hp224, h⟩
              · refine wBT hp224 tm (s1 rfl) ?_
                obtain ⟨hc225, h⟩ := ib h
                refine rg (cp (oMv tm) (s1 rfl) <| cp (oLit (d := (kI .i64)) el22 (by decide) rfl rfl rfl (e1 (cI (by decide)) e0)) trivial <| cw (oApp (n := 0) (id' := 33) el22 (by decide) rfl (by decide) hc225 tm tm) (s2 rfl rfl) <| cp (oAs tm) (s1 rfl) <| .nil) (by kernel_rfl) ?_
                refine pBlkN ?_
                refine pSub (Γ' := [(0, .d ((kL (kI .i64)).sig a0)), (3, .v 33), (8, .d ((kL (kI .i64)).sig a0)), (9, .d ((kI .i64).sig (a0.length : Int))), (10, .d ((kI .i64).sig v170))]) ⟨rfl, rfl, rfl, rfl, rfl, trivial⟩ ?_
                refine pRen 33 1003 rfl ?_
                exact pJ1 _ (so h) ⟨rfl, rfl, rfl, rfl, rfl, trivial⟩ rfl
              · refine wBF hp224 tm (s1 rfl) ?_
                obtain ⟨o3, h, hk3⟩ := bd h
                refine wJ1 (fun x230 => x230 = o3) (fun x230 => [(0, .d ((kL (kI .i64)).sig a0)), (3, .v 1003), (5, .d ((kI .i64).sig y215)), (6, .d ((kI .i64).sig (v169.length : Int))), (8, .d ((kL (kI .i64)).sig a0)), (9, .d ((kI .i64).sig (a0.length : Int))), (10, .d ((kI .i64).sig v170)), (43, .d (kB.sig x230))]) (fun x230 => [.row 1003 3 (kI .i64) v169]) ?_ ?_
                · rcases ic h with ⟨hp231, h⟩ | ⟨hp231, h⟩
                  · obtain ⟨y232, hy232, h⟩ := bd h
                    refine rg (cp (oMv tm) (s1 rfl) <| cp (oEq rfl tm (cI (by decide))) (s1 rfl) <| cp (oMv tm) (s1 rfl) <| csB (decide_eq_true hp231) rfl rfl <| csB (decide_eq_true hp231) rfl rfl <| cp (oPkT (decide_eq_true hp231) tm cB) (s1 rfl) <| cp (oMv tm) (s1 rfl) <| cgB rfl rfl rfl (oMv tm) (s1 rfl) <| crgB rfl rfl rfl (oCallB rfl (reticentref04_two.ok hy232) (fK fB) b63 (rc1 (rR (n := 0) rfl) (rc1 (rD (cI (by decide))) rn0))) (s1 rfl) <| cp (oPkT rfl tm tm) (s2 rfl rfl) <| .nil) (by kernel_rfl) ?_
                    exact pJ1 _ (so h) ⟨rfl, rfl, rfl, rfl, rfl, rfl, rfl, rfl, trivial⟩ rfl
                  · rcases ic h with ⟨hp233, h⟩ | ⟨hp233, h⟩
                    · obtain ⟨y234, hy234, h⟩ := bd h
                      refine rg (cp (oMv tm) (s1 rfl) <| cp (oEq rfl tm (cI (by decide))) (s1 rfl) <| cp (oMv tm) (s1 rfl) <| cgB (decide_eq_false hp231) rfl rfl (oMv tm) (s1 rfl) <| cgB (decide_eq_false hp231) rfl rfl (oEq rfl tm (cI (by decide))) (s1 rfl) <| cp (oPkF (decide_eq_false hp231) tm tm) (s2 rfl rfl) <| cp (oMv tm) (s1 rfl) <| cgB (decide_eq_true hp233) rfl rfl (oMv tm) (s1 rfl) <| crgB (decide_eq_true hp233) rfl rfl (oCallB rfl (reticentref04_two.ok hy234) (fK fB) b63 (rc1 (rR (n := 0) rfl) (rc1 (rD (cI (by decide))) rn0))) (s1 rfl) <| cp (oPkT (decide_eq_true hp233) tm tm) (s2 rfl rfl) <| .nil) (by kernel_rfl) ?_
                      exact pJ1 _ (so h) ⟨rfl, rfl, rfl, rfl, rfl, rfl, rfl, rfl, trivial⟩ rfl
                    · refine rg (cp (oMv tm) (s1 rfl) <| cp (oEq rfl tm (cI (by decide))) (s1 rfl) <| cp (oMv tm) (s1 rfl) <| cgB (decide_eq_false hp231) rfl rfl (oMv tm) (s1 rfl) <| cgB (decide_eq_false hp231) rfl rfl (oEq rfl tm (cI (by decide))) (s1 rfl) <| cp (oPkF (decide_eq_false hp231) tm tm) (s2 rfl rfl) <| cp (oMv tm) (s1 rfl) <| csB (decide_eq_false hp233) rfl rfl <| csB (decide_eq_false hp233) rfl rfl <| cp (oPkF (decide_eq_false hp233) tm cB) (s1 rfl) <| .nil) (by kernel_rfl) ?_
                      exact pJ1 _ (so h) ⟨rfl, rfl, rfl, rfl, rfl, rfl, rfl, rfl, trivial⟩ rfl
                · rintro x230 rfl
                  replace h := hk3
                  rcases ic h with ⟨hp235, h⟩ | ⟨hp235, h⟩
                  · refine wBT hp235 tm (s1 rfl) ?_
                    obtain ⟨hc236, h⟩ := ib h
                    refine rg (cp (oMv tm) (s1 rfl) <| cp (oMv tm) (s1 rfl) <| cp (oSub tm (cI (by decide))) (s1 rfl) <| cw (oCutR (n := 0) (id' := 47) u22 z3 rfl hc236.1 hc236.2 tm tm) (s2 rfl rfl) <| cp (oAs tm) (s1 rfl) <| .nil) (by kernel_rfl) ?_
                    refine pBlkN ?_
                    refine pSub (Γ' := [(0, .d ((kL (kI .i64)).sig a0)), (3, .v 47), (8, .d ((kL (kI .i64)).sig a0)), (9, .d ((kI .i64).sig (a0.length : Int))), (10, .d ((kI .i64).sig v170))]) ⟨rfl, rfl, rfl, rfl, rfl, trivial⟩ ?_
                    refine pRen 47 1003 rfl ?_
                    exact pJ1 _ (so h) ⟨rfl, rfl, rfl, rfl, rfl, trivial⟩ rfl
                  · refine wBF hp235 tm (s1 rfl) ?_
                    obtain ⟨o3, h, hk3⟩ := bd h
                    refine wJ1 (fun x239 => x239 = o3) (fun x239 => [(0, .d ((kL (kI .i64)).sig a0)), (3, .v 1003), (5, .d ((kI .i64).sig y215)), (6, .d ((kI .i64).sig (v169.length : Int))), (8, .d ((kL (kI .i64)).sig a0)), (9, .d ((kI .i64).sig (a0.length : Int))), (10, .d ((kI .i64).sig v170)), (53, .d (kB.sig x239))]) (fun x239 => [.row 1003 3 (kI .i64) v169]) ?_ ?_
                    · rcases ic h with ⟨hp240, h⟩ | ⟨hp240, h⟩
                      · obtain ⟨y241, hy241, h⟩ := bd h
                        refine rg (cp (oMv tm) (s1 rfl) <| cp (oEq rfl tm (cI (by decide))) (s1 rfl) <| cp (oMv tm) (s1 rfl) <| cgB (decide_eq_true hp240) rfl rfl (oMv tm) (s1 rfl) <| crgB (decide_eq_true hp240) rfl rfl (oCallB rfl (reticentref04_two.ok hy241) (fK fB) b63 (rc1 (rR (n := 0) rfl) (rc1 (rD (cI (by decide))) rn0))) (s1 rfl) <| cp (oPkT (decide_eq_true hp240) tm tm) (s2 rfl rfl) <| .nil) (by kernel_rfl) ?_
                        exact pJ1 _ (so h) ⟨rfl, rfl, rfl, rfl, rfl, rfl, rfl, rfl, trivial⟩ rfl
                      · refine rg (cp (oMv tm) (s1 rfl) <| cp (oEq rfl tm (cI (by decide))) (s1 rfl) <| cp (oMv tm) (s1 rfl) <| csB (decide_eq_false hp240) rfl rfl <| csB (decide_eq_false hp240) rfl rfl <| cp (oPkF (decide_eq_false hp240) tm cB) (s1 rfl) <| .nil) (by kernel_rfl) ?_
                        exact pJ1 _ (so h) ⟨rfl, rfl, rfl, rfl, rfl, rfl, rfl, rfl, trivial⟩ rfl
                    · rintro x239 rfl
                      replace h := hk3
                      rcases ic h with ⟨hp242, h⟩ | ⟨hp242, h⟩
                      · refine wBT hp242 tm (s1 rfl) ?_
                        refine wSeq ?_
                        obtain ⟨hc243, h⟩ := ib h
                        refine rg (cp (oMv tm) (s1 rfl) <| cp (oMv tm) (s1 rfl) <| cp (oSub tm (cI (by decide))) (s1 rfl) <| cw (oCutR (n := 0) (id' := 57) u22 z3 rfl hc243.1 hc243.2 tm tm) (s2 rfl rfl) <| cp (oAs tm) (s1 rfl) <| .nil) (by kernel_rfl) ?_
                        refine pSeq ?_
                        obtain ⟨hc244, h⟩ := ib h
                        refine rg (cp (oMv tm) (s1 rfl) <| cp (oLit (d := (kI .i64)) el22 (by decide) rfl rfl rfl (e1 (cI (by decide)) e0)) trivial <| cw (oApp (n := 0) (id' := 60) el22 (by decide) rfl (by decide) hc244 tm tm) (s2 rfl rfl) <| cp (oAs tm) (s1 rfl) <| .nil) (by kernel_rfl) ?_
                        refine pBlkN ?_
                        refine pSub (Γ' := [(0, .d ((kL (kI .i64)).sig a0)), (3, .v 60), (8, .d ((kL (kI .i64)).sig a0)), (9, .d ((kI .i64).sig (a0.length : Int))), (10, .d ((kI .i64).sig v170))]) ⟨rfl, rfl, rfl, rfl, rfl, trivial⟩ ?_
                        refine pRen 60 1003 rfl ?_
                        exact pJ1 _ (so h) ⟨rfl, rfl, rfl, rfl, rfl, trivial⟩ rfl
                      · refine wBF hp242 tm (s1 rfl) ?_
                        obtain ⟨o3, h, hk3⟩ := bd h
                        refine wJ1 (fun x249 => x249 = o3) (fun x249 => [(0, .d ((kL (kI .i64)).sig a0)), (3, .v 1003), (6, .d ((kI .i64).sig (v169.length : Int))), (8, .d ((kL (kI .i64)).sig a0)), (9, .d ((kI .i64).sig (a0.length : Int))), (10, .d ((kI .i64).sig v170)), (70, .d (kB.sig x249))]) (fun x249 => [.row 1003 3 (kI .i64) v169]) ?_ ?_
                        · rcases ic h with ⟨hp250, h⟩ | ⟨hp250, h⟩
                          · obtain ⟨y251, hy251, h⟩ := bd h
                            refine rg (cp (oMv tm) (s1 rfl) <| cp (oEq rfl tm (cI (by decide))) (s1 rfl) <| cp (oMv tm) (s1 rfl) <| csB (decide_eq_true hp250) rfl rfl <| csB (decide_eq_true hp250) rfl rfl <| cp (oPkT (decide_eq_true hp250) tm cB) (s1 rfl) <| cp (oMv tm) (s1 rfl) <| cgB rfl rfl rfl (oMv tm) (s1 rfl) <| crgB rfl rfl rfl (oCallB rfl (reticentref04_two.ok hy251) (fK fB) b63 (rc1 (rR (n := 0) rfl) (rc1 (rD (cI (by decide))) rn0))) (s1 rfl) <| cp (oPkT rfl tm tm) (s2 rfl rfl) <| .nil) (by kernel_rfl) ?_
                            exact pJ1 _ (so h) ⟨rfl, rfl, rfl, rfl, rfl, rfl, rfl, trivial⟩ rfl
                          · rcases ic h with ⟨hp252, h⟩ | ⟨hp252, h⟩
                            · obtain ⟨y253, hy253, h⟩ := bd h
                              refine rg (cp (oMv tm) (s1 rfl) <| cp (oEq rfl tm (cI (by decide))) (s1 rfl) <| cp (oMv tm) (s1 rfl) <| cgB (decide_eq_false hp250) rfl rfl (oMv tm) (s1 rfl) <| cgB (decide_eq_false hp250) rfl rfl (oEq rfl tm (cI (by decide))) (s1 rfl) <| cp (oPkF (decide_eq_false hp250) tm tm) (s2 rfl rfl) <| cp (oMv tm) (s1 rfl) <| cgB (decide_eq_true hp252) rfl rfl (oMv tm) (s1 rfl) <| crgB (decide_eq_true hp252) rfl rfl (oCallB rfl (reticentref04_two.ok hy253) (fK fB) b63 (rc1 (rR (n := 0) rfl) (rc1 (rD (cI (by decide))) rn0))) (s1 rfl) <| cp (oPkT (decide_eq_true hp252) tm tm) (s2 rfl rfl) <| .nil) (by kernel_rfl) ?_
                              exact pJ1 _ (so h) ⟨rfl, rfl, rfl, rfl, rfl, rfl, rfl, trivial⟩ rfl
                            · refine rg (cp (oMv tm) (s1 rfl) <| cp (oEq rfl tm (cI (by decide))) (s1 rfl) <| cp (oMv tm) (s1 rfl) <| cgB (decide_eq_false hp250) rfl rfl (oMv tm) (s1 rfl) <| cgB (decide_eq_false hp250) rfl rfl (oEq rfl tm (cI (by decide))) (s1 rfl) <| cp (oPkF (decide_eq_false hp250) tm tm) (s2 rfl rfl) <| cp (oMv tm) (s1 rfl) <| csB (decide_eq_false hp252) rfl rfl <| csB (decide_eq_false hp252) rfl rfl <| cp (oPkF (decide_eq_false hp252) tm cB) (s1 rfl) <| .nil) (by kernel_rfl) ?_
                              exact pJ1 _ (so h) ⟨rfl, rfl, rfl, rfl, rfl, rfl, rfl, trivial⟩ rfl
                        · rintro x249 rfl
                          replace h := hk3
                          rcases ic h with ⟨hp254, h⟩ | ⟨hp254, h⟩
                          · refine wBT hp254 tm (s1 rfl) ?_
                            obtain ⟨hc255, h⟩ := ib h
                            refine rg (cp (oMv tm) (s1 rfl) <| cp (oMv tm) (s1 rfl) <| cp (oSub tm (cI (by decide))) (s1 rfl) <| cw (oCutR (n := 0) (id' := 74) u22 z3 rfl hc255.1 hc255.2 tm tm) (s2 rfl rfl) <| cp (oAs tm) (s1 rfl) <| .nil) (by kernel_rfl) ?_
                            refine pBlkN ?_
                            refine pSub (Γ' := [(0, .d ((kL (kI .i64)).sig a0)), (3, .v 74), (8, .d ((kL (kI .i64)).sig a0)), (9, .d ((kI .i64).sig (a0.length : Int))), (10, .d ((kI .i64).sig v170))]) ⟨rfl, rfl, rfl, rfl, rfl, trivial⟩ ?_
                            refine pRen 74 1003 rfl ?_
                            exact pJ1 _ (so h) ⟨rfl, rfl, rfl, rfl, rfl, trivial⟩ rfl
                          · refine wBF hp254 tm (s1 rfl) ?_
                            refine wSeq ?_
                            refine rg (cp (oAs (cI (by decide))) trivial <| .nil) (by kernel_rfl) ?_
                            refine pSeq ?_
                            refine wRet ?_
                            refine pBlkR ?_
                            refine pThenR ?_
                            obtain rfl := so h
                            replace h := hk2
                            refine pThenR ?_
                            refine pBlkR ?_
                            refine pThenR ?_
                            obtain rfl := so h
                            replace h := hk1
                            refine pThenR ?_
                            obtain rfl := so h
                            exact pR1 (.inl rfl) rfl (.tmp rfl <| .nil)
      · rintro x214 rfl
        replace h := hk2
        refine rg (cp (oAdd tm (cI (by decide))) (s1 rfl) <| cp (oMv tm) (s1 rfl) <| .nil) (by kernel_rfl) ?_
        exact pLoop (lW (ih _ _ h) ⟨rfl, rfl, rfl, rfl, rfl, trivial⟩ rfl)
    · refine wCF hp172 tm (s1 rfl) ?_
      refine wExit ?_
      refine pThenX ?_
      refine pThenX ?_
      refine pBlkX ?_
      exact pJ1 _ (so h) ⟨rfl, rfl, trivial⟩ rfl
  · rintro x171 rfl
    replace h := hk1
    refine pSeq ?_
    refine wSeq ?_
    obtain ⟨o1, h, hk1⟩ := bd h
    refine wJ1 (fun x257 => x257 = o1) (fun x257 => [(3, .v 1003), (83, .d (kB.sig x257))]) (fun x257 => [.row 1003 3 (kI .i64) x171]) ?_ ?_
    · rcases ic h with ⟨hp258, h⟩ | ⟨hp258, h⟩
      · refine rg (cp (oMv tm) (s1 rfl) <| cr (oLenR (n := 0) u22 rfl tm) (s1 rfl) <| cp (oNe rfl tm (cI (by decide))) (s1 rfl) <| cp (oMv tm) (s1 rfl) <| cgB (nf hp258) rfl rfl (oMv tm) (s1 rfl) <| cgB (nf hp258) rfl rfl (oLenL u22 tm) (s1 rfl) <| cgB (nf hp258) rfl rfl (oGt rfl tm (cI (by decide))) (s1 rfl) <| cp (oPkF (nf hp258) tm tm) (s2 rfl rfl) <| .nil) (by kernel_rfl) ?_
        exact pJ1 _ (so h) ⟨rfl, rfl, trivial⟩ rfl
      · refine rg (cp (oMv tm) (s1 rfl) <| cr (oLenR (n := 0) u22 rfl tm) (s1 rfl) <| cp (oNe rfl tm (cI (by decide))) (s1 rfl) <| cp (oMv tm) (s1 rfl) <| csB (nt hp258) rfl rfl <| csB (nt hp258) rfl rfl <| csB (nt hp258) rfl rfl <| cp (oPkT (nt hp258) tm cB) (s1 rfl) <| .nil) (by kernel_rfl) ?_
        exact pJ1 _ (so h) ⟨rfl, rfl, trivial⟩ rfl
    · rintro x257 rfl
      replace h := hk1
      rcases ic h with ⟨hp259, h⟩ | ⟨hp259, h⟩
      · refine wBT hp259 tm (s1 rfl) ?_
        refine wSeq ?_
        refine rg (cp (oAs (cI (by decide))) trivial <| .nil) (by kernel_rfl) ?_
        refine pSeq ?_
        refine wRet ?_
        refine pThenR ?_
        obtain rfl := so h
        exact pR1 (.inl rfl) rfl (.tmp rfl <| .nil)
      · refine wBF hp259 tm (s1 rfl) ?_
        refine wSkip ?_
        refine pSeq ?_
        refine wSeq ?_
        obtain ⟨y260, hy260, h⟩ := bd h
        refine rg (cp (oMv tm) (s1 rfl) <| cr (oIdxR (n := 0) u22 z3 rfl hy260 tm (cI (by decide))) (s1 rfl) <| cr (oLdE (n := 0) rfl hy260 rfl t3 tm) (s1 rfl) <| cp (oAs tm) (s1 rfl) <| .nil) (by kernel_rfl) ?_
        refine pSeq ?_
        refine wRet ?_
        obtain rfl := so h
        exact pR1 (.inl rfl) rfl (.tmp rfl <| .nil)

theorem reticentref04_Right.ok {a0 : List Int} {a1 : Bool} {r : Bool} (h : reticentref04_Right.f a0 a1 = some r) : FnA Try.prog 49 [(kL (kI .i64)).sig a0, kB.sig a1] (kB.sig r) := by
  refine fnIntro Try.func49 rfl (by kernel_rfl) fun H0 w0 => ?_
  unfold reticentref04_Right.f at h
  refine wSeq ?_
  refine rg (cp (oAs cB) trivial <| .nil) (by kernel_rfl) ?_
  refine pSeq ?_
  refine wSeq ?_
  refine wSeq ?_
  refine rg (cp (oMv tm) (s1 rfl) <| .nil) (by kernel_rfl) ?_
  refine pSeq ?_
  rcases ic h with ⟨hp1, h⟩ | ⟨hp1, h⟩
  · refine wBT hp1 tm (s1 rfl) ?_
    refine wSeq ?_
    obtain ⟨y2, hy2, h⟩ := bd h
    refine rg (cp (oMv tm) (s1 rfl) <| cp (oCall rfl (reticentref04_Made.ok hy2) b15 (opds_cons tm opds_nil)) (s1 rfl) <| cp (oEq rfl tm (cI (by decide))) (s1 rfl) <| cp (oAs tm) (s1 rfl) <| .nil) (by kernel_rfl) ?_
    refine pSeq ?_
    refine wRet ?_
    refine pThenR ?_
    obtain rfl := so h
    exact pR1 (.inl rfl) rfl (.tmp rfl <| .nil)
  · refine wBF hp1 tm (s1 rfl) ?_
    refine wSkip ?_
    refine pSeq ?_
    refine wSeq ?_
    obtain ⟨y3, hy3, h⟩ := bd h
    refine rg (cp (oMv tm) (s1 rfl) <| cp (oCall rfl (reticentref04_Made.ok hy3) b15 (opds_cons tm opds_nil)) (s1 rfl) <| cp (oEq rfl tm (cI (by decide))) (s1 rfl) <| cp (oAs tm) (s1 rfl) <| .nil) (by kernel_rfl) ?_
    refine pSeq ?_
    refine wRet ?_
    obtain rfl := so h
    exact pR1 (.inl rfl) rfl (.tmp rfl <| .nil)

theorem lex_while.ok {a0 : Str} {a1 : Int → Option Bool} {r : Int} (h : lex_while.f a0 a1 = some r) : FnA Try.prog 117 [kS.sig a0, (sFun Try.prog (rl1 (kI .u8) kB a1))] ((kI .i64).sig r) := by
  refine fnIntro Try.func117 rfl (by kernel_rfl) fun H0 w0 => ?_
  unfold lex_while.f at h
  refine wSeq ?_
  refine rg (cp (oAs (cI (by decide))) trivial <| .nil) (by kernel_rfl) ?_
  refine pSeq ?_
  refine wSeq ?_
  refine rg (cp (oAs (cI (by decide))) trivial <| .nil) (by kernel_rfl) ?_
  refine pSeq ?_
  obtain ⟨o1, h, hk1⟩ := bd h
  refine wJ1 (fun x18 => x18 = o1) (fun x18 => [(5, .d ((kI .i64).sig x18))]) (fun x18 => []) ?_ ?_
  · refine wBlock (wLoop ?_)
    refine lW (pc1 o1 (fun v17 => [(0, .d (kS.sig a0)), (1, .d ((sFun Try.prog (rl1 (kI .u8) kB a1)))), (5, .d ((kI .i64).sig v17))]) (fun v17 => []) (lex_while.l0.partial_correctness a0 a1) ?_ _ h) ⟨rfl, rfl, rfl, trivial⟩ rfl
    clear h
    intro f' ih v17 h
    refine wSeq ?_
    obtain ⟨o2, h, hk2⟩ := bd h
    refine wJ1 (fun x22 => x22 = o2) (fun x22 => [(0, .d (kS.sig a0)), (1, .d ((sFun Try.prog (rl1 (kI .u8) kB a1)))), (5, .d ((kI .i64).sig v17)), (16, .d (kB.sig x22))]) (fun x22 => []) ?_ ?_
    · rcases ic h with ⟨hp23, h⟩ | ⟨hp23, h⟩
      · obtain ⟨hc24, h⟩ := ib h
        obtain ⟨y25, hy25, h⟩ := bd h
        refine rg (cp (oMv tm) (s1 rfl) <| cp (oMv tm) (s1 rfl) <| cp (oLenS u9 tm) (s1 rfl) <| cp (oLt rfl tm tm) (s2 rfl rfl) <| cp (oMv tm) (s1 rfl) <| cgB (decide_eq_true hp23) rfl rfl (oMv tm) (s1 rfl) <| cgB (decide_eq_true hp23) rfl rfl (oMv tm) (s1 rfl) <| cgB (decide_eq_true hp23) rfl rfl (oMv tm) (s1 rfl) <| cgB (decide_eq_true hp23) rfl rfl (oIdxS u9 hc24.1 hc24.2 tm tm) (s2 rfl rfl) <| cgB (decide_eq_true hp23) rfl rfl (oCallV rfl (rl1i hy25) tm (opds_cons tm opds_nil)) (s2 rfl rfl) <| cp (oPkT (decide_eq_true hp23) tm tm) (s2 rfl rfl) <| .nil) (by kernel_rfl) ?_
        exact pJ1 _ (so h) ⟨rfl, rfl, rfl, rfl, trivial⟩ rfl
      · refine rg (cp (oMv tm) (s1 rfl) <| cp (oMv tm) (s1 rfl) <| cp (oLenS u9 tm) (s1 rfl) <| cp (oLt rfl tm tm) (s2 rfl rfl) <| cp (oMv tm) (s1 rfl) <| csB (decide_eq_false hp23) rfl rfl <| csB (decide_eq_false hp23) rfl rfl <| csB (decide_eq_false hp23) rfl rfl <| csB (decide_eq_false hp23) rfl rfl <| csB (decide_eq_false hp23) rfl rfl <| cp (oPkF (decide_eq_false hp23) tm cB) (s1 rfl) <| .nil) (by kernel_rfl) ?_
        exact pJ1 _ (so h) ⟨rfl, rfl, rfl, rfl, trivial⟩ rfl
    · rintro x22 rfl
      replace h := hk2
      rcases ic h with ⟨hp26, h⟩ | ⟨hp26, h⟩
      · refine wBT hp26 tm (s1 rfl) ?_
        refine wSkip ?_
        refine pSeq ?_
        refine wBlock ?_
        refine rg (cp (oMv tm) (s1 rfl) <| cp (oAdd tm (cI (by decide))) (s1 rfl) <| cp (oAs tm) (s1 rfl) <| .nil) (by kernel_rfl) ?_
        refine pBlkN ?_
        exact pLoop (lW (ih _ h) ⟨rfl, rfl, rfl, trivial⟩ rfl)
      · refine wBF hp26 tm (s1 rfl) ?_
        refine wExit ?_
        refine pThenX ?_
        refine pThenX ?_
        refine pBlkX ?_
        exact pJ1 _ (so h) ⟨rfl, trivial⟩ rfl
  · rintro x18 rfl
    replace h := hk1
    refine wSeq ?_
    refine rg (cp (oMv tm) (s1 rfl) <| cp (oAs tm) (s1 rfl) <| .nil) (by kernel_rfl) ?_
    refine pSeq ?_
    refine wRet ?_
    obtain rfl := so h
    exact pR1 (.inl rfl) rfl (.tmp rfl <| .nil)

theorem lex_token_1.ok {a0 : Int} {r : Bool} (h : lex_token_1.f a0 = some r) : FnA Try.prog 118 [(kI .u8).sig a0] (kB.sig r) := by
  refine fnIntro Try.func118 rfl (by kernel_rfl) fun H0 w0 => ?_
  unfold lex_token_1.f at h
  refine wSeq ?_
  refine rg (cp (oAs cB) trivial <| .nil) (by kernel_rfl) ?_
  refine pSeq ?_
  refine wSeq ?_
  refine rg (cp (oMv tm) (s1 rfl) <| cp (oNe rfl tm (cI (by decide))) (s1 rfl) <| cp (oAs tm) (s1 rfl) <| .nil) (by kernel_rfl) ?_
  refine pSeq ?_
  refine wRet ?_
  obtain rfl := so h
  exact pR1 (.inl rfl) rfl (.tmp rfl <| .nil)

theorem lex_letter.ok {a0 : Int} {r : Bool} (h : lex_letter.f a0 = some r) : FnA Try.prog 119 [(kI .u8).sig a0] (kB.sig r) := by
  refine fnIntro Try.func119 rfl (by kernel_rfl) fun H0 w0 => ?_
  unfold lex_letter.f at h
  refine wSeq ?_
  refine rg (cp (oAs cB) trivial <| .nil) (by kernel_rfl) ?_
  refine pSeq ?_
  obtain ⟨o1, h, hk1⟩ := bd h
  refine wJ1 (fun x2 => x2 = o1) (fun x2 => [(2, .d (kB.sig x2))]) (fun x2 => []) ?_ ?_
  · rcases ic h with ⟨hp3, h⟩ | ⟨hp3, h⟩
    · refine rg (cp (oMv tm) (s1 rfl) <| cp (oGe rfl tm (cI (by decide))) (s1 rfl) <| cp (oMv tm) (s1 rfl) <| cgB (decide_eq_true hp3) rfl rfl (oMv tm) (s1 rfl) <| cgB (decide_eq_true hp3) rfl rfl (oLe rfl tm (cI (by decide))) (s1 rfl) <| cp (oPkT (decide_eq_true hp3) tm tm) (s2 rfl rfl) <| cp (oAs tm) (s1 rfl) <| .nil) (by kernel_rfl) ?_
      exact pJ1 _ (so h) ⟨rfl, trivial⟩ rfl
    · refine rg (cp (oMv tm) (s1 rfl) <| cp (oGe rfl tm (cI (by decide))) (s1 rfl) <| cp (oMv tm) (s1 rfl) <| csB (decide_eq_false hp3) rfl rfl <| csB (decide_eq_false hp3) rfl rfl <| cp (oPkF (decide_eq_false hp3) tm cB) (s1 rfl) <| cp (oAs tm) (s1 rfl) <| .nil) (by kernel_rfl) ?_
      exact pJ1 _ (so h) ⟨rfl, trivial⟩ rfl
  · rintro x2 rfl
    replace h := hk1
    refine wRet ?_
    obtain rfl := so h
    exact pR1 (.inl rfl) rfl (.tmp rfl <| .nil)

theorem lex_digit.ok {a0 : Int} {r : Bool} (h : lex_digit.f a0 = some r) : FnA Try.prog 120 [(kI .u8).sig a0] (kB.sig r) := by
  refine fnIntro Try.func120 rfl (by kernel_rfl) fun H0 w0 => ?_
  unfold lex_digit.f at h
  refine wSeq ?_
  refine rg (cp (oAs cB) trivial <| .nil) (by kernel_rfl) ?_
  refine pSeq ?_
  obtain ⟨o1, h, hk1⟩ := bd h
  refine wJ1 (fun x2 => x2 = o1) (fun x2 => [(2, .d (kB.sig x2))]) (fun x2 => []) ?_ ?_
  · rcases ic h with ⟨hp3, h⟩ | ⟨hp3, h⟩
    · refine rg (cp (oMv tm) (s1 rfl) <| cp (oGe rfl tm (cI (by decide))) (s1 rfl) <| cp (oMv tm) (s1 rfl) <| cgB (decide_eq_true hp3) rfl rfl (oMv tm) (s1 rfl) <| cgB (decide_eq_true hp3) rfl rfl (oLe rfl tm (cI (by decide))) (s1 rfl) <| cp (oPkT (decide_eq_true hp3) tm tm) (s2 rfl rfl) <| cp (oAs tm) (s1 rfl) <| .nil) (by kernel_rfl) ?_
      exact pJ1 _ (so h) ⟨rfl, trivial⟩ rfl
    · refine rg (cp (oMv tm) (s1 rfl) <| cp (oGe rfl tm (cI (by decide))) (s1 rfl) <| cp (oMv tm) (s1 rfl) <| csB (decide_eq_false hp3) rfl rfl <| csB (decide_eq_false hp3) rfl rfl <| cp (oPkF (decide_eq_false hp3) tm cB) (s1 rfl) <| cp (oAs tm) (s1 rfl) <| .nil) (by kernel_rfl) ?_
      exact pJ1 _ (so h) ⟨rfl, trivial⟩ rfl
  · rintro x2 rfl
    replace h := hk1
    refine wRet ?_
    obtain rfl := so h
    exact pR1 (.inl rfl) rfl (.tmp rfl <| .nil)

theorem stringslite_HasPrefix.ok {a0 : Str} {a1 : Str} {r : Bool} (h : stringslite_HasPrefix.f a0 a1 = some r) : FnA Try.prog 133 [kS.sig a0, kS.sig a1] (kB.sig r) := by
  refine fnIntro Try.func133 rfl (by kernel_rfl) fun H0 w0 => ?_
  unfold stringslite_HasPrefix.f at h
  refine wSeq ?_
  refine rg (cp (oAs cB) trivial <| .nil) (by kernel_rfl) ?_
  refine pSeq ?_
  obtain ⟨o1, h, hk1⟩ := bd h
  refine wJ1 (fun x3 => x3 = o1) (fun x3 => [(4, .d (kB.sig x3))]) (fun x3 => []) ?_ ?_
  · rcases ic h with ⟨hp4, h⟩ | ⟨hp4, h⟩
    · obtain ⟨hc5, h⟩ := ib h
      refine rg (cp (oMv tm) (s1 rfl) <| cp (oLenS u9 tm) (s1 rfl) <| cp (oMv tm) (s1 rfl) <| cp (oLenS u9 tm) (s1 rfl) <| cp (oGe rfl tm tm) (s2 rfl rfl) <| cp (oMv tm) (s1 rfl) <| cgB (decide_eq_true hp4) rfl rfl (oMv tm) (s1 rfl) <| cgB (decide_eq_true hp4) rfl rfl (oMv tm) (s1 rfl) <| cgB (decide_eq_true hp4) rfl rfl (oLenS u9 tm) (s1 rfl) <| cgB (decide_eq_true hp4) rfl rfl (oCutSH u9 hc5.1 hc5.2 tm tm) (s2 rfl rfl) <| cgB (decide_eq_true hp4) rfl rfl (oMv tm) (s1 rfl) <| cgB (decide_eq_true hp4) rfl rfl (oSEq rfl tm tm) (s2 rfl rfl) <| cp (oPkT (decide_eq_true hp4) tm tm) (s2 rfl rfl) <| cp (oAs tm) (s1 rfl) <| .nil) (by kernel_rfl) ?_
      exact pJ1 _ (so h) ⟨rfl, trivial⟩ rfl
    · refine rg (cp (oMv tm) (s1 rfl) <| cp (oLenS u9 tm) (s1 rfl) <| cp (oMv tm) (s1 rfl) <| cp (oLenS u9 tm) (s1 rfl) <| cp (oGe rfl tm tm) (s2 rfl rfl) <| cp (oMv tm) (s1 rfl) <| csB (decide_eq_false hp4) rfl rfl <| csB (decide_eq_false hp4) rfl rfl <| csB (decide_eq_false hp4) rfl rfl <| csB (decide_eq_false hp4) rfl rfl <| csB (decide_eq_false hp4) rfl rfl <| csB (decide_eq_false hp4) rfl rfl <| cp (oPkF (decide_eq_false hp4) tm cB) (s1 rfl) <| cp (oAs tm) (s1 rfl) <| .nil) (by kernel_rfl) ?_
      exact pJ1 _ (so h) ⟨rfl, trivial⟩ rfl
  · rintro x3 rfl
    replace h := hk1
    refine wRet ?_
    obtain rfl := so h
    exact pR1 (.inl rfl) rfl (.tmp rfl <| .nil)

theorem strings_HasPrefix.ok {a0 : Str} {a1 : Str} {r : Bool} (h : strings_HasPrefix.f a0 a1 = some r) : FnA Try.prog 121 [kS.sig a0, kS.sig a1] (kB.sig r) := by
  refine fnIntro Try.func121 rfl (by kernel_rfl) fun H0 w0 => ?_
  unfold strings_HasPrefix.f at h
  refine wSeq ?_
  refine rg (cp (oAs cB) trivial <| .nil) (by kernel_rfl) ?_
  refine pSeq ?_
  refine wSeq ?_
  obtain ⟨y1, hy1, h⟩ := bd h
  refine rg (cp (oMv tm) (s1 rfl) <| cp (oMv tm) (s1 rfl) <| cp (oCall rfl (stringslite_HasPrefix.ok hy1) b133 (opds_cons tm (opds_cons tm opds_nil))) (s2 rfl rfl) <| cp (oAs tm) (s1 rfl) <| .nil) (by kernel_rfl) ?_
  refine pSeq ?_
  refine wRet ?_
  obtain rfl := so h
  exact pR1 (.inl rfl) rfl (.tmp rfl <| .nil)

theorem lex_token.ok {a0 : Str} {r : Int × Int} (h : lex_token.f a0 = some r) : FnA Try.prog 90 [kS.sig a0] (tup [(kI .i64).sig r.1, (kI .i64).sig r.2]) := by
  refine fnIntro Try.func90 rfl (by kernel_rfl) fun H0 w0 => ?_
  unfold lex_token.f at h
  refine wSeq ?_
  refine rg (cp (oAs (cI (by decide))) trivial <| cp (oAs (cI (by decide))) trivial <| .nil) (by kernel_rfl) ?_
  refine pSeq ?_
  refine wSeq ?_
  obtain ⟨hc1, h⟩ := ib h
  refine rg (cp (oMv tm) (s1 rfl) <| cp (oIdxS u9 hc1.1 hc1.2 tm (cI (by decide))) (s1 rfl) <| cp (oAs tm) (s1 rfl) <| .nil) (by kernel_rfl) ?_
  refine pSeq ?_
  refine wSeq ?_
  refine wBlock ?_
  obtain ⟨o1, h, hk1⟩ := bd h
  refine wJ1 (fun x4 => x4 = o1) (fun x4 => [(0, .d (kS.sig a0)), (4, .d ((kI .u8).sig (sAt a0 0))), (7, .d (kB.sig x4))]) (fun x4 => []) ?_ ?_
  · rcases ic h with ⟨hp5, h⟩ | ⟨hp5, h⟩
    · refine rg (cp (oMv tm) (s1 rfl) <| cp (oEq rfl tm (cI (by decide))) (s1 rfl) <| cp (oMv tm) (s1 rfl) <| csB (decide_eq_true hp5) rfl rfl <| csB (decide_eq_true hp5) rfl rfl <| cp (oPkT (decide_eq_true hp5) tm cB) (s1 rfl) <| cp (oMv tm) (s1 rfl) <| csB rfl rfl rfl <| csB rfl rfl rfl <| cp (oPkT rfl tm cB) (s1 rfl) <| cp (oAs tm) (s1 rfl) <| .nil) (by kernel_rfl) ?_
      exact pJ1 _ (so h) ⟨rfl, rfl, rfl, trivial⟩ rfl
    · rcases ic h with ⟨hp6, h⟩ | ⟨hp6, h⟩
      · refine rg (cp (oMv tm) (s1 rfl) <| cp (oEq rfl tm (cI (by decide))) (s1 rfl) <| cp (oMv tm) (s1 rfl) <| cgB (decide_eq_false hp5) rfl rfl (oMv tm) (s1 rfl) <| cgB (decide_eq_false hp5) rfl rfl (oEq rfl tm (cI (by decide))) (s1 rfl) <| cp (oPkF (decide_eq_false hp5) tm tm) (s2 rfl rfl) <| cp (oMv tm) (s1 rfl) <| csB (decide_eq_true hp6) rfl rfl <| csB (decide_eq_true hp6) rfl rfl <| cp (oPkT (decide_eq_true hp6) tm cB) (s1 rfl) <| cp (oAs tm) (s1 rfl) <| .nil) (by kernel_rfl) ?_
        exact pJ1 _ (so h) ⟨rfl, rfl, rfl, trivial⟩ rfl
      · refine rg (cp (oMv tm) (s1 rfl) <| cp (oEq rfl tm (cI (by decide))) (s1 rfl) <| cp (oMv tm) (s1 rfl) <| cgB (decide_eq_false hp5) rfl rfl (oMv tm) (s1 rfl) <| cgB (decide_eq_false hp5) rfl rfl (oEq rfl tm (cI (by decide))) (s1 rfl) <| cp (oPkF (decide_eq_false hp5) tm tm) (s2 rfl rfl) <| cp (oMv tm) (s1 rfl) <| cgB (decide_eq_false hp6) rfl rfl (oMv tm) (s1 rfl) <| cgB (decide_eq_false hp6) rfl rfl (oEq rfl tm (cI (by decide))) (s1 rfl) <| cp (oPkF (decide_eq_false hp6) tm tm) (s2 rfl rfl) <| cp (oAs tm) (s1 rfl) <| .nil) (by kernel_rfl) ?_
        exact pJ1 _ (so h) ⟨rfl, rfl, rfl, trivial⟩ rfl
  · rintro x4 rfl
    replace h := hk1
    rcases ic h with ⟨hp7, h⟩ | ⟨hp7, h⟩
    · refine wBT hp7 tm (s1 rfl) ?_
      refine wSeq ?_
      refine rg (cp (oAs (cI (by decide))) trivial <| cp (oAs (cI (by decide))) trivial <| .nil) (by kernel_rfl) ?_
      refine pSeq ?_
      refine wRet ?_
      refine pBlkR ?_
      refine pThenR ?_
      obtain rfl := so h
      exact pRn (.inl rfl) rfl rfl (.tmp rfl <| .tmp rfl <| .nil)
    · refine wBF hp7 tm (s1 rfl) ?_
      refine wSeq ?_
      refine rg (cp (oMv tm) (s1 rfl) <| cp (oEq rfl tm (cI (by decide))) (s1 rfl) <| cp (oAs tm) (s1 rfl) <| .nil) (by kernel_rfl) ?_
      refine pSeq ?_
      rcases ic h with ⟨hp8, h⟩ | ⟨hp8, h⟩
      · refine wCT hp8 tm (s1 rfl) ?_
        refine wSeq ?_
        obtain ⟨y9, hy9, h⟩ := bd h
        refine rg (cp (oMv tm) (s1 rfl) <| cp (oCall rfl (lex_while.ok hy9) b117 (opds_cons tm (opds_cons (oFn b118 (rl1n lex_token_1.ok)) opds_nil))) (s1 rfl) <| cp (oAs (cI (by decide))) trivial <| cp (oAs tm) (s1 rfl) <| .nil) (by kernel_rfl) ?_
        refine pSeq ?_
        refine wRet ?_
        refine pBlkR ?_
        refine pThenR ?_
        obtain rfl := so h
        exact pRn (.inl rfl) rfl rfl (.tmp rfl <| .tmp rfl <| .nil)
      · refine wCF hp8 tm (s1 rfl) ?_
        refine wSeq ?_
        obtain ⟨y10, hy10, h⟩ := bd h
        refine rg (cp (oMv tm) (s1 rfl) <| cp (oCall rfl (lex_letter.ok hy10) b119 (opds_cons tm opds_nil)) (s1 rfl) <| cp (oAs tm) (s1 rfl) <| .nil) (by kernel_rfl) ?_
        refine pSeq ?_
        rcases ic h with ⟨hp11, h⟩ | ⟨hp11, h⟩
        · refine wBT hp11 tm (s1 rfl) ?_
          refine wSeq ?_
          obtain ⟨y12, hy12, h⟩ := bd h
          refine rg (cp (oMv tm) (s1 rfl) <| cp (oCall rfl (lex_while.ok hy12) b117 (opds_cons tm (opds_cons (oFn b119 (rl1n lex_letter.ok)) opds_nil))) (s1 rfl) <| cp (oAs (cI (by decide))) trivial <| cp (oAs tm) (s1 rfl) <| .nil) (by kernel_rfl) ?_
          refine pSeq ?_
          refine wRet ?_
          refine pBlkR ?_
          refine pThenR ?_
          obtain rfl := so h
          exact pRn (.inl rfl) rfl rfl (.tmp rfl <| .tmp rfl <| .nil)
        · refine wBF hp11 tm (s1 rfl) ?_
          refine wSeq ?_
          obtain ⟨y13, hy13, h⟩ := bd h
          refine rg (cp (oMv tm) (s1 rfl) <| cp (oCall rfl (lex_digit.ok hy13) b120 (opds_cons tm opds_nil)) (s1 rfl) <| cp (oAs tm) (s1 rfl) <| .nil) (by kernel_rfl) ?_
          refine pSeq ?_
          rcases ic h with ⟨hp14, h⟩ | ⟨hp14, h⟩
          · refine wBT hp14 tm (s1 rfl) ?_
            refine wSeq ?_
            obtain ⟨y15, hy15, h⟩ := bd h
            refine rg (cp (oMv tm) (s1 rfl) <| cp (oCall rfl (lex_while.ok hy15) b117 (opds_cons tm (opds_cons (oFn b120 (rl1n lex_digit.ok)) opds_nil))) (s1 rfl) <| cp (oAs (cI (by decide))) trivial <| cp (oAs tm) (s1 rfl) <| .nil) (by kernel_rfl) ?_
            refine pSeq ?_
            refine wRet ?_
            refine pBlkR ?_
            refine pThenR ?_
            obtain rfl := so h
            exact pRn (.inl rfl) rfl rfl (.tmp rfl <| .tmp rfl <| .nil)
          · refine wBF hp14 tm (s1 rfl) ?_
            refine wSeq ?_
            obtain ⟨y16, hy16, h⟩ := bd h
            refine rg (cp (oMv tm) (s1 rfl) <| cp (oCall rfl (strings_HasPrefix.ok hy16) b121 (opds_cons tm (opds_cons (cS (by decide)) opds_nil))) (s1 rfl) <| cp (oAs tm) (s1 rfl) <| .nil) (by kernel_rfl) ?_
            refine pSeq ?_
            rcases ic h with ⟨hp17, h⟩ | ⟨hp17, h⟩
            · refine wBT hp17 tm (s1 rfl) ?_
              refine wSeq ?_
              refine rg (cp (oAs (cI (by decide))) trivial <| cp (oAs (cI (by decide))) trivial <| .nil) (by kernel_rfl) ?_
              refine pSeq ?_
              refine wRet ?_
              refine pBlkR ?_
              refine pThenR ?_
              obtain rfl := so h
              exact pRn (.inl rfl) rfl rfl (.tmp rfl <| .tmp rfl <| .nil)
            · refine wBF hp17 tm (s1 rfl) ?_
              refine wSeq ?_
              obtain ⟨y18, hy18, h⟩ := bd h
              refine rg (cp (oMv tm) (s1 rfl) <| cp (oCall rfl (libIndexByte Try.strings_IndexByte hy18) b122 (opds_cons (cS (by decide)) (opds_cons tm opds_nil))) (s1 rfl) <| cp (oGe rfl tm (cI (by decide))) (s1 rfl) <| cp (oAs tm) (s1 rfl) <| .nil) (by kernel_rfl) ?_
              refine pSeq ?_
              rcases ic h with ⟨hp19, h⟩ | ⟨hp19, h⟩
              · refine wCT hp19 tm (s1 rfl) ?_
                refine wSeq ?_
                refine rg (cp (oAs (cI (by decide))) trivial <| cp (oAs (cI (by decide))) trivial <| .nil) (by kernel_rfl) ?_
                refine pSeq ?_
                refine wRet ?_
                refine pBlkR ?_
                refine pThenR ?_
                obtain rfl := so h
                exact pRn (.inl rfl) rfl rfl (.tmp rfl <| .tmp rfl <| .nil)
              · refine wCF hp19 tm (s1 rfl) ?_
                refine wSkip ?_
                refine pBlkN ?_
                refine pSeq ?_
                refine wSeq ?_
                refine rg (cp (oAs (cI (by decide))) trivial <| cp (oAs (cI (by decide))) trivial <| .nil) (by kernel_rfl) ?_
                refine pSeq ?_
                refine wRet ?_
                obtain rfl := so h
                exact pRn (.inl rfl) rfl rfl (.tmp rfl <| .tmp rfl <| .nil)

theorem lex_Lex.ok {a0 : Str} {r : (List api_Tok) × Int × Int} (h : lex_Lex.f a0 = some r) : FnA Try.prog 57 [kS.sig a0] (tup [(kL (kR f_api_Tok)).sig r.1, (kI .i64).sig r.2.1, (kI .i64).sig r.2.2]) := by
  refine fnIntro Try.func57 rfl (by kernel_rfl) fun H0 w0 => ?_
  unfold lex_Lex.f at h
  refine wSeq ?_
  refine rg (cp (oAs cV) trivial <| cp (oAs (cI (by decide))) trivial <| cp (oAs (cI (by decide))) trivial <| .nil) (by kernel_rfl) ?_
  refine pSeq ?_
  refine wSeq ?_
  refine wSeq ?_
  refine rg (cp (oMv tm) (s1 rfl) <| cp (oLenS u9 tm) (s1 rfl) <| cp (oGt rfl tm (cI (by decide))) (s1 rfl) <| .nil) (by kernel_rfl) ?_
  refine pSeq ?_
  rcases ic h with ⟨hp1, h⟩ | ⟨hp1, h⟩
  · refine wCT hp1 tm (s1 rfl) ?_
    refine wSeq ?_
    refine rg (cp (oAs cV) trivial <| cp (oAs (cI (by decide))) trivial <| cp (oAs (cI (by decide))) trivial <| .nil) (by kernel_rfl) ?_
    refine pSeq ?_
    refine wNil (kR f_api_Tok) 36 9002 2 rfl rfl ?_
    refine wFrzR (n := 0) (id := 9002) [2] rfl rfl ⟨rfl, trivial⟩ ?_
    refine wRet ?_
    refine pThenR ?_
    obtain rfl := so h
    exact pRn (.inl rfl) rfl rfl (.tmp rfl <| .tmp rfl <| .tmp rfl <| .nil)
  · refine wCF hp1 tm (s1 rfl) ?_
    refine wSkip ?_
    refine pSeq ?_
    refine wSeq ?_
    refine rg (cp (oAs cV) trivial <| .nil) (by kernel_rfl) ?_
    refine pSeq ?_
    refine wSeq ?_
    refine wSeq ?_
    refine rg (cp (oAs (cI (by decide))) trivial <| .nil) (by kernel_rfl) ?_
    refine pSeq ?_
    refine wNil (kR f_api_Tok) 36 1005 5 rfl rfl ?_
    obtain ⟨o1, h, hk1⟩ := bd h
    refine wK1 (fun x34 => .inr x34 = o1) (fun x34 => [(0, .d (kS.sig a0)), (5, .v 1005)]) (fun x34 => [.row 1005 36 (kR f_api_Tok) x34]) ?_ ?_
    · refine wBlock (wLoop ?_)
      refine lW (pc2 o1 (fun v32 v33 => [(0, .d (kS.sig a0)), (5, .v 1005), (6, .d ((kI .i64).sig v33))]) (fun v32 v33 => [.row 1005 36 (kR f_api_Tok) v32]) (lex_Lex.l0.partial_correctness a0) ?_ _ _ h) ⟨rfl, rfl, rfl, trivial⟩ rfl
      clear h
      intro f' ih v32 v33 h
      refine wSeq ?_
      refine wSeq ?_
      refine rg (cp (oMv tm) (s1 rfl) <| cp (oMv tm) (s1 rfl) <| cp (oLenS u9 tm) (s1 rfl) <| cp (oLt rfl tm tm) (s2 rfl rfl) <| .nil) (by kernel_rfl) ?_
      refine pSeq ?_
      rcases ic h with ⟨hp35, h⟩ | ⟨hp35, h⟩
      · refine wCT hp35 tm (s1 rfl) ?_
        refine wSkip ?_
        refine pSeq ?_
        obtain ⟨o2, h, hk2⟩ := bd h
        refine wK2 (fun x42 x43 => .inr (x42, x43) = o2) (fun x42 x43 => [(0, .d (kS.sig a0)), (5, .v 1005), (6, .d ((kI .i64).sig x43))]) (fun x42 x43 => [.row 1005 36 (kR f_api_Tok) x42]) ?_ ?_
        · refine wBlock ?_
          refine wSeq ?_
          obtain ⟨hc44, h⟩ := ib h
          obtain ⟨y45, hy45, h⟩ := bd h
          refine rg (cp (oMv tm) (s1 rfl) <| cp (oMv tm) (s1 rfl) <| cp (oCutSL u9 hc44.1 hc44.2 tm tm) (s2 rfl rfl) <| cp (oCall rfl (lex_token.ok hy45) b90 (opds_cons tm opds_nil)) (s1 rfl) <| cp (oMv tm) (s1 rfl) <| cp (oExt (k := 0) rfl tm) (s1 rfl) <| cp (oExt (k := 1) rfl tm) (s1 rfl) <| cp (oAs tm) (s1 rfl) <| cp (oAs tm) (s1 rfl) <| .nil) (by kernel_rfl) ?_
          refine pSeq ?_
          refine wSeq ?_
          refine wSeq ?_
          refine rg (cp (oMv tm) (s1 rfl) <| cp (oEq rfl tm (cI (by decide))) (s1 rfl) <| .nil) (by kernel_rfl) ?_
          refine pSeq ?_
          rcases ic h with ⟨hp46, h⟩ | ⟨hp46, h⟩
          · refine wCT hp46 tm (s1 rfl) ?_
            refine wSeq ?_
            refine rg (cp (oMv tm) (s1 rfl) <| cp (oAs cV) trivial <| cp (oAs tm) (s1 rfl) <| cp (oAs (cI (by decide))) trivial <| .nil) (by kernel_rfl) ?_
            refine pSeq ?_
            refine wNil (kR f_api_Tok) 36 9002 2 rfl rfl ?_
            refine wFrzR (n := 0) (id := 9002) [2] rfl rfl ⟨rfl, trivial⟩ ?_
            refine wRet ?_
            refine pThenR ?_
            refine pBlkR ?_
            refine pThenR ?_
            obtain rfl := so h
            replace h := hk2
            refine pThenR ?_
            refine pBlkR ?_
            refine pThenR ?_
            obtain rfl := so h
            replace h := hk1
            refine pThenR ?_
            obtain rfl := so h
            exact pRn (.inl rfl) rfl rfl (.tmp rfl <| .tmp rfl <| .tmp rfl <| .nil)
          · refine wCF hp46 tm (s1 rfl) ?_
            refine wSkip ?_
            refine pSeq ?_
            refine wSeq ?_
            refine wSeq ?_
            refine rg (cp (oMv tm) (s1 rfl) <| cp (oNe rfl tm (cI (by decide))) (s1 rfl) <| .nil) (by kernel_rfl) ?_
            refine pSeq ?_
            rcases ic h with ⟨hp47, h⟩ | ⟨hp47, h⟩
            · refine wNT hp47 tm (s1 rfl) ?_
              refine wSkip ?_
              refine pSeq ?_
              refine rg (cp (oMv tm) (s1 rfl) <| cp (oMv tm) (s1 rfl) <| cp (oAdd tm tm) (s2 rfl rfl) <| cp (oAs tm) (s1 rfl) <| .nil) (by kernel_rfl) ?_
              refine pBlkN ?_
              exact pJ2 _ _ (so h) ⟨rfl, rfl, rfl, trivial⟩ rfl
            · refine wNF hp47 tm (s1 rfl) ?_
              obtain ⟨hc48, h⟩ := ib h
              obtain ⟨hc49, h⟩ := ib h
              refine rg (cp (oMv tm) (s1 rfl) <| cp (oMv tm) (s1 rfl) <| cp (oMv tm) (s1 rfl) <| cp (oMv tm) (s1 rfl) <| cp (oMv tm) (s1 rfl) <| cp (oMv tm) (s1 rfl) <| cp (oAdd tm tm) (s2 rfl rfl) <| cp (oCutS u9 hc48.1 hc48.2.1 hc48.2.2 tm tm tm) (s3 rfl rfl rfl) <| cp (oMv tm) (s1 rfl) <| cp (oBuild (fs := f_api_Tok) (u := ⟨y45.1, sCut a0 v33 (IntKind.i64.wrap (v33 + y45.2)), v33⟩) rfl ze36 pl36 po36 (.op (zc := [(.int .i64 0)]) tm rfl (.op (zc := [(.string ⟨⟨[]⟩⟩)]) tm rfl (.op (zc := [(.int .i64 0)]) tm rfl .nil)))) (s3 rfl rfl rfl) <| cp (oLit (d := (kR f_api_Tok)) el34 (by decide) rfl rfl rfl (e1 tm e0)) (s1 rfl) <| cw (oApp (n := 0) (id' := 39) el34 (by decide) rfl (by decide) hc49 tm tm) (s2 rfl rfl) <| cp (oAs tm) (s1 rfl) <| .nil) (by kernel_rfl) ?_
              refine pSeq ?_
              refine rg (cp (oMv tm) (s1 rfl) <| cp (oMv tm) (s1 rfl) <| cp (oAdd tm tm) (s2 rfl rfl) <| cp (oAs tm) (s1 rfl) <| .nil) (by kernel_rfl) ?_
              refine pBlkN ?_
              refine pSub (Γ' := [(0, .d (kS.sig a0)), (5, .v 39), (6, .d ((kI .i64).sig (IntKind.i64.wrap (v33 + y45.2))))]) ⟨rfl, rfl, rfl, trivial⟩ ?_
              refine pRen 39 1005 rfl ?_
              exact pJ2 _ _ (so h) ⟨rfl, rfl, rfl, trivial⟩ rfl
        · rintro x42 x43 rfl
          replace h := hk2
          exact pLoop (lW (ih _ _ h) ⟨rfl, rfl, rfl, trivial⟩ rfl)
      · refine wCF hp35 tm (s1 rfl) ?_
        refine wExit ?_
        refine pThenX ?_
        refine pThenX ?_
        refine pBlkX ?_
        exact pJ1 _ (so h) ⟨rfl, rfl, trivial⟩ rfl
    · rintro x34 rfl
      replace h := hk1
      refine pSeq ?_
      refine wSeq ?_
      obtain ⟨hc50, h⟩ := ib h
      refine rg (cp (oMv tm) (s1 rfl) <| cp (oMv tm) (s1 rfl) <| cp (oLenS u9 tm) (s1 rfl) <| cp (oBuild (fs := f_api_Tok) (u := ⟨0, [], (a0.length : Int)⟩) rfl ze36 pl36 po36 (.ze (zc := [(.int .i64 0)]) zI_i64 (.ze (zc := [(.string ⟨⟨[]⟩⟩)]) zS (.op (zc := [(.int .i64 0)]) tm rfl .nil)))) (s1 rfl) <| cp (oLit (d := (kR f_api_Tok)) el34 (by decide) rfl rfl rfl (e1 tm e0)) (s1 rfl) <| cw (oApp (n := 0) (id' := 48) el34 (by decide) rfl (by decide) hc50 tm tm) (s2 rfl rfl) <| cp (oAs tm) (s1 rfl) <| .nil) (by kernel_rfl) ?_
      refine pSeq ?_
      refine wSeq ?_
      refine wSeq ?_
      refine rg (cp (oMv tm) (s1 rfl) <| cr (oLenR (n := 0) u34 rfl tm) (s1 rfl) <| cp (oGt rfl tm (cI (by decide))) (s1 rfl) <| .nil) (by kernel_rfl) ?_
      refine pSeq ?_
      rcases ic h with ⟨hp51, h⟩ | ⟨hp51, h⟩
      · refine wCT hp51 tm (s1 rfl) ?_
        refine wSeq ?_
        refine rg (cp (oAs cV) trivial <| cp (oAs (cI (by decide))) trivial <| cp (oAs (cI (by decide))) trivial <| .nil) (by kernel_rfl) ?_
        refine pSeq ?_
        refine wNil (kR f_api_Tok) 36 9002 2 rfl rfl ?_
        refine wFrzR (n := 0) (id := 9002) [2] rfl rfl ⟨rfl, trivial⟩ ?_
        refine wRet ?_
        refine pThenR ?_
        obtain rfl := so h
        exact pRn (.inl rfl) rfl rfl (.tmp rfl <| .tmp rfl <| .tmp rfl <| .nil)
      · refine wCF hp51 tm (s1 rfl) ?_
        refine wSkip ?_
        refine pSeq ?_
        refine wSeq ?_
        refine rg (cp (oMv tm) (s1 rfl) <| cp (oAs tm) (s1 rfl) <| cp (oAs (cI (by decide))) trivial <| cp (oAs (cI (by decide))) trivial <| .nil) (by kernel_rfl) ?_
        refine pSeq ?_
        refine wFrzR (n := 0) (id := 48) [2] rfl rfl ⟨rfl, trivial⟩ ?_
        refine wRet ?_
        obtain rfl := so h
        exact pRn (.inl rfl) rfl rfl (.tmp rfl <| .tmp rfl <| .tmp rfl <| .nil)

theorem rule_words.ok {r : List (Str × Int)} (h : rule_words.f = some r) : FnA Try.prog 141 [] ((sMap kS (kI .i64) r)) := by
  refine fnIntro Try.func141 rfl (by kernel_rfl) fun H0 w0 => ?_
  unfold rule_words.f at h
  refine wSeq ?_
  refine rg (cp (oAs cV) trivial <| .nil) (by kernel_rfl) ?_
  refine pSeq ?_
  refine wSeq ?_
  refine rg (cw (oMkMap (id := 1) (dk := kS) (dv := (kI .i64))) trivial <| cwn (oInsert (n := 0) (dk := kS) (dv := (kI .i64)) rfl u169 mk9 rfl rfl tm (cS (by decide)) (cI (by decide))) (s1 rfl) <| cwn (oInsert (n := 0) (dk := kS) (dv := (kI .i64)) rfl u169 mk9 rfl rfl tm (cS (by decide)) (cI (by decide))) (s1 rfl) <| cwn (oInsert (n := 0) (dk := kS) (dv := (kI .i64)) rfl u169 mk9 rfl rfl tm (cS (by decide)) (cI (by decide))) (s1 rfl) <| cwn (oInsert (n := 0) (dk := kS) (dv := (kI .i64)) rfl u169 mk9 rfl rfl tm (cS (by decide)) (cI (by decide))) (s1 rfl) <| cwn (oInsert (n := 0) (dk := kS) (dv := (kI .i64)) rfl u169 mk9 rfl rfl tm (cS (by decide)) (cI (by decide))) (s1 rfl) <| cwn (oInsert (n := 0) (dk := kS) (dv := (kI .i64)) rfl u169 mk9 rfl rfl tm (cS (by decide)) (cI (by decide))) (s1 rfl) <| cp (oMv tm) (s1 rfl) <| cp (oAs tm) (s1 rfl) <| .nil) (by kernel_rfl) ?_
  refine pSeq ?_
  refine wFrzM (n := 0) (id := 1) 0 rfl rfl ?_
  refine wRet ?_
  obtain rfl := so h
  exact pR1 (.inl rfl) rfl (.tmp rfl <| .nil)

theorem rule_parser_next.ok {a0 : rule_parser} {r : rule_parser} (h : rule_parser_next.f a0 = some r) : FnS Try.prog 139 [.p 70000 0] [.box 70000 106 [.d (kL (kR f_api_Tok)) a0.l_, .d (kI .i64) a0.i_, .v 70003, .d (kI .i64) a0.deep_, .d (kI .i64) a0.bad_], .row 70003 3 (kI .i64) a0.out_] [70000] (.d (tup [])) [.box 70000 106 [.d (kL (kR f_api_Tok)) r.l_, .d (kI .i64) r.i_, .v 70003, .d (kI .i64) r.deep_, .d (kI .i64) r.bad_], .row 70003 3 (kI .i64) r.out_] := by
  refine fnIntroS Try.func139 rfl (by kernel_rfl) fun X H0 w0 pv => ?_
  unfold rule_parser_next.f at h
  refine rgD hm (cp (oMv tm) (s1 rfl) <| cp (oMv tm) (s1 rfl) <| cp (oNilP tm) (s1 rfl) <| cp (oFldP o106_1 tm) (s1 rfl) <| cr (oLdB (n := 0) (k := 1) rfl rfl rfl t3 tm) (s1 rfl) <| cp (oAdd tm (cI (by decide))) (s1 rfl) <| cp (oMv tm) (s1 rfl) <| cp (oNilP tm) (s1 rfl) <| cp (oFldP o106_0 tm) (s1 rfl) <| cr (oLdB (n := 0) (k := 0) rfl rfl rfl t34 tm) (s1 rfl) <| cp (oLenL u34 tm) (s1 rfl) <| cp (oSub tm (cI (by decide))) (s1 rfl) <| cp (oMin tm tm) (s2 rfl rfl) <| cp (oNilP tm) (s1 rfl) <| cp (oFldP o106_1 tm) (s1 rfl) <| cwn (oSt (n := 0) (k := 1) rfl rfl rfl rfl z3 tm tm) (s2 rfl rfl) <| .nil) (by kernel_rfl) (by kernel_rfl) ?_
  obtain rfl := so h
  exact pSn [0, 1] rfl rfl (.inr rfl) rfl rfl (.nil)

theorem rule_parser_fail.ok {a0 : rule_parser} {a1 : Int} {r : rule_parser} (h : rule_parser_fail.f a0 a1 = some r) : FnS Try.prog 140 [.p 70000 0, .d ((kI .i64).sig a1)] [.box 70000 106 [.d (kL (kR f_api_Tok)) a0.l_, .d (kI .i64) a0.i_, .v 70003, .d (kI .i64) a0.deep_, .d (kI .i64) a0.bad_], .row 70003 3 (kI .i64) a0.out_] [70000] (.d (tup [])) [.box 70000 106 [.d (kL (kR f_api_Tok)) r.l_, .d (kI .i64) r.i_, .v 70003, .d (kI .i64) r.deep_, .d (kI .i64) r.bad_], .row 70003 3 (kI .i64) r.out_] := by
  refine fnIntroS Try.func140 rfl (by kernel_rfl) fun X H0 w0 pv => ?_
  unfold rule_parser_fail.f at h
  refine wSeq ?_
  refine rg (cp (oMv tm) (s1 rfl) <| cp (oNilP tm) (s1 rfl) <| cp (oFldP o106_4 tm) (s1 rfl) <| cr (oLdB (n := 0) (k := 4) rfl rfl rfl t23 tm) (s1 rfl) <| cp (oEq rfl tm (cI (by decide))) (s1 rfl) <| .nil) (by kernel_rfl) ?_
  refine pSeq ?_
  rcases ic h with ⟨hp1, h⟩ | ⟨hp1, h⟩
  · refine wCT hp1 tm (s1 rfl) ?_
    refine rg (cp (oMv tm) (s1 rfl) <| cp (oMv tm) (s1 rfl) <| cp (oNilP tm) (s1 rfl) <| cp (oFldP o106_4 tm) (s1 rfl) <| cwn (oSt (n := 0) (k := 4) rfl rfl rfl rfl z23 tm tm) (s2 rfl rfl) <| .nil) (by kernel_rfl) ?_
    obtain rfl := so h
    exact pSn [0, 1] rfl rfl (.inr rfl) rfl rfl (.nil)
  · refine wCF hp1 tm (s1 rfl) ?_
    refine wSkip ?_
    obtain rfl := so h
    exact pSn [0, 1] rfl rfl (.inr rfl) rfl rfl (.nil)

theorem rule_parser_put.ok {a0 : rule_parser} {a1 : Int} {r : rule_parser} (h : rule_parser_put.f a0 a1 = some r) : FnS Try.prog 130 [.p 70000 0, .d ((kI .i64).sig a1)] [.box 70000 106 [.d (kL (kR f_api_Tok)) a0.l_, .d (kI .i64) a0.i_, .v 70003, .d (kI .i64) a0.deep_, .d (kI .i64) a0.bad_], .row 70003 3 (kI .i64) a0.out_] [70000] (.d (tup [])) [.box 70000 106 [.d (kL (kR f_api_Tok)) r.l_, .d (kI .i64) r.i_, .v 70003, .d (kI .i64) r.deep_, .d (kI .i64) r.bad_], .row 70003 3 (kI .i64) r.out_] := by
  refine fnIntroS Try.func130 rfl (by kernel_rfl) fun X H0 w0 pv => ?_
  unfold rule_parser_put.f at h
  refine wWeak (Γ' := [(0, .p 70000 0), (1, .d ((kI .i64).sig a1))]) ⟨rfl, rfl, trivial⟩ ?_
  refine wRen 70003 3505002 rfl ?_
  obtain ⟨o1, h, hk1⟩ := bd h
  refine wK5 (fun x5 x6 x7 x8 x9 => (x5, x6, x7, x8, x9) = o1) (fun x5 x6 x7 x8 x9 => []) (fun x5 x6 x7 x8 x9 => [.box 70000 106 [.d (kL (kR f_api_Tok)) x5, .d (kI .i64) x6, .v 3505002, .d (kI .i64) x7, .d (kI .i64) x8], .row 3505002 3 (kI .i64) x9]) ?_ ?_
  · refine wBlock ?_
    refine wSeq ?_
    refine rg (cp (oMv tm) (s1 rfl) <| cp (oNilP tm) (s1 rfl) <| cp (oFldP o106_4 tm) (s1 rfl) <| cr (oLdB (n := 0) (k := 4) rfl rfl rfl t23 tm) (s1 rfl) <| cp (oNe rfl tm (cI (by decide))) (s1 rfl) <| cp (oAs tm) (s1 rfl) <| .nil) (by kernel_rfl) ?_
    refine pSeq ?_
    rcases ic h with ⟨hp10, h⟩ | ⟨hp10, h⟩
    · refine wNT hp10 tm (s1 rfl) ?_
      refine wSeq ?_
      refine rg (cp (oMv tm) (s1 rfl) <| cp (oNilP tm) (s1 rfl) <| cp (oFldP o106_2 tm) (s1 rfl) <| cr (oLdN (n := 0) (k := 2) rfl rfl rfl t22 tm) (s1 rfl) <| cr (oLenR (n := 1) u22 rfl tm) (s1 rfl) <| cp (oEq rfl tm (cI (by decide))) (s1 rfl) <| cp (oAs tm) (s1 rfl) <| .nil) (by kernel_rfl) ?_
      refine pSeq ?_
      rcases ic h with ⟨hp11, h⟩ | ⟨hp11, h⟩
      · refine wCT hp11 tm (s1 rfl) ?_
        obtain ⟨y12, hy12, h⟩ := bd h
        refine rg (cp (oMv tm) (s1 rfl) <| cm (oCallS (rest := []) (R' := [.box 70000 106 [.d (kL (kR f_api_Tok)) y12.l_, .d (kI .i64) y12.i_, .v 330040, .d (kI .i64) y12.deep_, .d (kI .i64) y12.bad_], .row 330040 3 (kI .i64) y12.out_]) (out' := .d (tup [])) [(70000, 70000), (70003, 3505002)] [(70003, 330040)] [0, 1] [] [0, 1] rfl (rule_parser_fail.ok hy12) b140 (oE1 tm (oE1 (cI (by decide)) oE0)) rfl rfl rfl rfl rfl rfl rfl rfl) (s1 rfl) <| .nil) (by kernel_rfl) ?_
        refine pBlkN ?_
        refine pSub (Γ' := []) trivial ?_
        refine pRen 330040 3505002 rfl ?_
        exact pJ5 _ _ _ _ _ (so h) trivial rfl
      · refine wCF hp11 tm (s1 rfl) ?_
        obtain ⟨hc13, h⟩ := ib h
        refine rg (cp (oMv tm) (s1 rfl) <| cp (oMv tm) (s1 rfl) <| cp (oNilP tm) (s1 rfl) <| cp (oFldP o106_2 tm) (s1 rfl) <| cr (oLdN (n := 0) (k := 2) rfl rfl rfl t22 tm) (s1 rfl) <| cp (oMv tm) (s1 rfl) <| cp (oLit (d := (kI .i64)) el22 (by decide) rfl rfl rfl (e1 tm e0)) (s1 rfl) <| cw (oApp (n := 1) (id' := 11) el22 (by decide) rfl (by decide) hc13 tm tm) (s2 rfl rfl) <| cp (oNilP tm) (s1 rfl) <| cp (oFldP o106_2 tm) (s1 rfl) <| cwn (oStN (n := 0) (m := 1) (k := 2) rfl rfl rfl rfl z22 rfl tm tm) (s2 rfl rfl) <| .nil) (by kernel_rfl) ?_
        refine pBlkN ?_
        refine pSub (Γ' := []) trivial ?_
        refine pRen 11 3505002 rfl ?_
        exact pJ5 _ _ _ _ _ (so h) trivial rfl
    · refine wNF hp10 tm (s1 rfl) ?_
      refine wSkip ?_
      refine pBlkN ?_
      exact pJ5 _ _ _ _ _ (so h) trivial rfl
  · rintro x5 x6 x7 x8 x9 rfl
    replace h := hk1
    obtain rfl := so h
    refine pSub (Γ' := []) trivial ?_
    refine pRen 3505002 70003 rfl ?_
    exact pSn [0, 1] rfl rfl (.inr rfl) rfl rfl (.nil)

theorem slices_Index_string_string.ok {a0 : List Str} {a1 : Str} {r : Int} (h : slices_Index_string_string.f a0 a1 = some r) : FnA Try.prog 128 [(kL kS).sig a0, kS.sig a1] ((kI .i64).sig r) := by
  refine fnIntro Try.func128 rfl (by kernel_rfl) fun H0 w0 => ?_
  unfold slices_Index_string_string.f at h
  refine wSeq ?_
  refine rg (cp (oAs (cI (by decide))) trivial <| .nil) (by kernel_rfl) ?_
  refine pSeq ?_
  refine wSeq ?_
  refine wSeq ?_
  refine rg (cp (oMv tm) (s1 rfl) <| cp (oLenL u39 tm) (s1 rfl) <| cp (oMv (cI (by decide))) trivial <| .nil) (by kernel_rfl) ?_
  refine pSeq ?_
  obtain ⟨o1, h, hk1⟩ := bd h
  refine wK0 (.inr () = o1) ([]) ([]) ?_ ?_
  · refine wBlock (wLoop ?_)
    refine lW (pc1 o1 (fun v7 => [(0, .d ((kL kS).sig a0)), (1, .d (kS.sig a1)), (7, .d ((kI .i64).sig (a0.length : Int))), (8, .d ((kI .i64).sig v7))]) (fun v7 => []) (slices_Index_string_string.l0.partial_correctness a0 a1) ?_ _ h) ⟨rfl, rfl, rfl, rfl, trivial⟩ rfl
    clear h
    intro f' ih v7 h
    refine wSeq ?_
    refine rg (cp (oLt rfl tm tm) (s2 rfl rfl) <| .nil) (by kernel_rfl) ?_
    refine pSeq ?_
    refine wSeq ?_
    rcases ic h with ⟨hp8, h⟩ | ⟨hp8, h⟩
    · refine wCT hp8 tm (s1 rfl) ?_
      refine wSkip ?_
      refine pSeq ?_
      refine wSeq ?_
      refine wBlock ?_
      refine wSeq ?_
      refine rg (cp (oMv tm) (s1 rfl) <| cp (oAs tm) (s1 rfl) <| .nil) (by kernel_rfl) ?_
      refine pSeq ?_
      refine wSeq ?_
      obtain ⟨y9, hy9, h⟩ := bd h
      refine rg (cp (oMv tm) (s1 rfl) <| cp (oMv tm) (s1 rfl) <| cp (oMv tm) (s1 rfl) <| cp (oIdx u39 z9 hy9 tm tm) (s2 rfl rfl) <| cp (oLd t9 tm) (s1 rfl) <| cp (oSEq rfl tm tm) (s2 rfl rfl) <| .nil) (by kernel_rfl) ?_
      refine pSeq ?_
      rcases ic h with ⟨hp10, h⟩ | ⟨hp10, h⟩
      · refine wCT hp10 tm (s1 rfl) ?_
        refine wSeq ?_
        refine rg (cp (oMv tm) (s1 rfl) <| cp (oAs tm) (s1 rfl) <| .nil) (by kernel_rfl) ?_
        refine pSeq ?_
        refine wRet ?_
        refine pBlkR ?_
        refine pThenR ?_
        refine pThenR ?_
        refine pBlkR ?_
        refine pThenR ?_
        obtain rfl := so h
        replace h := hk1
        refine pThenR ?_
        obtain rfl := so h
        exact pR1 (.inl rfl) rfl (.tmp rfl <| .nil)
      · refine wCF hp10 tm (s1 rfl) ?_
        refine wSkip ?_
        refine pBlkN ?_
        refine pSeq ?_
        refine rg (cp (oAdd tm (cI (by decide))) (s1 rfl) <| cp (oMv tm) (s1 rfl) <| .nil) (by kernel_rfl) ?_
        exact pLoop (lW (ih _ h) ⟨rfl, rfl, rfl, rfl, trivial⟩ rfl)
    · refine wCF hp8 tm (s1 rfl) ?_
      refine wExit ?_
      refine pThenX ?_
      refine pThenX ?_
      refine pBlkX ?_
      exact pJ0 (so h) trivial rfl
  · rintro rfl
    replace h := hk1
    refine pSeq ?_
    refine wSeq ?_
    refine rg (cp (oAs (cI (by decide))) trivial <| .nil) (by kernel_rfl) ?_
    refine pSeq ?_
    refine wRet ?_
    obtain rfl := so h
    exact pR1 (.inl rfl) rfl (.tmp rfl <| .nil)

theorem slices_Contains_string_string.ok {a0 : List Str} {a1 : Str} {r : Bool} (h : slices_Contains_string_string.f a0 a1 = some r) : FnA Try.prog 107 [(kL kS).sig a0, kS.sig a1] (kB.sig r) := by
  refine fnIntro Try.func107 rfl (by kernel_rfl) fun H0 w0 => ?_
  unfold slices_Contains_string_string.f at h
  refine wSeq ?_
  refine rg (cp (oAs cB) trivial <| .nil) (by kernel_rfl) ?_
  refine pSeq ?_
  refine wSeq ?_
  obtain ⟨y1, hy1, h⟩ := bd h
  refine rg (cp (oMv tm) (s1 rfl) <| cp (oMv tm) (s1 rfl) <| cp (oCall rfl (slices_Index_string_string.ok hy1) b128 (opds_cons tm (opds_cons tm opds_nil))) (s2 rfl rfl) <| cp (oGe rfl tm (cI (by decide))) (s1 rfl) <| cp (oAs tm) (s1 rfl) <| .nil) (by kernel_rfl) ?_
  refine pSeq ?_
  refine wRet ?_
  obtain rfl := so h
  exact pR1 (.inl rfl) rfl (.tmp rfl <| .nil)

theorem rule_parser_is.ok {a0 : rule_parser} {a1 : List Str} {r : rule_parser × Bool} (h : rule_parser_is.f a0 a1 = some r) : FnS Try.prog 138 [.p 70000 0, .d ((kL kS).sig a1)] [.box 70000 106 [.d (kL (kR f_api_Tok)) a0.l_, .d (kI .i64) a0.i_, .v 70003, .d (kI .i64) a0.deep_, .d (kI .i64) a0.bad_], .row 70003 3 (kI .i64) a0.out_] [70000] (.d (kB.sig r.2)) [.box 70000 106 [.d (kL (kR f_api_Tok)) r.1.l_, .d (kI .i64) r.1.i_, .v 70003, .d (kI .i64) r.1.deep_, .d (kI .i64) r.1.bad_], .row 70003 3 (kI .i64) r.1.out_] := by
  refine fnIntroS Try.func138 rfl (by kernel_rfl) fun X H0 w0 pv => ?_
  unfold rule_parser_is.f at h
  refine wSeq ?_
  refine rg (cp (oAs cB) trivial <| .nil) (by kernel_rfl) ?_
  refine pSeq ?_
  refine wSeq ?_
  obtain ⟨y1, hy1, h⟩ := bd h
  refine rgL hm (cp (oMv tm) (s1 rfl) <| cp (oNilP tm) (s1 rfl) <| cp (oFldP o106_0 tm) (s1 rfl) <| cl [] rfl (oLdB (n := 0) (k := 0) rfl rfl rfl t34 tm) (s1 rfl) <| cp (oMv tm) (s1 rfl) <| cp (oNilP tm) (s1 rfl) <| cp (oFldP o106_1 tm) (s1 rfl) <| cl [] rfl (oLdB (n := 0) (k := 1) rfl rfl rfl t3 tm) (s1 rfl) <| cp (oIdx u34 z36 hy1 tm tm) (s2 rfl rfl) <| cp (oLd t36 tm) (s1 rfl) <| cn (oAlloc (id := 5) (ls := [.d (kI .i64) 0, .d kS [], .d (kI .i64) 0]) ze36 (fun g => ⟨[(.int .i64 0)], _, rfl, zI_i64 g.H, ⟨[(.string ⟨⟨[]⟩⟩)], _, rfl, zS g.H, ⟨[(.int .i64 0)], _, rfl, zI_i64 g.H, rfl⟩⟩⟩)) trivial <| cwn (oStA (n := 0) (fs := f_api_Tok) rfl rfl z36 tm tm) (s2 rfl rfl) <| .nil) (by kernel_rfl) (by kernel_rfl) (by kernel_rfl) ?_
  refine pSeq ?_
  refine wWeak (Γ' := [(0, .p 70000 0), (1, .d ((kL kS).sig a1)), (4, .d (kB.sig false)), (5, .p 5 0)]) ⟨rfl, rfl, rfl, rfl, trivial⟩ ?_
  refine wRen 70003 3505002 rfl ?_
  obtain ⟨o1, h, hk1⟩ := bd h
  refine wJ1 (fun x7 => x7 = o1) (fun x7 => [(4, .d (kB.sig x7))]) (fun x7 => [.box 5 36 [.d (kI .i64) y1.Kind, .d kS y1.Text, .d (kI .i64) y1.At], .box 70000 106 [.d (kL (kR f_api_Tok)) a0.l_, .d (kI .i64) a0.i_, .v 3505002, .d (kI .i64) a0.deep_, .d (kI .i64) a0.bad_], .row 3505002 3 (kI .i64) a0.out_]) ?_ ?_
  · rcases ic h with ⟨hp8, h⟩ | ⟨hp8, h⟩
    · rcases ic h with ⟨hp9, h⟩ | ⟨hp9, h⟩
      · obtain ⟨y10, hy10, h⟩ := bd h
        refine rg (cp (oMv tm) (s1 rfl) <| cp (oNilP tm) (s1 rfl) <| cp (oFldP o106_4 tm) (s1 rfl) <| cr (oLdB (n := 1) (k := 4) rfl rfl rfl t23 tm) (s1 rfl) <| cp (oEq rfl tm (cI (by decide))) (s1 rfl) <| cp (oMv tm) (s1 rfl) <| cgB (decide_eq_true hp8) rfl rfl (oFldP o36_0 tm) (s1 rfl) <| crgB (decide_eq_true hp8) rfl rfl (oLdB (n := 0) (k := 0) rfl rfl rfl t3 tm) (s1 rfl) <| cgB (decide_eq_true hp8) rfl rfl (oEq rfl tm (cI (by decide))) (s1 rfl) <| cgB (decide_eq_true hp8) rfl rfl (oMv tm) (s1 rfl) <| csB (decide_eq_true hp9) rfl rfl <| csB (decide_eq_true hp9) rfl rfl <| csB (decide_eq_true hp9) rfl rfl <| cgB (decide_eq_true hp8) rfl rfl (oPkT (decide_eq_true hp9) tm cB) (s1 rfl) <| cp (oPkT (decide_eq_true hp8) tm tm) (s2 rfl rfl) <| cp (oMv tm) (s1 rfl) <| cgB rfl rfl rfl (oMv tm) (s1 rfl) <| cgB rfl rfl rfl (oFldP o36_1 tm) (s1 rfl) <| crgB rfl rfl rfl (oLdB (n := 0) (k := 1) rfl rfl rfl t9 tm) (s1 rfl) <| cgB rfl rfl rfl (oCall rfl (slices_Contains_string_string.ok hy10) b107 (opds_cons tm (opds_cons tm opds_nil))) (s2 rfl rfl) <| cp (oPkT rfl tm tm) (s2 rfl rfl) <| cp (oAs tm) (s1 rfl) <| .nil) (by kernel_rfl) ?_
        exact pJ1 _ (so h) ⟨rfl, trivial⟩ rfl
      · rcases ic h with ⟨hp11, h⟩ | ⟨hp11, h⟩
        · obtain ⟨y12, hy12, h⟩ := bd h
          refine rg (cp (oMv tm) (s1 rfl) <| cp (oNilP tm) (s1 rfl) <| cp (oFldP o106_4 tm) (s1 rfl) <| cr (oLdB (n := 1) (k := 4) rfl rfl rfl t23 tm) (s1 rfl) <| cp (oEq rfl tm (cI (by decide))) (s1 rfl) <| cp (oMv tm) (s1 rfl) <| cgB (decide_eq_true hp8) rfl rfl (oFldP o36_0 tm) (s1 rfl) <| crgB (decide_eq_true hp8) rfl rfl (oLdB (n := 0) (k := 0) rfl rfl rfl t3 tm) (s1 rfl) <| cgB (decide_eq_true hp8) rfl rfl (oEq rfl tm (cI (by decide))) (s1 rfl) <| cgB (decide_eq_true hp8) rfl rfl (oMv tm) (s1 rfl) <| cgB (decide_eq_false hp9) rfl rfl (oFldP o36_0 tm) (s1 rfl) <| crgB (decide_eq_false hp9) rfl rfl (oLdB (n := 0) (k := 0) rfl rfl rfl t3 tm) (s1 rfl) <| cgB (decide_eq_false hp9) rfl rfl (oEq rfl tm (cI (by decide))) (s1 rfl) <| cgB (decide_eq_true hp8) rfl rfl (oPkF (decide_eq_false hp9) tm tm) (s2 rfl rfl) <| cp (oPkT (decide_eq_true hp8) tm tm) (s2 rfl rfl) <| cp (oMv tm) (s1 rfl) <| cgB (decide_eq_true hp11) rfl rfl (oMv tm) (s1 rfl) <| cgB (decide_eq_true hp11) rfl rfl (oFldP o36_1 tm) (s1 rfl) <| crgB (decide_eq_true hp11) rfl rfl (oLdB (n := 0) (k := 1) rfl rfl rfl t9 tm) (s1 rfl) <| cgB (decide_eq_true hp11) rfl rfl (oCall rfl (slices_Contains_string_string.ok hy12) b107 (opds_cons tm (opds_cons tm opds_nil))) (s2 rfl rfl) <| cp (oPkT (decide_eq_true hp11) tm tm) (s2 rfl rfl) <| cp (oAs tm) (s1 rfl) <| .nil) (by kernel_rfl) ?_
          exact pJ1 _ (so h) ⟨rfl, trivial⟩ rfl
        · refine rg (cp (oMv tm) (s1 rfl) <| cp (oNilP tm) (s1 rfl) <| cp (oFldP o106_4 tm) (s1 rfl) <| cr (oLdB (n := 1) (k := 4) rfl rfl rfl t23 tm) (s1 rfl) <| cp (oEq rfl tm (cI (by decide))) (s1 rfl) <| cp (oMv tm) (s1 rfl) <| cgB (decide_eq_true hp8) rfl rfl (oFldP o36_0 tm) (s1 rfl) <| crgB (decide_eq_true hp8) rfl rfl (oLdB (n := 0) (k := 0) rfl rfl rfl t3 tm) (s1 rfl) <| cgB (decide_eq_true hp8) rfl rfl (oEq rfl tm (cI (by decide))) (s1 rfl) <| cgB (decide_eq_true hp8) rfl rfl (oMv tm) (s1 rfl) <| cgB (decide_eq_false hp9) rfl rfl (oFldP o36_0 tm) (s1 rfl) <| crgB (decide_eq_false hp9) rfl rfl (oLdB (n := 0) (k := 0) rfl rfl rfl t3 tm) (s1 rfl) <| cgB (decide_eq_false hp9) rfl rfl (oEq rfl tm (cI (by decide))) (s1 rfl) <| cgB (decide_eq_true hp8) rfl rfl (oPkF (decide_eq_false hp9) tm tm) (s2 rfl rfl) <| cp (oPkT (decide_eq_true hp8) tm tm) (s2 rfl rfl) <| cp (oMv tm) (s1 rfl) <| csB (decide_eq_false hp11) rfl rfl <| csB (decide_eq_false hp11) rfl rfl <| csB (decide_eq_false hp11) rfl rfl <| csB (decide_eq_false hp11) rfl rfl <| cp (oPkF (decide_eq_false hp11) tm cB) (s1 rfl) <| cp (oAs tm) (s1 rfl) <| .nil) (by kernel_rfl) ?_
          exact pJ1 _ (so h) ⟨rfl, trivial⟩ rfl
    · refine rg (cp (oMv tm) (s1 rfl) <| cp (oNilP tm) (s1 rfl) <| cp (oFldP o106_4 tm) (s1 rfl) <| cr (oLdB (n := 1) (k := 4) rfl rfl rfl t23 tm) (s1 rfl) <| cp (oEq rfl tm (cI (by decide))) (s1 rfl) <| cp (oMv tm) (s1 rfl) <| csB (decide_eq_false hp8) rfl rfl <| csB (decide_eq_false hp8) rfl rfl <| csB (decide_eq_false hp8) rfl rfl <| csB (decide_eq_false hp8) rfl rfl <| csU rfl rfl <| csU rfl rfl <| csU rfl rfl <| csB (decide_eq_false hp8) rfl rfl <| cp (oPkF (decide_eq_false hp8) tm cB) (s1 rfl) <| cp (oMv tm) (s1 rfl) <| csB rfl rfl rfl <| csB rfl rfl rfl <| csB rfl rfl rfl <| csB rfl rfl rfl <| cp (oPkF rfl tm cB) (s1 rfl) <| cp (oAs tm) (s1 rfl) <| .nil) (by kernel_rfl) ?_
      exact pJ1 _ (so h) ⟨rfl, trivial⟩ rfl
  · rintro x7 rfl
    replace h := hk1
    refine wRet ?_
    obtain rfl := so h
    refine pSub (Γ' := [(4, .d (kB.sig x7))]) ⟨rfl, trivial⟩ ?_
    refine pRen 3505002 70003 rfl ?_
    exact pS1 [1, 2] rfl rfl (.inl rfl) rfl (.tmp rfl <| .nil)

theorem rule_parser_take.ok {a0 : rule_parser} {a1 : Str} {r : rule_parser × Bool} (h : rule_parser_take.f a0 a1 = some r) : FnS Try.prog 129 [.p 70000 0, .d (kS.sig a1)] [.box 70000 106 [.d (kL (kR f_api_Tok)) a0.l_, .d (kI .i64) a0.i_, .v 70003, .d (kI .i64) a0.deep_, .d (kI .i64) a0.bad_], .row 70003 3 (kI .i64) a0.out_] [70000] (.d (kB.sig r.2)) [.box 70000 106 [.d (kL (kR f_api_Tok)) r.1.l_, .d (kI .i64) r.1.i_, .v 70003, .d (kI .i64) r.1.deep_, .d (kI .i64) r.1.bad_], .row 70003 3 (kI .i64) r.1.out_] := by
  refine fnIntroS Try.func129 rfl (by kernel_rfl) fun X H0 w0 pv => ?_
  unfold rule_parser_take.f at h
  refine wSeq ?_
  refine rg (cp (oAs cB) trivial <| .nil) (by kernel_rfl) ?_
  refine pSeq ?_
  refine wSeq ?_
  refine wSeq ?_
  obtain ⟨y1, hy1, h⟩ := bd h
  refine rg (cp (oMv tm) (s1 rfl) <| cp (oMv tm) (s1 rfl) <| cp (oLit (d := kS) el39 (by decide) rfl rfl rfl (e1 tm e0)) (s1 rfl) <| cm (oCallS (rest := []) (R' := [.box 70000 106 [.d (kL (kR f_api_Tok)) y1.1.l_, .d (kI .i64) y1.1.i_, .v 310120, .d (kI .i64) y1.1.deep_, .d (kI .i64) y1.1.bad_], .row 310120 3 (kI .i64) y1.1.out_]) (out' := .d (kB.sig y1.2)) [(70000, 70000), (70003, 70003)] [(70003, 310120)] [0, 1] [] [0, 1] rfl (rule_parser_is.ok hy1) b138 (oE1 tm (oE1 tm oE0)) rfl rfl rfl rfl rfl rfl rfl rfl) (s2 rfl rfl) <| cp (oNot tm) (s1 rfl) <| .nil) (by kernel_rfl) ?_
  refine pSeq ?_
  rcases ic h with ⟨hp2, h⟩ | ⟨hp2, h⟩
  · refine wBT hp2 tm (s1 rfl) ?_
    refine wSeq ?_
    refine rg (cp (oAs cB) trivial <| .nil) (by kernel_rfl) ?_
    refine pSeq ?_
    refine wRet ?_
    refine pThenR ?_
    obtain rfl := so h
    refine pSub (Γ' := [(4, .d (kB.sig false))]) ⟨rfl, trivial⟩ ?_
    refine pRen 310120 70003 rfl ?_
    exact pS1 [0, 1] rfl rfl (.inl rfl) rfl (.tmp rfl <| .nil)
  · refine wBF hp2 tm (s1 rfl) ?_
    refine wSkip ?_
    refine pSeq ?_
    refine wSeq ?_
    obtain ⟨y3, hy3, h⟩ := bd h
    refine rg (cp (oMv tm) (s1 rfl) <| cm (oCallS (rest := []) (R' := [.box 70000 106 [.d (kL (kR f_api_Tok)) y3.l_, .d (kI .i64) y3.i_, .v 330040, .d (kI .i64) y3.deep_, .d (kI .i64) y3.bad_], .row 330040 3 (kI .i64) y3.out_]) (out' := .d (tup [])) [(70000, 70000), (70003, 310120)] [(70003, 330040)] [0, 1] [] [0, 1] rfl (rule_parser_next.ok hy3) b139 (oE1 tm oE0) rfl rfl rfl rfl rfl rfl rfl rfl) (s1 rfl) <| .nil) (by kernel_rfl) ?_
    refine pSeq ?_
    refine wSeq ?_
    refine rg (cp (oAs cB) trivial <| .nil) (by kernel_rfl) ?_
    refine pSeq ?_
    refine wRet ?_
    obtain rfl := so h
    refine pSub (Γ' := [(4, .d (kB.sig true))]) ⟨rfl, trivial⟩ ?_
    refine pRen 330040 70003 rfl ?_
    exact pS1 [0, 1] rfl rfl (.inl rfl) rfl (.tmp rfl <| .nil)

theorem rule_parser_inside_label.ok {rc83 : rule_parser → Option rule_parser} (hrc83 : ∀ {a0 : rule_parser} {r : rule_parser}, rc83 a0 = some r → FnS Try.prog 83 [.p 70000 0] [.box 70000 106 [.d (kL (kR f_api_Tok)) a0.l_, .d (kI .i64) a0.i_, .v 70003, .d (kI .i64) a0.deep_, .d (kI .i64) a0.bad_], .row 70003 3 (kI .i64) a0.out_] [70000] (.d (tup [])) [.box 70000 106 [.d (kL (kR f_api_Tok)) r.l_, .d (kI .i64) r.i_, .v 70003, .d (kI .i64) r.deep_, .d (kI .i64) r.bad_], .row 70003 3 (kI .i64) r.out_]) {a0 : rule_parser} {a1 : Str} {r : rule_parser} (h : rule_parser_inside_label.f rc83 a0 a1 = some r) : FnS Try.prog 142 [.p 70000 0, .d (kS.sig a1), .f [70000] (sBnd 83)] [.box 70000 106 [.d (kL (kR f_api_Tok)) a0.l_, .d (kI .i64) a0.i_, .v 70003, .d (kI .i64) a0.deep_, .d (kI .i64) a0.bad_], .row 70003 3 (kI .i64) a0.out_] [70000] (.d (tup [])) [.box 70000 106 [.d (kL (kR f_api_Tok)) r.l_, .d (kI .i64) r.i_, .v 70003, .d (kI .i64) r.deep_, .d (kI .i64) r.bad_], .row 70003 3 (kI .i64) r.out_] := by
  refine fnIntroS Try.func142 rfl (by kernel_rfl) fun X H0 w0 pv => ?_
  unfold rule_parser_inside_label.f at h
  refine wSeq ?_
  refine wSeq ?_
  refine rg (cp (oMv tm) (s1 rfl) <| cp (oNilP tm) (s1 rfl) <| cp (oFldP o106_3 tm) (s1 rfl) <| cr (oLdB (n := 0) (k := 3) rfl rfl rfl t3 tm) (s1 rfl) <| cp (oEq rfl tm (cI (by decide))) (s1 rfl) <| .nil) (by kernel_rfl) ?_
  refine pSeq ?_
  rcases ic h with ⟨hp1, h⟩ | ⟨hp1, h⟩
  · refine wCT hp1 tm (s1 rfl) ?_
    refine wSeq ?_
    obtain ⟨y2, hy2, h⟩ := bd h
    refine rg (cp (oMv tm) (s1 rfl) <| cm (oCallS (rest := []) (R' := [.box 70000 106 [.d (kL (kR f_api_Tok)) y2.l_, .d (kI .i64) y2.i_, .v 310040, .d (kI .i64) y2.deep_, .d (kI .i64) y2.bad_], .row 310040 3 (kI .i64) y2.out_]) (out' := .d (tup [])) [(70000, 70000), (70003, 70003)] [(70003, 310040)] [0, 1] [] [0, 1] rfl (rule_parser_fail.ok hy2) b140 (oE1 tm (oE1 (cI (by decide)) oE0)) rfl rfl rfl rfl rfl rfl rfl rfl) (s1 rfl) <| .nil) (by kernel_rfl) ?_
    refine pSeq ?_
    refine wRet ?_
    refine pThenR ?_
    obtain rfl := so h
    refine pSub (Γ' := []) trivial ?_
    refine pRen 310040 70003 rfl ?_
    exact pSn [0, 1] rfl rfl (.inl rfl) rfl rfl (.nil)
  · refine wCF hp1 tm (s1 rfl) ?_
    refine wSkip ?_
    refine pSeq ?_
    refine wSeq ?_
    obtain ⟨y3, hy3, h⟩ := bd h
    refine rg (cp (oMv tm) (s1 rfl) <| cm (oCallS (rest := []) (R' := [.box 70000 106 [.d (kL (kR f_api_Tok)) y3.l_, .d (kI .i64) y3.i_, .v 320040, .d (kI .i64) y3.deep_, .d (kI .i64) y3.bad_], .row 320040 3 (kI .i64) y3.out_]) (out' := .d (tup [])) [(70000, 70000), (70003, 70003)] [(70003, 320040)] [0, 1] [] [0, 1] rfl (rule_parser_next.ok hy3) b139 (oE1 tm oE0) rfl rfl rfl rfl rfl rfl rfl rfl) (s1 rfl) <| .nil) (by kernel_rfl) ?_
    refine pSeq ?_
    refine wSeq ?_
    refine rg (cp (oMv tm) (s1 rfl) <| cp (oNilP tm) (s1 rfl) <| cp (oFldP o106_3 tm) (s1 rfl) <| cr (oLdB (n := 0) (k := 3) rfl rfl rfl t3 tm) (s1 rfl) <| cp (oAdd tm (cI (by decide))) (s1 rfl) <| cp (oNilP tm) (s1 rfl) <| cp (oFldP o106_3 tm) (s1 rfl) <| cwn (oSt (n := 0) (k := 3) rfl rfl rfl rfl z3 tm tm) (s2 rfl rfl) <| .nil) (by kernel_rfl) ?_
    refine pSeq ?_
    refine wSeq ?_
    refine wSeq ?_
    obtain ⟨y4, hy4, h⟩ := bd h
    refine rg (cp (oMv tm) (s1 rfl) <| cm (oCallB1 (ins := []) (kn := 70000) (rest := []) (R' := [.box 70000 106 [.d (kL (kR f_api_Tok)) y4.l_, .d (kI .i64) y4.i_, .v 340040, .d (kI .i64) y4.deep_, .d (kI .i64) y4.bad_], .row 340040 3 (kI .i64) y4.out_]) (out' := .d (tup [])) [(70000, 70000), (70003, 320040)] [(70003, 340040)] [0, 1] [] [0, 1] rfl tm (hrc83 hy4) rfl rfl b83 oE0 rfl rfl rfl rfl rfl rfl rfl rfl) (s1 rfl) <| .nil) (by kernel_rfl) ?_
    refine pSeq ?_
    refine wWeak (Γ' := [(0, .p 70000 0), (1, .d (kS.sig a1))]) ⟨rfl, rfl, trivial⟩ ?_
    refine wRen 340040 3505002 rfl ?_
    obtain ⟨o1, h, hk1⟩ := bd h
    refine wJ6 (fun x7 x8 x9 x10 x11 x12 => (x7, x8, x9, x10, x11, x12) = o1) (fun x7 x8 x9 x10 x11 x12 => [(0, .p 70000 0), (34, .d (kB.sig x12))]) (fun x7 x8 x9 x10 x11 x12 => [.box 70000 106 [.d (kL (kR f_api_Tok)) x7, .d (kI .i64) x8, .v 3505002, .d (kI .i64) x9, .d (kI .i64) x10], .row 3505002 3 (kI .i64) x11]) ?_ ?_
    · rcases ic h with ⟨hp13, h⟩ | ⟨hp13, h⟩
      · obtain ⟨y14, hy14, h⟩ := bd h
        refine rg (cp (oMv tm) (s1 rfl) <| cp (oNilP tm) (s1 rfl) <| cp (oFldP o106_4 tm) (s1 rfl) <| cr (oLdB (n := 0) (k := 4) rfl rfl rfl t23 tm) (s1 rfl) <| cp (oEq rfl tm (cI (by decide))) (s1 rfl) <| cp (oMv tm) (s1 rfl) <| cgB (decide_eq_true hp13) rfl rfl (oMv tm) (s1 rfl) <| cgB (decide_eq_true hp13) rfl rfl (oMv tm) (s1 rfl) <| cmgB (decide_eq_true hp13) rfl rfl (oCallS (rest := []) (R' := [.box 70000 106 [.d (kL (kR f_api_Tok)) y14.1.l_, .d (kI .i64) y14.1.i_, .v 350320, .d (kI .i64) y14.1.deep_, .d (kI .i64) y14.1.bad_], .row 350320 3 (kI .i64) y14.1.out_]) (out' := .d (kB.sig y14.2)) [(70000, 70000), (70003, 3505002)] [(70003, 350320)] [0, 1] [] [0, 1] rfl (rule_parser_take.ok hy14) b129 (oE1 tm (oE1 tm oE0)) rfl rfl rfl rfl rfl rfl rfl rfl) (s2 rfl rfl) <| cgB (decide_eq_true hp13) rfl rfl (oNot tm) (s1 rfl) <| cp (oPkT (decide_eq_true hp13) tm tm) (s2 rfl rfl) <| .nil) (by kernel_rfl) ?_
        refine pSub (Γ' := [(0, .p 70000 0), (34, .d (kB.sig (!y14.2)))]) ⟨rfl, rfl, trivial⟩ ?_
        refine pRen 350320 3505002 rfl ?_
        exact pJ6 _ _ _ _ _ _ (so h) ⟨rfl, rfl, trivial⟩ rfl
      · refine rg (cp (oMv tm) (s1 rfl) <| cp (oNilP tm) (s1 rfl) <| cp (oFldP o106_4 tm) (s1 rfl) <| cr (oLdB (n := 0) (k := 4) rfl rfl rfl t23 tm) (s1 rfl) <| cp (oEq rfl tm (cI (by decide))) (s1 rfl) <| cp (oMv tm) (s1 rfl) <| csB (decide_eq_false hp13) rfl rfl <| csB (decide_eq_false hp13) rfl rfl <| csB (decide_eq_false hp13) rfl rfl <| csB (decide_eq_false hp13) rfl rfl <| cp (oPkF (decide_eq_false hp13) tm cB) (s1 rfl) <| .nil) (by kernel_rfl) ?_
        exact pJ6 _ _ _ _ _ _ (so h) ⟨rfl, rfl, trivial⟩ rfl
    · rintro x7 x8 x9 x10 x11 x12 rfl
      replace h := hk1
      rcases ic h with ⟨hp15, h⟩ | ⟨hp15, h⟩
      · refine wBT hp15 tm (s1 rfl) ?_
        obtain ⟨y16, hy16, h⟩ := bd h
        refine rg (cp (oMv tm) (s1 rfl) <| cm (oCallS (rest := []) (R' := [.box 70000 106 [.d (kL (kR f_api_Tok)) y16.l_, .d (kI .i64) y16.i_, .v 360040, .d (kI .i64) y16.deep_, .d (kI .i64) y16.bad_], .row 360040 3 (kI .i64) y16.out_]) (out' := .d (tup [])) [(70000, 70000), (70003, 3505002)] [(70003, 360040)] [0, 1] [] [0, 1] rfl (rule_parser_fail.ok hy16) b140 (oE1 tm (oE1 (cI (by decide)) oE0)) rfl rfl rfl rfl rfl rfl rfl rfl) (s1 rfl) <| .nil) (by kernel_rfl) ?_
        refine pSeq ?_
        refine rg (cp (oMv tm) (s1 rfl) <| cp (oNilP tm) (s1 rfl) <| cp (oFldP o106_3 tm) (s1 rfl) <| cr (oLdB (n := 0) (k := 3) rfl rfl rfl t3 tm) (s1 rfl) <| cp (oSub tm (cI (by decide))) (s1 rfl) <| cp (oNilP tm) (s1 rfl) <| cp (oFldP o106_3 tm) (s1 rfl) <| cwn (oSt (n := 0) (k := 3) rfl rfl rfl rfl z3 tm tm) (s2 rfl rfl) <| .nil) (by kernel_rfl) ?_
        obtain rfl := so h
        refine pSub (Γ' := []) trivial ?_
        refine pRen 360040 70003 rfl ?_
        exact pSn [0, 1] rfl rfl (.inr rfl) rfl rfl (.nil)
      · refine wBF hp15 tm (s1 rfl) ?_
        refine wSkip ?_
        refine pSeq ?_
        refine rg (cp (oMv tm) (s1 rfl) <| cp (oNilP tm) (s1 rfl) <| cp (oFldP o106_3 tm) (s1 rfl) <| cr (oLdB (n := 0) (k := 3) rfl rfl rfl t3 tm) (s1 rfl) <| cp (oSub tm (cI (by decide))) (s1 rfl) <| cp (oNilP tm) (s1 rfl) <| cp (oFldP o106_3 tm) (s1 rfl) <| cwn (oSt (n := 0) (k := 3) rfl rfl rfl rfl z3 tm tm) (s2 rfl rfl) <| .nil) (by kernel_rfl) ?_
        obtain rfl := so h
        refine pSub (Γ' := []) trivial ?_
        refine pRen 3505002 70003 rfl ?_
        exact pSn [0, 1] rfl rfl (.inr rfl) rfl rfl (.nil)

theorem rule_parser_atom.ok {rc83 : rule_parser → Option rule_parser} (hrc83 : ∀ {a0 : rule_parser} {r : rule_parser}, rc83 a0 = some r → FnS Try.prog 83 [.p 70000 0] [.box 70000 106 [.d (kL (kR f_api_Tok)) a0.l_, .d (kI .i64) a0.i_, .v 70003, .d (kI .i64) a0.deep_, .d (kI .i64) a0.bad_], .row 70003 3 (kI .i64) a0.out_] [70000] (.d (tup [])) [.box 70000 106 [.d (kL (kR f_api_Tok)) r.l_, .d (kI .i64) r.i_, .v 70003, .d (kI .i64) r.deep_, .d (kI .i64) r.bad_], .row 70003 3 (kI .i64) r.out_]) {a0 : rule_parser} {r : rule_parser} (h : rule_parser_atom.f rc83 a0 = some r) : FnS Try.prog 131 [.p 70000 0] [.box 70000 106 [.d (kL (kR f_api_Tok)) a0.l_, .d (kI .i64) a0.i_, .v 70003, .d (kI .i64) a0.deep_, .d (kI .i64) a0.bad_], .row 70003 3 (kI .i64) a0.out_] [70000] (.d (tup [])) [.box 70000 106 [.d (kL (kR f_api_Tok)) r.l_, .d (kI .i64) r.i_, .v 70003, .d (kI .i64) r.deep_, .d (kI .i64) r.bad_], .row 70003 3 (kI .i64) r.out_] := by
  refine fnIntroS Try.func131 rfl (by kernel_rfl) fun X H0 w0 pv => ?_
  unfold rule_parser_atom.f at h
  refine wSeq ?_
  refine wSeq ?_
  refine rg (cp (oMv tm) (s1 rfl) <| cp (oNilP tm) (s1 rfl) <| cp (oFldP o106_4 tm) (s1 rfl) <| cr (oLdB (n := 0) (k := 4) rfl rfl rfl t23 tm) (s1 rfl) <| cp (oNe rfl tm (cI (by decide))) (s1 rfl) <| .nil) (by kernel_rfl) ?_
  refine pSeq ?_
  rcases ic h with ⟨hp1, h⟩ | ⟨hp1, h⟩
  · refine wNT hp1 tm (s1 rfl) ?_
    refine wSkip ?_
    refine pSeq ?_
    refine wSeq ?_
    obtain ⟨y2, hy2, h⟩ := bd h
    obtain ⟨y3, hy3, h⟩ := bd h
    refine rgD hm (cp (oCall rfl (rule_words.ok hy2) b141 opds_nil) trivial <| cp (oMv tm) (s1 rfl) <| cp (oNilP tm) (s1 rfl) <| cp (oFldP o106_0 tm) (s1 rfl) <| cr (oLdB (n := 0) (k := 0) rfl rfl rfl t34 tm) (s1 rfl) <| cp (oMv tm) (s1 rfl) <| cp (oNilP tm) (s1 rfl) <| cp (oFldP o106_1 tm) (s1 rfl) <| cr (oLdB (n := 0) (k := 1) rfl rfl rfl t3 tm) (s1 rfl) <| cp (oIdx u34 z36 hy3 tm tm) (s2 rfl rfl) <| cp (oFld (fs := f_api_Tok) (k := 1) rfl o36_1 tm) (s1 rfl) <| cp (oLd t9 tm) (s1 rfl) <| cp (oLookup u169 mk9 zv3 zI_i64 rfl tm tm) (s2 rfl rfl) <| cp (oMv tm) (s1 rfl) <| cp (oExt (k := 0) rfl tm) (s1 rfl) <| cp (oExt (k := 1) rfl tm) (s1 rfl) <| cp (oAs tm) (s1 rfl) <| cp (oAs tm) (s1 rfl) <| .nil) (by kernel_rfl) (by kernel_rfl) ?_
    refine pSeq ?_
    refine wWeak (Γ' := [(0, .p 70000 0), (2, .d ((kI .i64).sig ((mGet y2 0 y3.Text).1))), (3, .d (kB.sig ((mGet y2 0 y3.Text).2)))]) ⟨rfl, rfl, rfl, trivial⟩ ?_
    refine wRen 70003 3505002 rfl ?_
    obtain ⟨o1, h, hk1⟩ := bd h
    refine wK5 (fun x16 x17 x18 x19 x20 => (x16, x17, x18, x19, x20) = o1) (fun x16 x17 x18 x19 x20 => []) (fun x16 x17 x18 x19 x20 => [.box 70000 106 [.d (kL (kR f_api_Tok)) x16, .d (kI .i64) x17, .v 3505002, .d (kI .i64) x18, .d (kI .i64) x19], .row 3505002 3 (kI .i64) x20]) ?_ ?_
    · refine wBlock ?_
      obtain ⟨o2, h, hk2⟩ := bd h
      refine wJ1 (fun x23 => x23 = o2) (fun x23 => [(0, .p 70000 0), (2, .d ((kI .i64).sig ((mGet y2 0 y3.Text).1))), (27, .d (kB.sig x23))]) (fun x23 => [.box 70000 106 [.d (kL (kR f_api_Tok)) a0.l_, .d (kI .i64) a0.i_, .v 3505002, .d (kI .i64) a0.deep_, .d (kI .i64) a0.bad_], .row 3505002 3 (kI .i64) a0.out_]) ?_ ?_
      · rcases ic h with ⟨hp24, h⟩ | ⟨hp24, h⟩
        · obtain ⟨y25, hy25, h⟩ := bd h
          refine rgD hm (cp (oMv tm) (s1 rfl) <| cp (oMv tm) (s1 rfl) <| cgB hp24 rfl rfl (oMv tm) (s1 rfl) <| cgB hp24 rfl rfl (oNilP tm) (s1 rfl) <| cgB hp24 rfl rfl (oFldP o106_0 tm) (s1 rfl) <| crgB hp24 rfl rfl (oLdB (n := 0) (k := 0) rfl rfl rfl t34 tm) (s1 rfl) <| cgB hp24 rfl rfl (oMv tm) (s1 rfl) <| cgB hp24 rfl rfl (oNilP tm) (s1 rfl) <| cgB hp24 rfl rfl (oFldP o106_1 tm) (s1 rfl) <| crgB hp24 rfl rfl (oLdB (n := 0) (k := 1) rfl rfl rfl t3 tm) (s1 rfl) <| cgB hp24 rfl rfl (oIdx u34 z36 hy25 tm tm) (s2 rfl rfl) <| cgB hp24 rfl rfl (oFld (fs := f_api_Tok) (k := 0) rfl o36_0 tm) (s1 rfl) <| cgB hp24 rfl rfl (oLd t3 tm) (s1 rfl) <| cgB hp24 rfl rfl (oEq rfl tm (cI (by decide))) (s1 rfl) <| cp (oPkT hp24 tm tm) (s2 rfl rfl) <| cp (oAs tm) (s1 rfl) <| .nil) (by kernel_rfl) (by kernel_rfl) ?_
          exact pJ1 _ (so h) ⟨rfl, rfl, rfl, trivial⟩ rfl
        · refine rgD hm (cp (oMv tm) (s1 rfl) <| cp (oMv tm) (s1 rfl) <| csB (nb hp24) rfl rfl <| csB (nb hp24) rfl rfl <| csB (nb hp24) rfl rfl <| csB (nb hp24) rfl rfl <| csB (nb hp24) rfl rfl <| csB (nb hp24) rfl rfl <| csB (nb hp24) rfl rfl <| csB (nb hp24) rfl rfl <| csB (nb hp24) rfl rfl <| csB (nb hp24) rfl rfl <| csB (nb hp24) rfl rfl <| csB (nb hp24) rfl rfl <| cp (oPkF (nb hp24) tm cB) (s1 rfl) <| cp (oAs tm) (s1 rfl) <| .nil) (by kernel_rfl) (by kernel_rfl) ?_
          exact pJ1 _ (so h) ⟨rfl, rfl, rfl, trivial⟩ rfl
      · rintro x23 rfl
        replace h := hk2
        rcases ic h with ⟨hp26, h⟩ | ⟨hp26, h⟩
        · refine wBT hp26 tm (s1 rfl) ?_
          refine wSeq ?_
          obtain ⟨y27, hy27, h⟩ := bd h
          refine rg (cp (oMv tm) (s1 rfl) <| cm (oCallS (rest := []) (R' := [.box 70000 106 [.d (kL (kR f_api_Tok)) y27.l_, .d (kI .i64) y27.i_, .v 340040, .d (kI .i64) y27.deep_, .d (kI .i64) y27.bad_], .row 340040 3 (kI .i64) y27.out_]) (out' := .d (tup [])) [(70000, 70000), (70003, 3505002)] [(70003, 340040)] [0, 1] [] [0, 1] rfl (rule_parser_next.ok hy27) b139 (oE1 tm oE0) rfl rfl rfl rfl rfl rfl rfl rfl) (s1 rfl) <| .nil) (by kernel_rfl) ?_
          refine pSeq ?_
          obtain ⟨y28, hy28, h⟩ := bd h
          refine rg (cp (oMv tm) (s1 rfl) <| cp (oMv tm) (s1 rfl) <| cm (oCallS (rest := []) (R' := [.box 70000 106 [.d (kL (kR f_api_Tok)) y28.l_, .d (kI .i64) y28.i_, .v 350080, .d (kI .i64) y28.deep_, .d (kI .i64) y28.bad_], .row 350080 3 (kI .i64) y28.out_]) (out' := .d (tup [])) [(70000, 70000), (70003, 340040)] [(70003, 350080)] [0, 1] [] [0, 1] rfl (rule_parser_put.ok hy28) b130 (oE1 tm (oE1 tm oE0)) rfl rfl rfl rfl rfl rfl rfl rfl) (s2 rfl rfl) <| .nil) (by kernel_rfl) ?_
          refine pBlkN ?_
          refine pSub (Γ' := []) trivial ?_
          refine pRen 350080 3505002 rfl ?_
          exact pJ5 _ _ _ _ _ (so h) trivial rfl
        · refine wBF hp26 tm (s1 rfl) ?_
          refine wSeq ?_
          obtain ⟨y29, hy29, h⟩ := bd h
          refine rg (cp (oMv tm) (s1 rfl) <| cp (oLit (d := kS) el39 (by decide) rfl rfl rfl (e1 (cS (by decide)) e0)) trivial <| cm (oCallS (rest := []) (R' := [.box 70000 106 [.d (kL (kR f_api_Tok)) y29.1.l_, .d (kI .i64) y29.1.i_, .v 360080, .d (kI .i64) y29.1.deep_, .d (kI .i64) y29.1.bad_], .row 360080 3 (kI .i64) y29.1.out_]) (out' := .d (kB.sig y29.2)) [(70000, 70000), (70003, 3505002)] [(70003, 360080)] [0, 1] [] [0, 1] rfl (rule_parser_is.ok hy29) b138 (oE1 tm (oE1 tm oE0)) rfl rfl rfl rfl rfl rfl rfl rfl) (s2 rfl rfl) <| cp (oAs tm) (s1 rfl) <| .nil) (by kernel_rfl) ?_
          refine pSeq ?_
          rcases ic h with ⟨hp30, h⟩ | ⟨hp30, h⟩
          · refine wBT hp30 tm (s1 rfl) ?_
            obtain ⟨y31, hy31, h⟩ := bd h
            refine rg (cp (oMv tm) (s1 rfl) <| cp (oMv tm) (s1 rfl) <| cp (oMkB tm) (s1 rfl) <| cm (oCallS (rest := []) (R' := [.box 70000 106 [.d (kL (kR f_api_Tok)) y31.l_, .d (kI .i64) y31.i_, .v 370120, .d (kI .i64) y31.deep_, .d (kI .i64) y31.bad_], .row 370120 3 (kI .i64) y31.out_]) (out' := .d (tup [])) [(70000, 70000), (70003, 360080)] [(70003, 370120)] [0, 1] [] [0, 1] rfl (rule_parser_inside_label.ok hrc83 hy31) b142 (oE1 tm (oE1 (cS (by decide)) (oE1 tm oE0))) rfl rfl rfl rfl rfl rfl rfl rfl) (s2 rfl rfl) <| .nil) (by kernel_rfl) ?_
            refine pBlkN ?_
            refine pSub (Γ' := []) trivial ?_
            refine pRen 370120 3505002 rfl ?_
            exact pJ5 _ _ _ _ _ (so h) trivial rfl
          · refine wBF hp30 tm (s1 rfl) ?_
            obtain ⟨y32, hy32, h⟩ := bd h
            refine rg (cp (oMv tm) (s1 rfl) <| cm (oCallS (rest := []) (R' := [.box 70000 106 [.d (kL (kR f_api_Tok)) y32.l_, .d (kI .i64) y32.i_, .v 320040, .d (kI .i64) y32.deep_, .d (kI .i64) y32.bad_], .row 320040 3 (kI .i64) y32.out_]) (out' := .d (tup [])) [(70000, 70000), (70003, 360080)] [(70003, 320040)] [0, 1] [] [0, 1] rfl (rule_parser_fail.ok hy32) b140 (oE1 tm (oE1 (cI (by decide)) oE0)) rfl rfl rfl rfl rfl rfl rfl rfl) (s1 rfl) <| .nil) (by kernel_rfl) ?_
            refine pBlkN ?_
            refine pSub (Γ' := []) trivial ?_
            refine pRen 320040 3505002 rfl ?_
            exact pJ5 _ _ _ _ _ (so h) trivial rfl
    · rintro x16 x17 x18 x19 x20 rfl
      replace h := hk1
      obtain rfl := so h
      refine pSub (Γ' := []) trivial ?_
      refine pRen 3505002 70003 rfl ?_
      exact pSn [0, 1] rfl rfl (.inr rfl) rfl rfl (.nil)
  · refine wNF hp1 tm (s1 rfl) ?_
    refine wRet ?_
    refine pThenR ?_
    obtain rfl := so h
    exact pSn [0, 1] rfl rfl (.inl rfl) rfl rfl (.nil)

theorem rule_parser_row_atom.ok {rc83 : rule_parser → Option rule_parser} (hrc83 : ∀ {a0 : rule_parser} {r : rule_parser}, rc83 a0 = some r → FnS Try.prog 83 [.p 70000 0] [.box 70000 106 [.d (kL (kR f_api_Tok)) a0.l_, .d (kI .i64) a0.i_, .v 70003, .d (kI .i64) a0.deep_, .d (kI .i64) a0.bad_], .row 70003 3 (kI .i64) a0.out_] [70000] (.d (tup [])) [.box 70000 106 [.d (kL (kR f_api_Tok)) r.l_, .d (kI .i64) r.i_, .v 70003, .d (kI .i64) r.deep_, .d (kI .i64) r.bad_], .row 70003 3 (kI .i64) r.out_]) {a0 : rule_parser} {a1 : Str} {a2 : Int} {r : rule_parser} (h : rule_parser_row_atom.f rc83 a0 a1 a2 = some r) : FnS Try.prog 109 [.p 70000 0, .d (kS.sig a1), .d ((kI .i64).sig a2), .f [70000] (sBnd 131)] [.box 70000 106 [.d (kL (kR f_api_Tok)) a0.l_, .d (kI .i64) a0.i_, .v 70003, .d (kI .i64) a0.deep_, .d (kI .i64) a0.bad_], .row 70003 3 (kI .i64) a0.out_] [70000] (.d (tup [])) [.box 70000 106 [.d (kL (kR f_api_Tok)) r.l_, .d (kI .i64) r.i_, .v 70003, .d (kI .i64) r.deep_, .d (kI .i64) r.bad_], .row 70003 3 (kI .i64) r.out_] := by
  refine fnIntroS Try.func109 rfl (by kernel_rfl) fun X H0 w0 pv => ?_
  unfold rule_parser_row_atom.f at h
  refine wSeq ?_
  obtain ⟨y1, hy1, h⟩ := bd h
  refine rg (cp (oMv tm) (s1 rfl) <| cm (oCallB1 (ins := []) (kn := 70000) (rest := []) (R' := [.box 70000 106 [.d (kL (kR f_api_Tok)) y1.l_, .d (kI .i64) y1.i_, .v 300040, .d (kI .i64) y1.deep_, .d (kI .i64) y1.bad_], .row 300040 3 (kI .i64) y1.out_]) (out' := .d (tup [])) [(70000, 70000), (70003, 70003)] [(70003, 300040)] [0, 1] [] [0, 1] rfl tm (rule_parser_atom.ok hrc83 hy1) rfl rfl b131 oE0 rfl rfl rfl rfl rfl rfl rfl rfl) (s1 rfl) <| .nil) (by kernel_rfl) ?_
  refine pSeq ?_
  refine wWeak (Γ' := [(0, .p 70000 0), (1, .d (kS.sig a1)), (2, .d ((kI .i64).sig a2)), (3, .f [70000] (sBnd 131))]) ⟨rfl, rfl, rfl, rfl, trivial⟩ ?_
  refine wRen 300040 3505002 rfl ?_
  obtain ⟨o1, h, hk1⟩ := bd h
  refine wK5 (fun x15 x16 x17 x18 x19 => (x15, x16, x17, x18, x19) = o1) (fun x15 x16 x17 x18 x19 => []) (fun x15 x16 x17 x18 x19 => [.box 70000 106 [.d (kL (kR f_api_Tok)) x15, .d (kI .i64) x16, .v 3505002, .d (kI .i64) x17, .d (kI .i64) x18], .row 3505002 3 (kI .i64) x19]) ?_ ?_
  · refine wBlock (wLoop ?_)
    refine lW (pc5 o1 (fun v10 v11 v12 v13 v14 => [(0, .p 70000 0), (1, .d (kS.sig a1)), (2, .d ((kI .i64).sig a2)), (3, .f [70000] (sBnd 131))]) (fun v10 v11 v12 v13 v14 => [.box 70000 106 [.d (kL (kR f_api_Tok)) v10, .d (kI .i64) v11, .v 3505002, .d (kI .i64) v12, .d (kI .i64) v13], .row 3505002 3 (kI .i64) v14]) (rule_parser_row_atom.l0.partial_correctness a1 a2 rc83) ?_ _ _ _ _ _ h) ⟨rfl, rfl, rfl, rfl, trivial⟩ rfl
    clear h
    intro f' ih v10 v11 v12 v13 v14 h
    refine wSeq ?_
    refine wSeq ?_
    obtain ⟨y20, hy20, h⟩ := bd h
    refine rg (cp (oMv tm) (s1 rfl) <| cp (oMv tm) (s1 rfl) <| cm (oCallS (rest := []) (R' := [.box 70000 106 [.d (kL (kR f_api_Tok)) y20.1.l_, .d (kI .i64) y20.1.i_, .v 310080, .d (kI .i64) y20.1.deep_, .d (kI .i64) y20.1.bad_], .row 310080 3 (kI .i64) y20.1.out_]) (out' := .d (kB.sig y20.2)) [(70000, 70000), (70003, 3505002)] [(70003, 310080)] [0, 1] [] [0, 1] rfl (rule_parser_take.ok hy20) b129 (oE1 tm (oE1 tm oE0)) rfl rfl rfl rfl rfl rfl rfl rfl) (s2 rfl rfl) <| .nil) (by kernel_rfl) ?_
    refine pSeq ?_
    rcases ic h with ⟨hp21, h⟩ | ⟨hp21, h⟩
    · refine wBT hp21 tm (s1 rfl) ?_
      refine wSkip ?_
      refine pSeq ?_
      refine wBlock ?_
      refine wSeq ?_
      obtain ⟨y22, hy22, h⟩ := bd h
      refine rg (cp (oMv tm) (s1 rfl) <| cm (oCallB1 (ins := []) (kn := 70000) (rest := []) (R' := [.box 70000 106 [.d (kL (kR f_api_Tok)) y22.l_, .d (kI .i64) y22.i_, .v 320040, .d (kI .i64) y22.deep_, .d (kI .i64) y22.bad_], .row 320040 3 (kI .i64) y22.out_]) (out' := .d (tup [])) [(70000, 70000), (70003, 310080)] [(70003, 320040)] [0, 1] [] [0, 1] rfl tm (rule_parser_atom.ok hrc83 hy22) rfl rfl b131 oE0 rfl rfl rfl rfl rfl rfl rfl rfl) (s1 rfl) <| .nil) (by kernel_rfl) ?_
      refine pSeq ?_
      obtain ⟨y23, hy23, h⟩ := bd h
      refine rg (cp (oMv tm) (s1 rfl) <| cp (oMv tm) (s1 rfl) <| cm (oCallS (rest := []) (R' := [.box 70000 106 [.d (kL (kR f_api_Tok)) y23.l_, .d (kI .i64) y23.i_, .v 330080, .d (kI .i64) y23.deep_, .d (kI .i64) y23.bad_], .row 330080 3 (kI .i64) y23.out_]) (out' := .d (tup [])) [(70000, 70000), (70003, 320040)] [(70003, 330080)] [0, 1] [] [0, 1] rfl (rule_parser_put.ok hy23) b130 (oE1 tm (oE1 tm oE0)) rfl rfl rfl rfl rfl rfl rfl rfl) (s2 rfl rfl) <| .nil) (by kernel_rfl) ?_
      refine pBlkN ?_
      refine pSub (Γ' := [(0, .p 70000 0), (1, .d (kS.sig a1)), (2, .d ((kI .i64).sig a2)), (3, .f [70000] (sBnd 131))]) ⟨rfl, rfl, rfl, rfl, trivial⟩ ?_
      refine pRen 330080 3505002 rfl ?_
      exact pLoop (lW (ih _ _ _ _ _ h) ⟨rfl, rfl, rfl, rfl, trivial⟩ rfl)
    · refine wBF hp21 tm (s1 rfl) ?_
      refine wExit ?_
      refine pThenX ?_
      refine pThenX ?_
      refine pBlkX ?_
      refine pSub (Γ' := []) trivial ?_
      refine pRen 310080 3505002 rfl ?_
      exact pJ5 _ _ _ _ _ (so h) trivial rfl
  · rintro x15 x16 x17 x18 x19 rfl
    replace h := hk1
    obtain rfl := so h
    refine pSub (Γ' := []) trivial ?_
    refine pRen 3505002 70003 rfl ?_
    exact pSn [0, 1] rfl rfl (.inr rfl) rfl rfl (.nil)

theorem rule_parser_term.ok {rc83 : rule_parser → Option rule_parser} (hrc83 : ∀ {a0 : rule_parser} {r : rule_parser}, rc83 a0 = some r → FnS Try.prog 83 [.p 70000 0] [.box 70000 106 [.d (kL (kR f_api_Tok)) a0.l_, .d (kI .i64) a0.i_, .v 70003, .d (kI .i64) a0.deep_, .d (kI .i64) a0.bad_], .row 70003 3 (kI .i64) a0.out_] [70000] (.d (tup [])) [.box 70000 106 [.d (kL (kR f_api_Tok)) r.l_, .d (kI .i64) r.i_, .v 70003, .d (kI .i64) r.deep_, .d (kI .i64) r.bad_], .row 70003 3 (kI .i64) r.out_]) {a0 : rule_parser} {r : rule_parser} (h : rule_parser_term.f rc83 a0 = some r) : FnS Try.prog 110 [.p 70000 0] [.box 70000 106 [.d (kL (kR f_api_Tok)) a0.l_, .d (kI .i64) a0.i_, .v 70003, .d (kI .i64) a0.deep_, .d (kI .i64) a0.bad_], .row 70003 3 (kI .i64) a0.out_] [70000] (.d (tup [])) [.box 70000 106 [.d (kL (kR f_api_Tok)) r.l_, .d (kI .i64) r.i_, .v 70003, .d (kI .i64) r.deep_, .d (kI .i64) r.bad_], .row 70003 3 (kI .i64) r.out_] := by
  refine fnIntroS Try.func110 rfl (by kernel_rfl) fun X H0 w0 pv => ?_
  unfold rule_parser_term.f at h
  obtain ⟨y1, hy1, h⟩ := bd h
  refine rg (cp (oMv tm) (s1 rfl) <| cp (oMv tm) (s1 rfl) <| cp (oMkB tm) (s1 rfl) <| cm (oCallS (rest := []) (R' := [.box 70000 106 [.d (kL (kR f_api_Tok)) y1.l_, .d (kI .i64) y1.i_, .v 300120, .d (kI .i64) y1.deep_, .d (kI .i64) y1.bad_], .row 300120 3 (kI .i64) y1.out_]) (out' := .d (tup [])) [(70000, 70000), (70003, 70003)] [(70003, 300120)] [0, 1] [] [0, 1] rfl (rule_parser_row_atom.ok hrc83 hy1) b109 (oE1 tm (oE1 (cS (by decide)) (oE1 (cI (by decide)) (oE1 tm oE0)))) rfl rfl rfl rfl rfl rfl rfl rfl) (s2 rfl rfl) <| .nil) (by kernel_rfl) ?_
  obtain rfl := so h
  refine pSub (Γ' := []) trivial ?_
  refine pRen 300120 70003 rfl ?_
  exact pSn [0, 1] rfl rfl (.inr rfl) rfl rfl (.nil)

theorem rule_parser_row_term.ok {rc83 : rule_parser → Option rule_parser} (hrc83 : ∀ {a0 : rule_parser} {r : rule_parser}, rc83 a0 = some r → FnS Try.prog 83 [.p 70000 0] [.box 70000 106 [.d (kL (kR f_api_Tok)) a0.l_, .d (kI .i64) a0.i_, .v 70003, .d (kI .i64) a0.deep_, .d (kI .i64) a0.bad_], .row 70003 3 (kI .i64) a0.out_] [70000] (.d (tup [])) [.box 70000 106 [.d (kL (kR f_api_Tok)) r.l_, .d (kI .i64) r.i_, .v 70003, .d (kI .i64) r.deep_, .d (kI .i64) r.bad_], .row 70003 3 (kI .i64) r.out_]) {a0 : rule_parser} {a1 : Str} {a2 : Int} {r : rule_parser} (h : rule_parser_row_term.f rc83 a0 a1 a2 = some r) : FnS Try.prog 109 [.p 70000 0, .d (kS.sig a1), .d ((kI .i64).sig a2), .f [70000] (sBnd 110)] [.box 70000 106 [.d (kL (kR f_api_Tok)) a0.l_, .d (kI .i64) a0.i_, .v 70003, .d (kI .i64) a0.deep_, .d (kI .i64) a0.bad_], .row 70003 3 (kI .i64) a0.out_] [70000] (.d (tup [])) [.box 70000 106 [.d (kL (kR f_api_Tok)) r.l_, .d (kI .i64) r.i_, .v 70003, .d (kI .i64) r.deep_, .d (kI .i64) r.bad_], .row 70003 3 (kI .i64) r.out_] := by
  refine fnIntroS Try.func109 rfl (by kernel_rfl) fun X H0 w0 pv => ?_
  unfold rule_parser_row_term.f at h
  refine wSeq ?_
  obtain ⟨y1, hy1, h⟩ := bd h
  refine rg (cp (oMv tm) (s1 rfl) <| cm (oCallB1 (ins := []) (kn := 70000) (rest := []) (R' := [.box 70000 106 [.d (kL (kR f_api_Tok)) y1.l_, .d (kI .i64) y1.i_, .v 300040, .d (kI .i64) y1.deep_, .d (kI .i64) y1.bad_], .row 300040 3 (kI .i64) y1.out_]) (out' := .d (tup [])) [(70000, 70000), (70003, 70003)] [(70003, 300040)] [0, 1] [] [0, 1] rfl tm (rule_parser_term.ok hrc83 hy1) rfl rfl b110 oE0 rfl rfl rfl rfl rfl rfl rfl rfl) (s1 rfl) <| .nil) (by kernel_rfl) ?_
  refine pSeq ?_
  refine wWeak (Γ' := [(0, .p 70000 0), (1, .d (kS.sig a1)), (2, .d ((kI .i64).sig a2)), (3, .f [70000] (sBnd 110))]) ⟨rfl, rfl, rfl, rfl, trivial⟩ ?_
  refine wRen 300040 3505002 rfl ?_
  obtain ⟨o1, h, hk1⟩ := bd h
  refine wK5 (fun x15 x16 x17 x18 x19 => (x15, x16, x17, x18, x19) = o1) (fun x15 x16 x17 x18 x19 => []) (fun x15 x16 x17 x18 x19 => [.box 70000 106 [.d (kL (kR f_api_Tok)) x15, .d (kI .i64) x16, .v 3505002, .d (kI .i64) x17, .d (kI .i64) x18], .row 3505002 3 (kI .i64) x19]) ?_ ?_
  · refine wBlock (wLoop ?_)
    refine lW (pc5 o1 (fun v10 v11 v12 v13 v14 => [(0, .p 70000 0), (1, .d (kS.sig a1)), (2, .d ((kI .i64).sig a2)), (3, .f [70000] (sBnd 110))]) (fun v10 v11 v12 v13 v14 => [.box 70000 106 [.d (kL (kR f_api_Tok)) v10, .d (kI .i64) v11, .v 3505002, .d (kI .i64) v12, .d (kI .i64) v13], .row 3505002 3 (kI .i64) v14]) (rule_parser_row_term.l0.partial_correctness a1 a2 rc83) ?_ _ _ _ _ _ h) ⟨rfl, rfl, rfl, rfl, trivial⟩ rfl
    clear h
    intro f' ih v10 v11 v12 v13 v14 h
    refine wSeq ?_
    refine wSeq ?_
    obtain ⟨y20, hy20, h⟩ := bd h
    refine rg (cp (oMv tm) (s1 rfl) <| cp (oMv tm) (s1 rfl) <| cm (oCallS (rest := []) (R' := [.box 70000 106 [.d (kL (kR f_api_Tok)) y20.1.l_, .d (kI .i64) y20.1.i_, .v 310080, .d (kI .i64) y20.1.deep_, .d (kI .i64) y20.1.bad_], .row 310080 3 (kI .i64) y20.1.out_]) (out' := .d (kB.sig y20.2)) [(70000, 70000), (70003, 3505002)] [(70003, 310080)] [0, 1] [] [0, 1] rfl (rule_parser_take.ok hy20) b129 (oE1 tm (oE1 tm oE0)) rfl rfl rfl rfl rfl rfl rfl rfl) (s2 rfl rfl) <| .nil) (by kernel_rfl) ?_
    refine pSeq ?_
    rcases ic h with ⟨hp21, h⟩ | ⟨hp21, h⟩
    · refine wBT hp21 tm (s1 rfl) ?_
      refine wSkip ?_
      refine pSeq ?_
      refine wBlock ?_
      refine wSeq ?_
      obtain ⟨y22, hy22, h⟩ := bd h
      refine rg (cp (oMv tm) (s1 rfl) <| cm (oCallB1 (ins := []) (kn := 70000) (rest := []) (R' := [.box 70000 106 [.d (kL (kR f_api_Tok)) y22.l_, .d (kI .i64) y22.i_, .v 320040, .d (kI .i64) y22.deep_, .d (kI .i64) y22.bad_], .row 320040 3 (kI .i64) y22.out_]) (out' := .d (tup [])) [(70000, 70000), (70003, 310080)] [(70003, 320040)] [0, 1] [] [0, 1] rfl tm (rule_parser_term.ok hrc83 hy22) rfl rfl b110 oE0 rfl rfl rfl rfl rfl rfl rfl rfl) (s1 rfl) <| .nil) (by kernel_rfl) ?_
      refine pSeq ?_
      obtain ⟨y23, hy23, h⟩ := bd h
      refine rg (cp (oMv tm) (s1 rfl) <| cp (oMv tm) (s1 rfl) <| cm (oCallS (rest := []) (R' := [.box 70000 106 [.d (kL (kR f_api_Tok)) y23.l_, .d (kI .i64) y23.i_, .v 330080, .d (kI .i64) y23.deep_, .d (kI .i64) y23.bad_], .row 330080 3 (kI .i64) y23.out_]) (out' := .d (tup [])) [(70000, 70000), (70003, 320040)] [(70003, 330080)] [0, 1] [] [0, 1] rfl (rule_parser_put.ok hy23) b130 (oE1 tm (oE1 tm oE0)) rfl rfl rfl rfl rfl rfl rfl rfl) (s2 rfl rfl) <| .nil) (by kernel_rfl) ?_
      refine pBlkN ?_
      refine pSub (Γ' := [(0, .p 70000 0), (1, .d (kS.sig a1)), (2, .d ((kI .i64).sig a2)), (3, .f [70000] (sBnd 110))]) ⟨rfl, rfl, rfl, rfl, trivial⟩ ?_
      refine pRen 330080 3505002 rfl ?_
      exact pLoop (lW (ih _ _ _ _ _ h) ⟨rfl, rfl, rfl, rfl, trivial⟩ rfl)
    · refine wBF hp21 tm (s1 rfl) ?_
      refine wExit ?_
      refine pThenX ?_
      refine pThenX ?_
      refine pBlkX ?_
      refine pSub (Γ' := []) trivial ?_
      refine pRen 310080 3505002 rfl ?_
      exact pJ5 _ _ _ _ _ (so h) trivial rfl
  · rintro x15 x16 x17 x18 x19 rfl
    replace h := hk1
    obtain rfl := so h
    refine pSub (Γ' := []) trivial ?_
    refine pRen 3505002 70003 rfl ?_
    exact pSn [0, 1] rfl rfl (.inr rfl) rfl rfl (.nil)

theorem rule_parser_label.okB {rc83 : rule_parser → Option rule_parser} (hrc83 : ∀ {a0 : rule_parser} {r : rule_parser}, rc83 a0 = some r → FnS Try.prog 83 [.p 70000 0] [.box 70000 106 [.d (kL (kR f_api_Tok)) a0.l_, .d (kI .i64) a0.i_, .v 70003, .d (kI .i64) a0.deep_, .d (kI .i64) a0.bad_], .row 70003 3 (kI .i64) a0.out_] [70000] (.d (tup [])) [.box 70000 106 [.d (kL (kR f_api_Tok)) r.l_, .d (kI .i64) r.i_, .v 70003, .d (kI .i64) r.deep_, .d (kI .i64) r.bad_], .row 70003 3 (kI .i64) r.out_]) {a0 : rule_parser} {r : rule_parser} (h : rule_parser_label.B rc83 a0 = some r) : FnS Try.prog 83 [.p 70000 0] [.box 70000 106 [.d (kL (kR f_api_Tok)) a0.l_, .d (kI .i64) a0.i_, .v 70003, .d (kI .i64) a0.deep_, .d (kI .i64) a0.bad_], .row 70003 3 (kI .i64) a0.out_] [70000] (.d (tup [])) [.box 70000 106 [.d (kL (kR f_api_Tok)) r.l_, .d (kI .i64) r.i_, .v 70003, .d (kI .i64) r.deep_, .d (kI .i64) r.bad_], .row 70003 3 (kI .i64) r.out_] := by
  refine fnIntroS Try.func83 rfl (by kernel_rfl) fun X H0 w0 pv => ?_
  unfold rule_parser_label.B at h
  obtain ⟨y1, hy1, h⟩ := bd h
  refine rg (cp (oMv tm) (s1 rfl) <| cp (oMv tm) (s1 rfl) <| cp (oMkB tm) (s1 rfl) <| cm (oCallS (rest := []) (R' := [.box 70000 106 [.d (kL (kR f_api_Tok)) y1.l_, .d (kI .i64) y1.i_, .v 300120, .d (kI .i64) y1.deep_, .d (kI .i64) y1.bad_], .row 300120 3 (kI .i64) y1.out_]) (out' := .d (tup [])) [(70000, 70000), (70003, 70003)] [(70003, 300120)] [0, 1] [] [0, 1] rfl (rule_parser_row_term.ok hrc83 hy1) b109 (oE1 tm (oE1 (cS (by decide)) (oE1 (cI (by decide)) (oE1 tm oE0)))) rfl rfl rfl rfl rfl rfl rfl rfl) (s2 rfl rfl) <| .nil) (by kernel_rfl) ?_
  obtain rfl := so h
  refine pSub (Γ' := []) trivial ?_
  refine pRen 300120 70003 rfl ?_
  exact pSn [0, 1] rfl rfl (.inr rfl) rfl rfl (.nil)
theorem rule_parser_label.okF : ∀ (k : Nat) {a0 : rule_parser} {r : rule_parser}, rule_parser_label.F k a0 = some r → FnS Try.prog 83 [.p 70000 0] [.box 70000 106 [.d (kL (kR f_api_Tok)) a0.l_, .d (kI .i64) a0.i_, .v 70003, .d (kI .i64) a0.deep_, .d (kI .i64) a0.bad_], .row 70003 3 (kI .i64) a0.out_] [70000] (.d (tup [])) [.box 70000 106 [.d (kL (kR f_api_Tok)) r.l_, .d (kI .i64) r.i_, .v 70003, .d (kI .i64) r.deep_, .d (kI .i64) r.bad_], .row 70003 3 (kI .i64) r.out_]
  | 0, _, _, h => by cases h
  | k + 1, _, _, h => rule_parser_label.okB (fun h => rule_parser_label.okF k h) h
theorem rule_parser_label.ok {a0 : rule_parser} {r : rule_parser} (h : rule_parser_label.f a0 = some r) : FnS Try.prog 83 [.p 70000 0] [.box 70000 106 [.d (kL (kR f_api_Tok)) a0.l_, .d (kI .i64) a0.i_, .v 70003, .d (kI .i64) a0.deep_, .d (kI .i64) a0.bad_], .row 70003 3 (kI .i64) a0.out_] [70000] (.d (tup [])) [.box 70000 106 [.d (kL (kR f_api_Tok)) r.l_, .d (kI .i64) r.i_, .v 70003, .d (kI .i64) r.deep_, .d (kI .i64) r.bad_], .row 70003 3 (kI .i64) r.out_] := rule_parser_label.okF 1000 h

theorem rule_parser_inside_cond.ok {rc84 : rule_parser → Option rule_parser} (hrc84 : ∀ {a0 : rule_parser} {r : rule_parser}, rc84 a0 = some r → FnS Try.prog 84 [.p 70000 0] [.box 70000 106 [.d (kL (kR f_api_Tok)) a0.l_, .d (kI .i64) a0.i_, .v 70003, .d (kI .i64) a0.deep_, .d (kI .i64) a0.bad_], .row 70003 3 (kI .i64) a0.out_] [70000] (.d (tup [])) [.box 70000 106 [.d (kL (kR f_api_Tok)) r.l_, .d (kI .i64) r.i_, .v 70003, .d (kI .i64) r.deep_, .d (kI .i64) r.bad_], .row 70003 3 (kI .i64) r.out_]) {a0 : rule_parser} {a1 : Str} {r : rule_parser} (h : rule_parser_inside_cond.f rc84 a0 a1 = some r) : FnS Try.prog 142 [.p 70000 0, .d (kS.sig a1), .f [70000] (sBnd 84)] [.box 70000 106 [.d (kL (kR f_api_Tok)) a0.l_, .d (kI .i64) a0.i_, .v 70003, .d (kI .i64) a0.deep_, .d (kI .i64) a0.bad_], .row 70003 3 (kI .i64) a0.out_] [70000] (.d (tup [])) [.box 70000 106 [.d (kL (kR f_api_Tok)) r.l_, .d (kI .i64) r.i_, .v 70003, .d (kI .i64) r.deep_, .d (kI .i64) r.bad_], .row 70003 3 (kI .i64) r.out_] := by
  refine fnIntroS Try.func142 rfl (by kernel_rfl) fun X H0 w0 pv => ?_
  unfold rule_parser_inside_cond.f at h
  refine wSeq ?_
  refine wSeq ?_
  refine rg (cp (oMv tm) (s1 rfl) <| cp (oNilP tm) (s1 rfl) <| cp (oFldP o106_3 tm) (s1 rfl) <| cr (oLdB (n := 0) (k := 3) rfl rfl rfl t3 tm) (s1 rfl) <| cp (oEq rfl tm (cI (by decide))) (s1 rfl) <| .nil) (by kernel_rfl) ?_
  refine pSeq ?_
  rcases ic h with ⟨hp1, h⟩ | ⟨hp1, h⟩
  · refine wCT hp1 tm (s1 rfl) ?_
    refine wSeq ?_
    obtain ⟨y2, hy2, h⟩ := bd h
    refine rg (cp (oMv tm) (s1 rfl) <| cm (oCallS (rest := []) (R' := [.box 70000 106 [.d (kL (kR f_api_Tok)) y2.l_, .d (kI .i64) y2.i_, .v 310040, .d (kI .i64) y2.deep_, .d (kI .i64) y2.bad_], .row 310040 3 (kI .i64) y2.out_]) (out' := .d (tup [])) [(70000, 70000), (70003, 70003)] [(70003, 310040)] [0, 1] [] [0, 1] rfl (rule_parser_fail.ok hy2) b140 (oE1 tm (oE1 (cI (by decide)) oE0)) rfl rfl rfl rfl rfl rfl rfl rfl) (s1 rfl) <| .nil) (by kernel_rfl) ?_
    refine pSeq ?_
    refine wRet ?_
    refine pThenR ?_
    obtain rfl := so h
    refine pSub (Γ' := []) trivial ?_
    refine pRen 310040 70003 rfl ?_
    exact pSn [0, 1] rfl rfl (.inl rfl) rfl rfl (.nil)
  · refine wCF hp1 tm (s1 rfl) ?_
    refine wSkip ?_
    refine pSeq ?_
    refine wSeq ?_
    obtain ⟨y3, hy3, h⟩ := bd h
    refine rg (cp (oMv tm) (s1 rfl) <| cm (oCallS (rest := []) (R' := [.box 70000 106 [.d (kL (kR f_api_Tok)) y3.l_, .d (kI .i64) y3.i_, .v 320040, .d (kI .i64) y3.deep_, .d (kI .i64) y3.bad_], .row 320040 3 (kI .i64) y3.out_]) (out' := .d (tup [])) [(70000, 70000), (70003, 70003)] [(70003, 320040)] [0, 1] [] [0, 1] rfl (rule_parser_next.ok hy3) b139 (oE1 tm oE0) rfl rfl rfl rfl rfl rfl rfl rfl) (s1 rfl) <| .nil) (by kernel_rfl) ?_
    refine pSeq ?_
    refine wSeq ?_
    refine rg (cp (oMv tm) (s1 rfl) <| cp (oNilP tm) (s1 rfl) <| cp (oFldP o106_3 tm) (s1 rfl) <| cr (oLdB (n := 0) (k := 3) rfl rfl rfl t3 tm) (s1 rfl) <| cp (oAdd tm (cI (by decide))) (s1 rfl) <| cp (oNilP tm) (s1 rfl) <| cp (oFldP o106_3 tm) (s1 rfl) <| cwn (oSt (n := 0) (k := 3) rfl rfl rfl rfl z3 tm tm) (s2 rfl rfl) <| .nil) (by kernel_rfl) ?_
    refine pSeq ?_
    refine wSeq ?_
    refine wSeq ?_
    obtain ⟨y4, hy4, h⟩ := bd h
    refine rg (cp (oMv tm) (s1 rfl) <| cm (oCallB1 (ins := []) (kn := 70000) (rest := []) (R' := [.box 70000 106 [.d (kL (kR f_api_Tok)) y4.l_, .d (kI .i64) y4.i_, .v 340040, .d (kI .i64) y4.deep_, .d (kI .i64) y4.bad_], .row 340040 3 (kI .i64) y4.out_]) (out' := .d (tup [])) [(70000, 70000), (70003, 320040)] [(70003, 340040)] [0, 1] [] [0, 1] rfl tm (hrc84 hy4) rfl rfl b84 oE0 rfl rfl rfl rfl rfl rfl rfl rfl) (s1 rfl) <| .nil) (by kernel_rfl) ?_
    refine pSeq ?_
    refine wWeak (Γ' := [(0, .p 70000 0), (1, .d (kS.sig a1))]) ⟨rfl, rfl, trivial⟩ ?_
    refine wRen 340040 3505002 rfl ?_
    obtain ⟨o1, h, hk1⟩ := bd h
    refine wJ6 (fun x7 x8 x9 x10 x11 x12 => (x7, x8, x9, x10, x11, x12) = o1) (fun x7 x8 x9 x10 x11 x12 => [(0, .p 70000 0), (34, .d (kB.sig x12))]) (fun x7 x8 x9 x10 x11 x12 => [.box 70000 106 [.d (kL (kR f_api_Tok)) x7, .d (kI .i64) x8, .v 3505002, .d (kI .i64) x9, .d (kI .i64) x10], .row 3505002 3 (kI .i64) x11]) ?_ ?_
    · rcases ic h with ⟨hp13, h⟩ | ⟨hp13, h⟩
      · obtain ⟨y14, hy14, h⟩ := bd h
        refine rg (cp (oMv tm) (s1 rfl) <| cp (oNilP tm) (s1 rfl) <| cp (oFldP o106_4 tm) (s1 rfl) <| cr (oLdB (n := 0) (k := 4) rfl rfl rfl t23 tm) (s1 rfl) <| cp (oEq rfl tm (cI (by decide))) (s1 rfl) <| cp (oMv tm) (s1 rfl) <| cgB (decide_eq_true hp13) rfl rfl (oMv tm) (s1 rfl) <| cgB (decide_eq_true hp13) rfl rfl (oMv tm) (s1 rfl) <| cmgB (decide_eq_true hp13) rfl rfl (oCallS (rest := []) (R' := [.box 70000 106 [.d (kL (kR f_api_Tok)) y14.1.l_, .d (kI .i64) y14.1.i_, .v 350320, .d (kI .i64) y14.1.deep_, .d (kI .i64) y14.1.bad_], .row 350320 3 (kI .i64) y14.1.out_]) (out' := .d (kB.sig y14.2)) [(70000, 70000), (70003, 3505002)] [(70003, 350320)] [0, 1] [] [0, 1] rfl (rule_parser_take.ok hy14) b129 (oE1 tm (oE1 tm oE0)) rfl rfl rfl rfl rfl rfl rfl rfl) (s2 rfl rfl) <| cgB (decide_eq_true hp13) rfl rfl (oNot tm) (s1 rfl) <| cp (oPkT (decide_eq_true hp13) tm tm) (s2 rfl rfl) <| .nil) (by kernel_rfl) ?_
        refine pSub (Γ' := [(0, .p 70000 0), (34, .d (kB.sig (!y14.2)))]) ⟨rfl, rfl, trivial⟩ ?_
        refine pRen 350320 3505002 rfl ?_
        exact pJ6 _ _ _ _ _ _ (so h) ⟨rfl, rfl, trivial⟩ rfl
      · refine rg (cp (oMv tm) (s1 rfl) <| cp (oNilP tm) (s1 rfl) <| cp (oFldP o106_4 tm) (s1 rfl) <| cr (oLdB (n := 0) (k := 4) rfl rfl rfl t23 tm) (s1 rfl) <| cp (oEq rfl tm (cI (by decide))) (s1 rfl) <| cp (oMv tm) (s1 rfl) <| csB (decide_eq_false hp13) rfl rfl <| csB (decide_eq_false hp13) rfl rfl <| csB (decide_eq_false hp13) rfl rfl <| csB (decide_eq_false hp13) rfl rfl <| cp (oPkF (decide_eq_false hp13) tm cB) (s1 rfl) <| .nil) (by kernel_rfl) ?_
        exact pJ6 _ _ _ _ _ _ (so h) ⟨rfl, rfl, trivial⟩ rfl
    · rintro x7 x8 x9 x10 x11 x12 rfl
      replace h := hk1
      rcases ic h with ⟨hp15, h⟩ | ⟨hp15, h⟩
      · refine wBT hp15 tm (s1 rfl) ?_
        obtain ⟨y16, hy16, h⟩ := bd h
        refine rg (cp (oMv tm) (s1 rfl) <| cm (oCallS (rest := []) (R' := [.box 70000 106 [.d (kL (kR f_api_Tok)) y16.l_, .d (kI .i64) y16.i_, .v 360040, .d (kI .i64) y16.deep_, .d (kI .i64) y16.bad_], .row 360040 3 (kI .i64) y16.out_]) (out' := .d (tup [])) [(70000, 70000), (70003, 3505002)] [(70003, 360040)] [0, 1] [] [0, 1] rfl (rule_parser_fail.ok hy16) b140 (oE1 tm (oE1 (cI (by decide)) oE0)) rfl rfl rfl rfl rfl rfl rfl rfl) (s1 rfl) <| .nil) (by kernel_rfl) ?_
        refine pSeq ?_
        refine rg (cp (oMv tm) (s1 rfl) <| cp (oNilP tm) (s1 rfl) <| cp (oFldP o106_3 tm) (s1 rfl) <| cr (oLdB (n := 0) (k := 3) rfl rfl rfl t3 tm) (s1 rfl) <| cp (oSub tm (cI (by decide))) (s1 rfl) <| cp (oNilP tm) (s1 rfl) <| cp (oFldP o106_3 tm) (s1 rfl) <| cwn (oSt (n := 0) (k := 3) rfl rfl rfl rfl z3 tm tm) (s2 rfl rfl) <| .nil) (by kernel_rfl) ?_
        obtain rfl := so h
        refine pSub (Γ' := []) trivial ?_
        refine pRen 360040 70003 rfl ?_
        exact pSn [0, 1] rfl rfl (.inr rfl) rfl rfl (.nil)
      · refine wBF hp15 tm (s1 rfl) ?_
        refine wSkip ?_
        refine pSeq ?_
        refine rg (cp (oMv tm) (s1 rfl) <| cp (oNilP tm) (s1 rfl) <| cp (oFldP o106_3 tm) (s1 rfl) <| cr (oLdB (n := 0) (k := 3) rfl rfl rfl t3 tm) (s1 rfl) <| cp (oSub tm (cI (by decide))) (s1 rfl) <| cp (oNilP tm) (s1 rfl) <| cp (oFldP o106_3 tm) (s1 rfl) <| cwn (oSt (n := 0) (k := 3) rfl rfl rfl rfl z3 tm tm) (s2 rfl rfl) <| .nil) (by kernel_rfl) ?_
        obtain rfl := so h
        refine pSub (Γ' := []) trivial ?_
        refine pRen 3505002 70003 rfl ?_
        exact pSn [0, 1] rfl rfl (.inr rfl) rfl rfl (.nil)

theorem rule_parser_prim.ok {rc84 : rule_parser → Option rule_parser} (hrc84 : ∀ {a0 : rule_parser} {r : rule_parser}, rc84 a0 = some r → FnS Try.prog 84 [.p 70000 0] [.box 70000 106 [.d (kL (kR f_api_Tok)) a0.l_, .d (kI .i64) a0.i_, .v 70003, .d (kI .i64) a0.deep_, .d (kI .i64) a0.bad_], .row 70003 3 (kI .i64) a0.out_] [70000] (.d (tup [])) [.box 70000 106 [.d (kL (kR f_api_Tok)) r.l_, .d (kI .i64) r.i_, .v 70003, .d (kI .i64) r.deep_, .d (kI .i64) r.bad_], .row 70003 3 (kI .i64) r.out_]) {a0 : rule_parser} {r : rule_parser} (h : rule_parser_prim.f rc84 a0 = some r) : FnS Try.prog 132 [.p 70000 0] [.box 70000 106 [.d (kL (kR f_api_Tok)) a0.l_, .d (kI .i64) a0.i_, .v 70003, .d (kI .i64) a0.deep_, .d (kI .i64) a0.bad_], .row 70003 3 (kI .i64) a0.out_] [70000] (.d (tup [])) [.box 70000 106 [.d (kL (kR f_api_Tok)) r.l_, .d (kI .i64) r.i_, .v 70003, .d (kI .i64) r.deep_, .d (kI .i64) r.bad_], .row 70003 3 (kI .i64) r.out_] := by
  refine fnIntroS Try.func132 rfl (by kernel_rfl) fun X H0 w0 pv => ?_
  unfold rule_parser_prim.f at h
  refine wWeak (Γ' := [(0, .p 70000 0)]) ⟨rfl, trivial⟩ ?_
  refine wRen 70003 3505002 rfl ?_
  obtain ⟨o1, h, hk1⟩ := bd h
  refine wK5 (fun x27 x28 x29 x30 x31 => (x27, x28, x29, x30, x31) = o1) (fun x27 x28 x29 x30 x31 => []) (fun x27 x28 x29 x30 x31 => [.box 70000 106 [.d (kL (kR f_api_Tok)) x27, .d (kI .i64) x28, .v 3505002, .d (kI .i64) x29, .d (kI .i64) x30], .row 3505002 3 (kI .i64) x31]) ?_ ?_
  · refine wBlock ?_
    refine wSeq ?_
    obtain ⟨y32, hy32, h⟩ := bd h
    refine rg (cp (oMv tm) (s1 rfl) <| cm (oCallS (rest := []) (R' := [.box 70000 106 [.d (kL (kR f_api_Tok)) y32.1.l_, .d (kI .i64) y32.1.i_, .v 350040, .d (kI .i64) y32.1.deep_, .d (kI .i64) y32.1.bad_], .row 350040 3 (kI .i64) y32.1.out_]) (out' := .d (kB.sig y32.2)) [(70000, 70000), (70003, 3505002)] [(70003, 350040)] [0, 1] [] [0, 1] rfl (rule_parser_take.ok hy32) b129 (oE1 tm (oE1 (cS (by decide)) oE0)) rfl rfl rfl rfl rfl rfl rfl rfl) (s1 rfl) <| cp (oAs tm) (s1 rfl) <| .nil) (by kernel_rfl) ?_
    refine pSeq ?_
    rcases ic h with ⟨hp33, h⟩ | ⟨hp33, h⟩
    · refine wBT hp33 tm (s1 rfl) ?_
      obtain ⟨y34, hy34, h⟩ := bd h
      refine rg (cp (oMv tm) (s1 rfl) <| cm (oCallS (rest := []) (R' := [.box 70000 106 [.d (kL (kR f_api_Tok)) y34.l_, .d (kI .i64) y34.i_, .v 360040, .d (kI .i64) y34.deep_, .d (kI .i64) y34.bad_], .row 360040 3 (kI .i64) y34.out_]) (out' := .d (tup [])) [(70000, 70000), (70003, 350040)] [(70003, 360040)] [0, 1] [] [0, 1] rfl (rule_parser_put.ok hy34) b130 (oE1 tm (oE1 (cI (by decide)) oE0)) rfl rfl rfl rfl rfl rfl rfl rfl) (s1 rfl) <| .nil) (by kernel_rfl) ?_
      refine pBlkN ?_
      refine pSub (Γ' := []) trivial ?_
      refine pRen 360040 3505002 rfl ?_
      exact pJ5 _ _ _ _ _ (so h) trivial rfl
    · refine wBF hp33 tm (s1 rfl) ?_
      refine wSeq ?_
      obtain ⟨y35, hy35, h⟩ := bd h
      refine rg (cp (oMv tm) (s1 rfl) <| cm (oCallS (rest := []) (R' := [.box 70000 106 [.d (kL (kR f_api_Tok)) y35.1.l_, .d (kI .i64) y35.1.i_, .v 370040, .d (kI .i64) y35.1.deep_, .d (kI .i64) y35.1.bad_], .row 370040 3 (kI .i64) y35.1.out_]) (out' := .d (kB.sig y35.2)) [(70000, 70000), (70003, 350040)] [(70003, 370040)] [0, 1] [] [0, 1] rfl (rule_parser_take.ok hy35) b129 (oE1 tm (oE1 (cS (by decide)) oE0)) rfl rfl rfl rfl rfl rfl rfl rfl) (s1 rfl) <| cp (oAs tm) (s1 rfl) <| .nil) (by kernel_rfl) ?_
      refine pSeq ?_
      rcases ic h with ⟨hp36, h⟩ | ⟨hp36, h⟩
      · refine wBT hp36 tm (s1 rfl) ?_
        obtain ⟨y37, hy37, h⟩ := bd h
        refine rg (cp (oMv tm) (s1 rfl) <| cm (oCallS (rest := []) (R' := [.box 70000 106 [.d (kL (kR f_api_Tok)) y37.l_, .d (kI .i64) y37.i_, .v 380040, .d (kI .i64) y37.deep_, .d (kI .i64) y37.bad_], .row 380040 3 (kI .i64) y37.out_]) (out' := .d (tup [])) [(70000, 70000), (70003, 370040)] [(70003, 380040)] [0, 1] [] [0, 1] rfl (rule_parser_put.ok hy37) b130 (oE1 tm (oE1 (cI (by decide)) oE0)) rfl rfl rfl rfl rfl rfl rfl rfl) (s1 rfl) <| .nil) (by kernel_rfl) ?_
        refine pBlkN ?_
        refine pSub (Γ' := []) trivial ?_
        refine pRen 380040 3505002 rfl ?_
        exact pJ5 _ _ _ _ _ (so h) trivial rfl
      · refine wBF hp36 tm (s1 rfl) ?_
        refine wSeq ?_
        obtain ⟨y38, hy38, h⟩ := bd h
        refine rg (cp (oMv tm) (s1 rfl) <| cp (oLit (d := kS) el39 (by decide) rfl rfl rfl (e1 (cS (by decide)) e0)) trivial <| cm (oCallS (rest := []) (R' := [.box 70000 106 [.d (kL (kR f_api_Tok)) y38.1.l_, .d (kI .i64) y38.1.i_, .v 390080, .d (kI .i64) y38.1.deep_, .d (kI .i64) y38.1.bad_], .row 390080 3 (kI .i64) y38.1.out_]) (out' := .d (kB.sig y38.2)) [(70000, 70000), (70003, 370040)] [(70003, 390080)] [0, 1] [] [0, 1] rfl (rule_parser_is.ok hy38) b138 (oE1 tm (oE1 tm oE0)) rfl rfl rfl rfl rfl rfl rfl rfl) (s2 rfl rfl) <| cp (oAs tm) (s1 rfl) <| .nil) (by kernel_rfl) ?_
        refine pSeq ?_
        rcases ic h with ⟨hp39, h⟩ | ⟨hp39, h⟩
        · refine wBT hp39 tm (s1 rfl) ?_
          obtain ⟨y40, hy40, h⟩ := bd h
          refine rg (cp (oMv tm) (s1 rfl) <| cp (oMv tm) (s1 rfl) <| cp (oMkB tm) (s1 rfl) <| cm (oCallS (rest := []) (R' := [.box 70000 106 [.d (kL (kR f_api_Tok)) y40.l_, .d (kI .i64) y40.i_, .v 400120, .d (kI .i64) y40.deep_, .d (kI .i64) y40.bad_], .row 400120 3 (kI .i64) y40.out_]) (out' := .d (tup [])) [(70000, 70000), (70003, 390080)] [(70003, 400120)] [0, 1] [] [0, 1] rfl (rule_parser_inside_cond.ok hrc84 hy40) b142 (oE1 tm (oE1 (cS (by decide)) (oE1 tm oE0))) rfl rfl rfl rfl rfl rfl rfl rfl) (s2 rfl rfl) <| .nil) (by kernel_rfl) ?_
          refine pBlkN ?_
          refine pSub (Γ' := []) trivial ?_
          refine pRen 400120 3505002 rfl ?_
          exact pJ5 _ _ _ _ _ (so h) trivial rfl
        · refine wBF hp39 tm (s1 rfl) ?_
          refine wSeq ?_
          refine wSeq ?_
          obtain ⟨y41, hy41, h⟩ := bd h
          refine rg (cp (oMv tm) (s1 rfl) <| cm (oCallS (rest := []) (R' := [.box 70000 106 [.d (kL (kR f_api_Tok)) y41.l_, .d (kI .i64) y41.i_, .v 300040, .d (kI .i64) y41.deep_, .d (kI .i64) y41.bad_], .row 300040 3 (kI .i64) y41.out_]) (out' := .d (tup [])) [(70000, 70000), (70003, 390080)] [(70003, 300040)] [0, 1] [] [0, 1] rfl (rule_parser_label.ok hy41) b83 (oE1 tm oE0) rfl rfl rfl rfl rfl rfl rfl rfl) (s1 rfl) <| .nil) (by kernel_rfl) ?_
          refine pSeq ?_
          refine wWeak (Γ' := [(0, .p 70000 0)]) ⟨rfl, trivial⟩ ?_
          refine wRen 300040 3505002 rfl ?_
          obtain ⟨o2, h, hk2⟩ := bd h
          refine wJ6 (fun x44 x45 x46 x47 x48 x49 => (x44, x45, x46, x47, x48, x49) = o2) (fun x44 x45 x46 x47 x48 x49 => [(0, .p 70000 0), (13, .d (kB.sig x49))]) (fun x44 x45 x46 x47 x48 x49 => [.box 70000 106 [.d (kL (kR f_api_Tok)) x44, .d (kI .i64) x45, .v 3505002, .d (kI .i64) x46, .d (kI .i64) x47], .row 3505002 3 (kI .i64) x48]) ?_ ?_
          · rcases ic h with ⟨hp50, h⟩ | ⟨hp50, h⟩
            · obtain ⟨y51, hy51, h⟩ := bd h
              refine rg (cp (oMv tm) (s1 rfl) <| cp (oNilP tm) (s1 rfl) <| cp (oFldP o106_4 tm) (s1 rfl) <| cr (oLdB (n := 0) (k := 4) rfl rfl rfl t23 tm) (s1 rfl) <| cp (oEq rfl tm (cI (by decide))) (s1 rfl) <| cp (oMv tm) (s1 rfl) <| cgB (decide_eq_true hp50) rfl rfl (oMv tm) (s1 rfl) <| cmgB (decide_eq_true hp50) rfl rfl (oCallS (rest := []) (R' := [.box 70000 106 [.d (kL (kR f_api_Tok)) y51.1.l_, .d (kI .i64) y51.1.i_, .v 310280, .d (kI .i64) y51.1.deep_, .d (kI .i64) y51.1.bad_], .row 310280 3 (kI .i64) y51.1.out_]) (out' := .d (kB.sig y51.2)) [(70000, 70000), (70003, 3505002)] [(70003, 310280)] [0, 1] [] [0, 1] rfl (rule_parser_take.ok hy51) b129 (oE1 tm (oE1 (cS (by decide)) oE0)) rfl rfl rfl rfl rfl rfl rfl rfl) (s1 rfl) <| cgB (decide_eq_true hp50) rfl rfl (oNot tm) (s1 rfl) <| cp (oPkT (decide_eq_true hp50) tm tm) (s2 rfl rfl) <| .nil) (by kernel_rfl) ?_
              refine pSub (Γ' := [(0, .p 70000 0), (13, .d (kB.sig (!y51.2)))]) ⟨rfl, rfl, trivial⟩ ?_
              refine pRen 310280 3505002 rfl ?_
              exact pJ6 _ _ _ _ _ _ (so h) ⟨rfl, rfl, trivial⟩ rfl
            · refine rg (cp (oMv tm) (s1 rfl) <| cp (oNilP tm) (s1 rfl) <| cp (oFldP o106_4 tm) (s1 rfl) <| cr (oLdB (n := 0) (k := 4) rfl rfl rfl t23 tm) (s1 rfl) <| cp (oEq rfl tm (cI (by decide))) (s1 rfl) <| cp (oMv tm) (s1 rfl) <| csB (decide_eq_false hp50) rfl rfl <| csB (decide_eq_false hp50) rfl rfl <| csB (decide_eq_false hp50) rfl rfl <| cp (oPkF (decide_eq_false hp50) tm cB) (s1 rfl) <| .nil) (by kernel_rfl) ?_
              exact pJ6 _ _ _ _ _ _ (so h) ⟨rfl, rfl, trivial⟩ rfl
          · rintro x44 x45 x46 x47 x48 x49 rfl
            replace h := hk2
            rcases ic h with ⟨hp52, h⟩ | ⟨hp52, h⟩
            · refine wBT hp52 tm (s1 rfl) ?_
              obtain ⟨y53, hy53, h⟩ := bd h
              refine rg (cp (oMv tm) (s1 rfl) <| cm (oCallS (rest := []) (R' := [.box 70000 106 [.d (kL (kR f_api_Tok)) y53.l_, .d (kI .i64) y53.i_, .v 320040, .d (kI .i64) y53.deep_, .d (kI .i64) y53.bad_], .row 320040 3 (kI .i64) y53.out_]) (out' := .d (tup [])) [(70000, 70000), (70003, 3505002)] [(70003, 320040)] [0, 1] [] [0, 1] rfl (rule_parser_fail.ok hy53) b140 (oE1 tm (oE1 (cI (by decide)) oE0)) rfl rfl rfl rfl rfl rfl rfl rfl) (s1 rfl) <| .nil) (by kernel_rfl) ?_
              refine pSeq ?_
              refine wSeq ?_
              obtain ⟨y54, hy54, h⟩ := bd h
              refine rg (cp (oMv tm) (s1 rfl) <| cm (oCallS (rest := []) (R' := [.box 70000 106 [.d (kL (kR f_api_Tok)) y54.l_, .d (kI .i64) y54.i_, .v 330040, .d (kI .i64) y54.deep_, .d (kI .i64) y54.bad_], .row 330040 3 (kI .i64) y54.out_]) (out' := .d (tup [])) [(70000, 70000), (70003, 320040)] [(70003, 330040)] [0, 1] [] [0, 1] rfl (rule_parser_label.ok hy54) b83 (oE1 tm oE0) rfl rfl rfl rfl rfl rfl rfl rfl) (s1 rfl) <| .nil) (by kernel_rfl) ?_
              refine pSeq ?_
              obtain ⟨y55, hy55, h⟩ := bd h
              refine rg (cp (oMv tm) (s1 rfl) <| cm (oCallS (rest := []) (R' := [.box 70000 106 [.d (kL (kR f_api_Tok)) y55.l_, .d (kI .i64) y55.i_, .v 340040, .d (kI .i64) y55.deep_, .d (kI .i64) y55.bad_], .row 340040 3 (kI .i64) y55.out_]) (out' := .d (tup [])) [(70000, 70000), (70003, 330040)] [(70003, 340040)] [0, 1] [] [0, 1] rfl (rule_parser_put.ok hy55) b130 (oE1 tm (oE1 (cI (by decide)) oE0)) rfl rfl rfl rfl rfl rfl rfl rfl) (s1 rfl) <| .nil) (by kernel_rfl) ?_
              refine pBlkN ?_
              refine pSub (Γ' := []) trivial ?_
              refine pRen 340040 3505002 rfl ?_
              exact pJ5 _ _ _ _ _ (so h) trivial rfl
            · refine wBF hp52 tm (s1 rfl) ?_
              refine wSkip ?_
              refine pSeq ?_
              refine wSeq ?_
              obtain ⟨y56, hy56, h⟩ := bd h
              refine rg (cp (oMv tm) (s1 rfl) <| cm (oCallS (rest := []) (R' := [.box 70000 106 [.d (kL (kR f_api_Tok)) y56.l_, .d (kI .i64) y56.i_, .v 330040, .d (kI .i64) y56.deep_, .d (kI .i64) y56.bad_], .row 330040 3 (kI .i64) y56.out_]) (out' := .d (tup [])) [(70000, 70000), (70003, 3505002)] [(70003, 330040)] [0, 1] [] [0, 1] rfl (rule_parser_label.ok hy56) b83 (oE1 tm oE0) rfl rfl rfl rfl rfl rfl rfl rfl) (s1 rfl) <| .nil) (by kernel_rfl) ?_
              refine pSeq ?_
              obtain ⟨y57, hy57, h⟩ := bd h
              refine rg (cp (oMv tm) (s1 rfl) <| cm (oCallS (rest := []) (R' := [.box 70000 106 [.d (kL (kR f_api_Tok)) y57.l_, .d (kI .i64) y57.i_, .v 340040, .d (kI .i64) y57.deep_, .d (kI .i64) y57.bad_], .row 340040 3 (kI .i64) y57.out_]) (out' := .d (tup [])) [(70000, 70000), (70003, 330040)] [(70003, 340040)] [0, 1] [] [0, 1] rfl (rule_parser_put.ok hy57) b130 (oE1 tm (oE1 (cI (by decide)) oE0)) rfl rfl rfl rfl rfl rfl rfl rfl) (s1 rfl) <| .nil) (by kernel_rfl) ?_
              refine pBlkN ?_
              refine pSub (Γ' := []) trivial ?_
              refine pRen 340040 3505002 rfl ?_
              exact pJ5 _ _ _ _ _ (so h) trivial rfl
  · rintro x27 x28 x29 x30 x31 rfl
    replace h := hk1
    obtain rfl := so h
    refine pSub (Γ' := []) trivial ?_
    refine pRen 3505002 70003 rfl ?_
    exact pSn [0, 1] rfl rfl (.inr rfl) rfl rfl (.nil)

theorem rule_parser_row_prim.ok {rc84 : rule_parser → Option rule_parser} (hrc84 : ∀ {a0 : rule_parser} {r : rule_parser}, rc84 a0 = some r → FnS Try.prog 84 [.p 70000 0] [.box 70000 106 [.d (kL (kR f_api_Tok)) a0.l_, .d (kI .i64) a0.i_, .v 70003, .d (kI .i64) a0.deep_, .d (kI .i64) a0.bad_], .row 70003 3 (kI .i64) a0.out_] [70000] (.d (tup [])) [.box 70000 106 [.d (kL (kR f_api_Tok)) r.l_, .d (kI .i64) r.i_, .v 70003, .d (kI .i64) r.deep_, .d (kI .i64) r.bad_], .row 70003 3 (kI .i64) r.out_]) {a0 : rule_parser} {a1 : Str} {a2 : Int} {r : rule_parser} (h : rule_parser_row_prim.f rc84 a0 a1 a2 = some r) : FnS Try.prog 109 [.p 70000 0, .d (kS.sig a1), .d ((kI .i64).sig a2), .f [70000] (sBnd 132)] [.box 70000 106 [.d (kL (kR f_api_Tok)) a0.l_, .d (kI .i64) a0.i_, .v 70003, .d (kI .i64) a0.deep_, .d (kI .i64) a0.bad_], .row 70003 3 (kI .i64) a0.out_] [70000] (.d (tup [])) [.box 70000 106 [.d (kL (kR f_api_Tok)) r.l_, .d (kI .i64) r.i_, .v 70003, .d (kI .i64) r.deep_, .d (kI .i64) r.bad_], .row 70003 3 (kI .i64) r.out_] := by
  refine fnIntroS Try.func109 rfl (by kernel_rfl) fun X H0 w0 pv => ?_
  unfold rule_parser_row_prim.f at h
  refine wSeq ?_
  obtain ⟨y1, hy1, h⟩ := bd h
  refine rg (cp (oMv tm) (s1 rfl) <| cm (oCallB1 (ins := []) (kn := 70000) (rest := []) (R' := [.box 70000 106 [.d (kL (kR f_api_Tok)) y1.l_, .d (kI .i64) y1.i_, .v 300040, .d (kI .i64) y1.deep_, .d (kI .i64) y1.bad_], .row 300040 3 (kI .i64) y1.out_]) (out' := .d (tup [])) [(70000, 70000), (70003, 70003)] [(70003, 300040)] [0, 1] [] [0, 1] rfl tm (rule_parser_prim.ok hrc84 hy1) rfl rfl b132 oE0 rfl rfl rfl rfl rfl rfl rfl rfl) (s1 rfl) <| .nil) (by kernel_rfl) ?_
  refine pSeq ?_
  refine wWeak (Γ' := [(0, .p 70000 0), (1, .d (kS.sig a1)), (2, .d ((kI .i64).sig a2)), (3, .f [70000] (sBnd 132))]) ⟨rfl, rfl, rfl, rfl, trivial⟩ ?_
  refine wRen 300040 3505002 rfl ?_
  obtain ⟨o1, h, hk1⟩ := bd h
  refine wK5 (fun x15 x16 x17 x18 x19 => (x15, x16, x17, x18, x19) = o1) (fun x15 x16 x17 x18 x19 => []) (fun x15 x16 x17 x18 x19 => [.box 70000 106 [.d (kL (kR f_api_Tok)) x15, .d (kI .i64) x16, .v 3505002, .d (kI .i64) x17, .d (kI .i64) x18], .row 3505002 3 (kI .i64) x19]) ?_ ?_
  · refine wBlock (wLoop ?_)
    refine lW (pc5 o1 (fun v10 v11 v12 v13 v14 => [(0, .p 70000 0), (1, .d (kS.sig a1)), (2, .d ((kI .i64).sig a2)), (3, .f [70000] (sBnd 132))]) (fun v10 v11 v12 v13 v14 => [.box 70000 106 [.d (kL (kR f_api_Tok)) v10, .d (kI .i64) v11, .v 3505002, .d (kI .i64) v12, .d (kI .i64) v13], .row 3505002 3 (kI .i64) v14]) (rule_parser_row_prim.l0.partial_correctness a1 a2 rc84) ?_ _ _ _ _ _ h) ⟨rfl, rfl, rfl, rfl, trivial⟩ rfl
    clear h
    intro f' ih v10 v11 v12 v13 v14 h
    refine wSeq ?_
    refine wSeq ?_
    obtain ⟨y20, hy20, h⟩ := bd h
    refine rg (cp (oMv tm) (s1 rfl) <| cp (oMv tm) (s1 rfl) <| cm (oCallS (rest := []) (R' := [.box 70000 106 [.d (kL (kR f_api_Tok)) y20.1.l_, .d (kI .i64) y20.1.i_, .v 310080, .d (kI .i64) y20.1.deep_, .d (kI .i64) y20.1.bad_], .row 310080 3 (kI .i64) y20.1.out_]) (out' := .d (kB.sig y20.2)) [(70000, 70000), (70003, 3505002)] [(70003, 310080)] [0, 1] [] [0, 1] rfl (rule_parser_take.ok hy20) b129 (oE1 tm (oE1 tm oE0)) rfl rfl rfl rfl rfl rfl rfl rfl) (s2 rfl rfl) <| .nil) (by kernel_rfl) ?_
    refine pSeq ?_
    rcases ic h with ⟨hp21, h⟩ | ⟨hp21, h⟩
    · refine wBT hp21 tm (s1 rfl) ?_
      refine wSkip ?_
      refine pSeq ?_
      refine wBlock ?_
      refine wSeq ?_
      obtain ⟨y22, hy22, h⟩ := bd h
      refine rg (cp (oMv tm) (s1 rfl) <| cm (oCallB1 (ins := []) (kn := 70000) (rest := []) (R' := [.box 70000 106 [.d (kL (kR f_api_Tok)) y22.l_, .d (kI .i64) y22.i_, .v 320040, .d (kI .i64) y22.deep_, .d (kI .i64) y22.bad_], .row 320040 3 (kI .i64) y22.out_]) (out' := .d (tup [])) [(70000, 70000), (70003, 310080)] [(70003, 320040)] [0, 1] [] [0, 1] rfl tm (rule_parser_prim.ok hrc84 hy22) rfl rfl b132 oE0 rfl rfl rfl rfl rfl rfl rfl rfl) (s1 rfl) <| .nil) (by kernel_rfl) ?_
      refine pSeq ?_
      obtain ⟨y23, hy23, h⟩ := bd h
      refine rg (cp (oMv tm) (s1 rfl) <| cp (oMv tm) (s1 rfl) <| cm (oCallS (rest := []) (R' := [.box 70000 106 [.d (kL (kR f_api_Tok)) y23.l_, .d (kI .i64) y23.i_, .v 330080, .d (kI .i64) y23.deep_, .d (kI .i64) y23.bad_], .row 330080 3 (kI .i64) y23.out_]) (out' := .d (tup [])) [(70000, 70000), (70003, 320040)] [(70003, 330080)] [0, 1] [] [0, 1] rfl (rule_parser_put.ok hy23) b130 (oE1 tm (oE1 tm oE0)) rfl rfl rfl rfl rfl rfl rfl rfl) (s2 rfl rfl) <| .nil) (by kernel_rfl) ?_
      refine pBlkN ?_
      refine pSub (Γ' := [(0, .p 70000 0), (1, .d (kS.sig a1)), (2, .d ((kI .i64).sig a2)), (3, .f [70000] (sBnd 132))]) ⟨rfl, rfl, rfl, rfl, trivial⟩ ?_
      refine pRen 330080 3505002 rfl ?_
      exact pLoop (lW (ih _ _ _ _ _ h) ⟨rfl, rfl, rfl, rfl, trivial⟩ rfl)
    · refine wBF hp21 tm (s1 rfl) ?_
      refine wExit ?_
      refine pThenX ?_
      refine pThenX ?_
      refine pBlkX ?_
      refine pSub (Γ' := []) trivial ?_
      refine pRen 310080 3505002 rfl ?_
      exact pJ5 _ _ _ _ _ (so h) trivial rfl
  · rintro x15 x16 x17 x18 x19 rfl
    replace h := hk1
    obtain rfl := so h
    refine pSub (Γ' := []) trivial ?_
    refine pRen 3505002 70003 rfl ?_
    exact pSn [0, 1] rfl rfl (.inr rfl) rfl rfl (.nil)

theorem rule_parser_and.ok {rc84 : rule_parser → Option rule_parser} (hrc84 : ∀ {a0 : rule_parser} {r : rule_parser}, rc84 a0 = some r → FnS Try.prog 84 [.p 70000 0] [.box 70000 106 [.d (kL (kR f_api_Tok)) a0.l_, .d (kI .i64) a0.i_, .v 70003, .d (kI .i64) a0.deep_, .d (kI .i64) a0.bad_], .row 70003 3 (kI .i64) a0.out_] [70000] (.d (tup [])) [.box 70000 106 [.d (kL (kR f_api_Tok)) r.l_, .d (kI .i64) r.i_, .v 70003, .d (kI .i64) r.deep_, .d (kI .i64) r.bad_], .row 70003 3 (kI .i64) r.out_]) {a0 : rule_parser} {r : rule_parser} (h : rule_parser_and.f rc84 a0 = some r) : FnS Try.prog 111 [.p 70000 0] [.box 70000 106 [.d (kL (kR f_api_Tok)) a0.l_, .d (kI .i64) a0.i_, .v 70003, .d (kI .i64) a0.deep_, .d (kI .i64) a0.bad_], .row 70003 3 (kI .i64) a0.out_] [70000] (.d (tup [])) [.box 70000 106 [.d (kL (kR f_api_Tok)) r.l_, .d (kI .i64) r.i_, .v 70003, .d (kI .i64) r.deep_, .d (kI .i64) r.bad_], .row 70003 3 (kI .i64) r.out_] := by
  refine fnIntroS Try.func111 rfl (by kernel_rfl) fun X H0 w0 pv => ?_
  unfold rule_parser_and.f at h
  obtain ⟨y1, hy1, h⟩ := bd h
  refine rg (cp (oMv tm) (s1 rfl) <| cp (oMv tm) (s1 rfl) <| cp (oMkB tm) (s1 rfl) <| cm (oCallS (rest := []) (R' := [.box 70000 106 [.d (kL (kR f_api_Tok)) y1.l_, .d (kI .i64) y1.i_, .v 300120, .d (kI .i64) y1.deep_, .d (kI .i64) y1.bad_], .row 300120 3 (kI .i64) y1.out_]) (out' := .d (tup [])) [(70000, 70000), (70003, 70003)] [(70003, 300120)] [0, 1] [] [0, 1] rfl (rule_parser_row_prim.ok hrc84 hy1) b109 (oE1 tm (oE1 (cS (by decide)) (oE1 (cI (by decide)) (oE1 tm oE0)))) rfl rfl rfl rfl rfl rfl rfl rfl) (s2 rfl rfl) <| .nil) (by kernel_rfl) ?_
  obtain rfl := so h
  refine pSub (Γ' := []) trivial ?_
  refine pRen 300120 70003 rfl ?_
  exact pSn [0, 1] rfl rfl (.inr rfl) rfl rfl (.nil)

theorem rule_parser_row_and.ok {rc84 : rule_parser → Option rule_parser} (hrc84 : ∀ {a0 : rule_parser} {r : rule_parser}, rc84 a0 = some r → FnS Try.prog 84 [.p 70000 0] [.box 70000 106 [.d (kL (kR f_api_Tok)) a0.l_, .d (kI .i64) a0.i_, .v 70003, .d (kI .i64) a0.deep_, .d (kI .i64) a0.bad_], .row 70003 3 (kI .i64) a0.out_] [70000] (.d (tup [])) [.box 70000 106 [.d (kL (kR f_api_Tok)) r.l_, .d (kI .i64) r.i_, .v 70003, .d (kI .i64) r.deep_, .d (kI .i64) r.bad_], .row 70003 3 (kI .i64) r.out_]) {a0 : rule_parser} {a1 : Str} {a2 : Int} {r : rule_parser} (h : rule_parser_row_and.f rc84 a0 a1 a2 = some r) : FnS Try.prog 109 [.p 70000 0, .d (kS.sig a1), .d ((kI .i64).sig a2), .f [70000] (sBnd 111)] [.box 70000 106 [.d (kL (kR f_api_Tok)) a0.l_, .d (kI .i64) a0.i_, .v 70003, .d (kI .i64) a0.deep_, .d (kI .i64) a0.bad_], .row 70003 3 (kI .i64) a0.out_] [70000] (.d (tup [])) [.box 70000 106 [.d (kL (kR f_api_Tok)) r.l_, .d (kI .i64) r.i_, .v 70003, .d (kI .i64) r.deep_, .d (kI .i64) r.bad_], .row 70003 3 (kI .i64) r.out_] := by
  refine fnIntroS Try.func109 rfl (by kernel_rfl) fun X H0 w0 pv => ?_
  unfold rule_parser_row_and.f at h
  refine wSeq ?_
  obtain ⟨y1, hy1, h⟩ := bd h
  refine rg (cp (oMv tm) (s1 rfl) <| cm (oCallB1 (ins := []) (kn := 70000) (rest := []) (R' := [.box 70000 106 [.d (kL (kR f_api_Tok)) y1.l_, .d (kI .i64) y1.i_, .v 300040, .d (kI .i64) y1.deep_, .d (kI .i64) y1.bad_], .row 300040 3 (kI .i64) y1.out_]) (out' := .d (tup [])) [(70000, 70000), (70003, 70003)] [(70003, 300040)] [0, 1] [] [0, 1] rfl tm (rule_parser_and.ok hrc84 hy1) rfl rfl b111 oE0 rfl rfl rfl rfl rfl rfl rfl rfl) (s1 rfl) <| .nil) (by kernel_rfl) ?_
  refine pSeq ?_
  refine wWeak (Γ' := [(0, .p 70000 0), (1, .d (kS.sig a1)), (2, .d ((kI .i64).sig a2)), (3, .f [70000] (sBnd 111))]) ⟨rfl, rfl, rfl, rfl, trivial⟩ ?_
  refine wRen 300040 3505002 rfl ?_
  obtain ⟨o1, h, hk1⟩ := bd h
  refine wK5 (fun x15 x16 x17 x18 x19 => (x15, x16, x17, x18, x19) = o1) (fun x15 x16 x17 x18 x19 => []) (fun x15 x16 x17 x18 x19 => [.box 70000 106 [.d (kL (kR f_api_Tok)) x15, .d (kI .i64) x16, .v 3505002, .d (kI .i64) x17, .d (kI .i64) x18], .row 3505002 3 (kI .i64) x19]) ?_ ?_
  · refine wBlock (wLoop ?_)
    refine lW (pc5 o1 (fun v10 v11 v12 v13 v14 => [(0, .p 70000 0), (1, .d (kS.sig a1)), (2, .d ((kI .i64).sig a2)), (3, .f [70000] (sBnd 111))]) (fun v10 v11 v12 v13 v14 => [.box 70000 106 [.d (kL (kR f_api_Tok)) v10, .d (kI .i64) v11, .v 3505002, .d (kI .i64) v12, .d (kI .i64) v13], .row 3505002 3 (kI .i64) v14]) (rule_parser_row_and.l0.partial_correctness a1 a2 rc84) ?_ _ _ _ _ _ h) ⟨rfl, rfl, rfl, rfl, trivial⟩ rfl
    clear h
    intro f' ih v10 v11 v12 v13 v14 h
    refine wSeq ?_
    refine wSeq ?_
    obtain ⟨y20, hy20, h⟩ := bd h
    refine rg (cp (oMv tm) (s1 rfl) <| cp (oMv tm) (s1 rfl) <| cm (oCallS (rest := []) (R' := [.box 70000 106 [.d (kL (kR f_api_Tok)) y20.1.l_, .d (kI .i64) y20.1.i_, .v 310080, .d (kI .i64) y20.1.deep_, .d (kI .i64) y20.1.bad_], .row 310080 3 (kI .i64) y20.1.out_]) (out' := .d (kB.sig y20.2)) [(70000, 70000), (70003, 3505002)] [(70003, 310080)] [0, 1] [] [0, 1] rfl (rule_parser_take.ok hy20) b129 (oE1 tm (oE1 tm oE0)) rfl rfl rfl rfl rfl rfl rfl rfl) (s2 rfl rfl) <| .nil) (by kernel_rfl) ?_
    refine pSeq ?_
    rcases ic h with ⟨hp21, h⟩ | ⟨hp21, h⟩
    · refine wBT hp21 tm (s1 rfl) ?_
      refine wSkip ?_
      refine pSeq ?_
      refine wBlock ?_
      refine wSeq ?_
      obtain ⟨y22, hy22, h⟩ := bd h
      refine rg (cp (oMv tm) (s1 rfl) <| cm (oCallB1 (ins := []) (kn := 70000) (rest := []) (R' := [.box 70000 106 [.d (kL (kR f_api_Tok)) y22.l_, .d (kI .i64) y22.i_, .v 320040, .d (kI .i64) y22.deep_, .d (kI .i64) y22.bad_], .row 320040 3 (kI .i64) y22.out_]) (out' := .d (tup [])) [(70000, 70000), (70003, 310080)] [(70003, 320040)] [0, 1] [] [0, 1] rfl tm (rule_parser_and.ok hrc84 hy22) rfl rfl b111 oE0 rfl rfl rfl rfl rfl rfl rfl rfl) (s1 rfl) <| .nil) (by kernel_rfl) ?_
      refine pSeq ?_
      obtain ⟨y23, hy23, h⟩ := bd h
      refine rg (cp (oMv tm) (s1 rfl) <| cp (oMv tm) (s1 rfl) <| cm (oCallS (rest := []) (R' := [.box 70000 106 [.d (kL (kR f_api_Tok)) y23.l_, .d (kI .i64) y23.i_, .v 330080, .d (kI .i64) y23.deep_, .d (kI .i64) y23.bad_], .row 330080 3 (kI .i64) y23.out_]) (out' := .d (tup [])) [(70000, 70000), (70003, 320040)] [(70003, 330080)] [0, 1] [] [0, 1] rfl (rule_parser_put.ok hy23) b130 (oE1 tm (oE1 tm oE0)) rfl rfl rfl rfl rfl rfl rfl rfl) (s2 rfl rfl) <| .nil) (by kernel_rfl) ?_
      refine pBlkN ?_
      refine pSub (Γ' := [(0, .p 70000 0), (1, .d (kS.sig a1)), (2, .d ((kI .i64).sig a2)), (3, .f [70000] (sBnd 111))]) ⟨rfl, rfl, rfl, rfl, trivial⟩ ?_
      refine pRen 330080 3505002 rfl ?_
      exact pLoop (lW (ih _ _ _ _ _ h) ⟨rfl, rfl, rfl, rfl, trivial⟩ rfl)
    · refine wBF hp21 tm (s1 rfl) ?_
      refine wExit ?_
      refine pThenX ?_
      refine pThenX ?_
      refine pBlkX ?_
      refine pSub (Γ' := []) trivial ?_
      refine pRen 310080 3505002 rfl ?_
      exact pJ5 _ _ _ _ _ (so h) trivial rfl
  · rintro x15 x16 x17 x18 x19 rfl
    replace h := hk1
    obtain rfl := so h
    refine pSub (Γ' := []) trivial ?_
    refine pRen 3505002 70003 rfl ?_
    exact pSn [0, 1] rfl rfl (.inr rfl) rfl rfl (.nil)

theorem rule_parser_cond.okB {rc84 : rule_parser → Option rule_parser} (hrc84 : ∀ {a0 : rule_parser} {r : rule_parser}, rc84 a0 = some r → FnS Try.prog 84 [.p 70000 0] [.box 70000 106 [.d (kL (kR f_api_Tok)) a0.l_, .d (kI .i64) a0.i_, .v 70003, .d (kI .i64) a0.deep_, .d (kI .i64) a0.bad_], .row 70003 3 (kI .i64) a0.out_] [70000] (.d (tup [])) [.box 70000 106 [.d (kL (kR f_api_Tok)) r.l_, .d (kI .i64) r.i_, .v 70003, .d (kI .i64) r.deep_, .d (kI .i64) r.bad_], .row 70003 3 (kI .i64) r.out_]) {a0 : rule_parser} {r : rule_parser} (h : rule_parser_cond.B rc84 a0 = some r) : FnS Try.prog 84 [.p 70000 0] [.box 70000 106 [.d (kL (kR f_api_Tok)) a0.l_, .d (kI .i64) a0.i_, .v 70003, .d (kI .i64) a0.deep_, .d (kI .i64) a0.bad_], .row 70003 3 (kI .i64) a0.out_] [70000] (.d (tup [])) [.box 70000 106 [.d (kL (kR f_api_Tok)) r.l_, .d (kI .i64) r.i_, .v 70003, .d (kI .i64) r.deep_, .d (kI .i64) r.bad_], .row 70003 3 (kI .i64) r.out_] := by
  refine fnIntroS Try.func84 rfl (by kernel_rfl) fun X H0 w0 pv => ?_
  unfold rule_parser_cond.B at h
  obtain ⟨y1, hy1, h⟩ := bd h
  refine rg (cp (oMv tm) (s1 rfl) <| cp (oMv tm) (s1 rfl) <| cp (oMkB tm) (s1 rfl) <| cm (oCallS (rest := []) (R' := [.box 70000 106 [.d (kL (kR f_api_Tok)) y1.l_, .d (kI .i64) y1.i_, .v 300120, .d (kI .i64) y1.deep_, .d (kI .i64) y1.bad_], .row 300120 3 (kI .i64) y1.out_]) (out' := .d (tup [])) [(70000, 70000), (70003, 70003)] [(70003, 300120)] [0, 1] [] [0, 1] rfl (rule_parser_row_and.ok hrc84 hy1) b109 (oE1 tm (oE1 (cS (by decide)) (oE1 (cI (by decide)) (oE1 tm oE0)))) rfl rfl rfl rfl rfl rfl rfl rfl) (s2 rfl rfl) <| .nil) (by kernel_rfl) ?_
  obtain rfl := so h
  refine pSub (Γ' := []) trivial ?_
  refine pRen 300120 70003 rfl ?_
  exact pSn [0, 1] rfl rfl (.inr rfl) rfl rfl (.nil)
theorem rule_parser_cond.okF : ∀ (k : Nat) {a0 : rule_parser} {r : rule_parser}, rule_parser_cond.F k a0 = some r → FnS Try.prog 84 [.p 70000 0] [.box 70000 106 [.d (kL (kR f_api_Tok)) a0.l_, .d (kI .i64) a0.i_, .v 70003, .d (kI .i64) a0.deep_, .d (kI .i64) a0.bad_], .row 70003 3 (kI .i64) a0.out_] [70000] (.d (tup [])) [.box 70000 106 [.d (kL (kR f_api_Tok)) r.l_, .d (kI .i64) r.i_, .v 70003, .d (kI .i64) r.deep_, .d (kI .i64) r.bad_], .row 70003 3 (kI .i64) r.out_]
  | 0, _, _, h => by cases h
  | k + 1, _, _, h => rule_parser_cond.okB (fun h => rule_parser_cond.okF k h) h
theorem rule_parser_cond.ok {a0 : rule_parser} {r : rule_parser} (h : rule_parser_cond.f a0 = some r) : FnS Try.prog 84 [.p 70000 0] [.box 70000 106 [.d (kL (kR f_api_Tok)) a0.l_, .d (kI .i64) a0.i_, .v 70003, .d (kI .i64) a0.deep_, .d (kI .i64) a0.bad_], .row 70003 3 (kI .i64) a0.out_] [70000] (.d (tup [])) [.box 70000 106 [.d (kL (kR f_api_Tok)) r.l_, .d (kI .i64) r.i_, .v 70003, .d (kI .i64) r.deep_, .d (kI .i64) r.bad_], .row 70003 3 (kI .i64) r.out_] := rule_parser_cond.okF 1000 h

theorem rule_From.ok {a0 : List api_Tok} {a1 : Int} {a2 : Bool} {r : (List Int) × Int × Int} (h : rule_From.f a0 a1 a2 = some r) : FnA Try.prog 45 [(kL (kR f_api_Tok)).sig a0, (kI .i64).sig a1, kB.sig a2] (tup [(kL (kI .i64)).sig r.1, (kI .i64).sig r.2.1, (kI .i64).sig r.2.2]) := by
  refine fnIntro Try.func45 rfl (by kernel_rfl) fun H0 w0 => ?_
  unfold rule_From.f at h
  refine wSeq ?_
  refine rg (cp (oAs cV) trivial <| cp (oAs (cI (by decide))) trivial <| cp (oAs (cI (by decide))) trivial <| .nil) (by kernel_rfl) ?_
  refine pSeq ?_
  refine wSeq ?_
  obtain ⟨o1, h, hk1⟩ := bd h
  refine wJ1 (fun x4 => x4 = o1) (fun x4 => [(0, .d ((kL (kR f_api_Tok)).sig a0)), (1, .d ((kI .i64).sig a1)), (2, .d (kB.sig a2)), (27, .d (kB.sig x4))]) (fun x4 => []) ?_ ?_
  · rcases ic h with ⟨hp5, h⟩ | ⟨hp5, h⟩
    · refine rg (cp (oMv tm) (s1 rfl) <| cp (oLt rfl tm (cI (by decide))) (s1 rfl) <| cp (oMv tm) (s1 rfl) <| csB (decide_eq_true hp5) rfl rfl <| csB (decide_eq_true hp5) rfl rfl <| csB (decide_eq_true hp5) rfl rfl <| csB (decide_eq_true hp5) rfl rfl <| cp (oPkT (decide_eq_true hp5) tm cB) (s1 rfl) <| cp (oMv tm) (s1 rfl) <| csB rfl rfl rfl <| csB rfl rfl rfl <| csB rfl rfl rfl <| csB rfl rfl rfl <| csB rfl rfl rfl <| csB rfl rfl rfl <| csB rfl rfl rfl <| csB rfl rfl rfl <| cp (oPkT rfl tm cB) (s1 rfl) <| .nil) (by kernel_rfl) ?_
      exact pJ1 _ (so h) ⟨rfl, rfl, rfl, rfl, trivial⟩ rfl
    · rcases ic h with ⟨hp6, h⟩ | ⟨hp6, h⟩
      · refine rg (cp (oMv tm) (s1 rfl) <| cp (oLt rfl tm (cI (by decide))) (s1 rfl) <| cp (oMv tm) (s1 rfl) <| cgB (decide_eq_false hp5) rfl rfl (oMv tm) (s1 rfl) <| cgB (decide_eq_false hp5) rfl rfl (oMv tm) (s1 rfl) <| cgB (decide_eq_false hp5) rfl rfl (oLenL u34 tm) (s1 rfl) <| cgB (decide_eq_false hp5) rfl rfl (oGe rfl tm tm) (s2 rfl rfl) <| cp (oPkF (decide_eq_false hp5) tm tm) (s2 rfl rfl) <| cp (oMv tm) (s1 rfl) <| csB (decide_eq_true hp6) rfl rfl <| csB (decide_eq_true hp6) rfl rfl <| csB (decide_eq_true hp6) rfl rfl <| csB (decide_eq_true hp6) rfl rfl <| csB (decide_eq_true hp6) rfl rfl <| csB (decide_eq_true hp6) rfl rfl <| csB (decide_eq_true hp6) rfl rfl <| csB (decide_eq_true hp6) rfl rfl <| cp (oPkT (decide_eq_true hp6) tm cB) (s1 rfl) <| .nil) (by kernel_rfl) ?_
        exact pJ1 _ (so h) ⟨rfl, rfl, rfl, rfl, trivial⟩ rfl
      · obtain ⟨y7, hy7, h⟩ := bd h
        refine rg (cp (oMv tm) (s1 rfl) <| cp (oLt rfl tm (cI (by decide))) (s1 rfl) <| cp (oMv tm) (s1 rfl) <| cgB (decide_eq_false hp5) rfl rfl (oMv tm) (s1 rfl) <| cgB (decide_eq_false hp5) rfl rfl (oMv tm) (s1 rfl) <| cgB (decide_eq_false hp5) rfl rfl (oLenL u34 tm) (s1 rfl) <| cgB (decide_eq_false hp5) rfl rfl (oGe rfl tm tm) (s2 rfl rfl) <| cp (oPkF (decide_eq_false hp5) tm tm) (s2 rfl rfl) <| cp (oMv tm) (s1 rfl) <| cgB (decide_eq_false hp6) rfl rfl (oMv tm) (s1 rfl) <| cgB (decide_eq_false hp6) rfl rfl (oMv tm) (s1 rfl) <| cgB (decide_eq_false hp6) rfl rfl (oLenL u34 tm) (s1 rfl) <| cgB (decide_eq_false hp6) rfl rfl (oSub tm (cI (by decide))) (s1 rfl) <| cgB (decide_eq_false hp6) rfl rfl (oIdx u34 z36 hy7 tm tm) (s2 rfl rfl) <| cgB (decide_eq_false hp6) rfl rfl (oFld (fs := f_api_Tok) (k := 0) rfl o36_0 tm) (s1 rfl) <| cgB (decide_eq_false hp6) rfl rfl (oLd t3 tm) (s1 rfl) <| cgB (decide_eq_false hp6) rfl rfl (oNe rfl tm (cI (by decide))) (s1 rfl) <| cp (oPkF (decide_eq_false hp6) tm tm) (s2 rfl rfl) <| .nil) (by kernel_rfl) ?_
        exact pJ1 _ (so h) ⟨rfl, rfl, rfl, rfl, trivial⟩ rfl
  · rintro x4 rfl
    replace h := hk1
    rcases ic h with ⟨hp8, h⟩ | ⟨hp8, h⟩
    · refine wBT hp8 tm (s1 rfl) ?_
      refine wSeq ?_
      refine rg (cp (oAs cV) trivial <| cp (oAs (cI (by decide))) trivial <| cp (oAs (cI (by decide))) trivial <| .nil) (by kernel_rfl) ?_
      refine pSeq ?_
      refine wNil (kI .i64) 3 9006 6 rfl rfl ?_
      refine wFrzR (n := 0) (id := 9006) [6] rfl rfl ⟨rfl, trivial⟩ ?_
      refine wRet ?_
      refine pThenR ?_
      obtain rfl := so h
      exact pRn (.inl rfl) rfl rfl (.tmp rfl <| .tmp rfl <| .tmp rfl <| .nil)
    · refine wBF hp8 tm (s1 rfl) ?_
      refine wSkip ?_
      refine pSeq ?_
      refine wSeq ?_
      refine rg (cp (oMv tm) (s1 rfl) <| cp (oMv tm) (s1 rfl) <| cp (oBuild (fs := f_rule_parser_n2) (u := ⟨a0, a1, [], 0, 0⟩) rfl ze106 pl106 po106_2 (.op (zc := [(.slice none 0 0)]) tm rfl (.op (zc := [(.int .i64 0)]) tm rfl (.ze (zc := [(.slice none 0 0)]) zN (.ze (zc := [(.int .i64 0)]) zI_i64 (.ze (zc := [(.int .i64 0)]) zI_i64 .nil)))))) (s2 rfl rfl) <| cw (oBoxS (id := 31) (fs := f_rule_parser_n2) tm) (s1 rfl) <| cp (oAs tm) (s1 rfl) <| .nil) (by kernel_rfl) ?_
      refine pSeq ?_
      refine wSeq ?_
      refine wSeq ?_
      refine rg (cp (oMv tm) (s1 rfl) <| .nil) (by kernel_rfl) ?_
      refine pSeq ?_
      rcases ic h with ⟨hp9, h⟩ | ⟨hp9, h⟩
      · refine wBT hp9 tm (s1 rfl) ?_
        refine wNilL (kI .i64) 3 6552 (n := 0) (k := 2) rfl rfl rfl ?_
        obtain ⟨y10, hy10, h⟩ := bd h
        refine rg (cp (oMv tm) (s1 rfl) <| cm (oCallS (rest := []) (R' := [.row 350040 3 (kI .i64) y10.out_, .box 31 106 [.d (kL (kR f_api_Tok)) y10.l_, .d (kI .i64) y10.i_, .v 350040, .d (kI .i64) y10.deep_, .d (kI .i64) y10.bad_]]) (out' := .d (tup [])) [(70000, 31), (70003, 6552)] [(70003, 350040)] [1, 0] [] [1, 0] rfl (rule_parser_label.ok hy10) b83 (oE1 tm oE0) rfl rfl rfl rfl rfl rfl rfl rfl) (s1 rfl) <| .nil) (by kernel_rfl) ?_
        refine pSeq ?_
        refine wSeq ?_
        refine wSeq ?_
        refine rg (cp (oMv tm) (s1 rfl) <| cp (oNilP tm) (s1 rfl) <| cp (oFldP o106_4 tm) (s1 rfl) <| cr (oLdB (n := 1) (k := 4) rfl rfl rfl t23 tm) (s1 rfl) <| cp (oNe rfl tm (cI (by decide))) (s1 rfl) <| .nil) (by kernel_rfl) ?_
        refine pSeq ?_
        rcases ic h with ⟨hp11, h⟩ | ⟨hp11, h⟩
        · refine wNT hp11 tm (s1 rfl) ?_
          refine wSkip ?_
          refine pSeq ?_
          refine wSeq ?_
          refine rgD hm (cp (oMv tm) (s1 rfl) <| cp (oNilP tm) (s1 rfl) <| cp (oFldP o106_2 tm) (s1 rfl) <| cr (oLdN (n := 1) (k := 2) rfl rfl rfl t22 tm) (s1 rfl) <| cp (oMv tm) (s1 rfl) <| cp (oNilP tm) (s1 rfl) <| cp (oFldP o106_1 tm) (s1 rfl) <| cr (oLdB (n := 1) (k := 1) rfl rfl rfl t3 tm) (s1 rfl) <| cp (oAs tm) (s1 rfl) <| cp (oAs tm) (s1 rfl) <| cp (oAs (cI (by decide))) trivial <| .nil) (by kernel_rfl) (by kernel_rfl) ?_
          refine pSeq ?_
          refine wFrzR (n := 0) (id := 350040) [6] rfl rfl ⟨rfl, trivial⟩ ?_
          refine wRet ?_
          obtain rfl := so h
          exact pRn (.inl rfl) rfl rfl (.tmp rfl <| .tmp rfl <| .tmp rfl <| .nil)
        · refine wNF hp11 tm (s1 rfl) ?_
          refine wSeq ?_
          refine rgD hm (cp (oMv tm) (s1 rfl) <| cp (oNilP tm) (s1 rfl) <| cp (oFldP o106_1 tm) (s1 rfl) <| cr (oLdB (n := 1) (k := 1) rfl rfl rfl t3 tm) (s1 rfl) <| cp (oMv tm) (s1 rfl) <| cp (oNilP tm) (s1 rfl) <| cp (oFldP o106_4 tm) (s1 rfl) <| cr (oLdB (n := 1) (k := 4) rfl rfl rfl t23 tm) (s1 rfl) <| cp (oAs cV) trivial <| cp (oAs tm) (s1 rfl) <| cp (oAs tm) (s1 rfl) <| .nil) (by kernel_rfl) (by kernel_rfl) ?_
          refine pSeq ?_
          refine wNil (kI .i64) 3 9006 6 rfl rfl ?_
          refine wFrzR (n := 0) (id := 9006) [6] rfl rfl ⟨rfl, trivial⟩ ?_
          refine wRet ?_
          refine pThenR ?_
          obtain rfl := so h
          exact pRn (.inl rfl) rfl rfl (.tmp rfl <| .tmp rfl <| .tmp rfl <| .nil)
      · refine wBF hp9 tm (s1 rfl) ?_
        refine wNilL (kI .i64) 3 6552 (n := 0) (k := 2) rfl rfl rfl ?_
        obtain ⟨y12, hy12, h⟩ := bd h
        refine rg (cp (oMv tm) (s1 rfl) <| cm (oCallS (rest := []) (R' := [.row 360040 3 (kI .i64) y12.out_, .box 31 106 [.d (kL (kR f_api_Tok)) y12.l_, .d (kI .i64) y12.i_, .v 360040, .d (kI .i64) y12.deep_, .d (kI .i64) y12.bad_]]) (out' := .d (tup [])) [(70000, 31), (70003, 6552)] [(70003, 360040)] [1, 0] [] [1, 0] rfl (rule_parser_cond.ok hy12) b84 (oE1 tm oE0) rfl rfl rfl rfl rfl rfl rfl rfl) (s1 rfl) <| .nil) (by kernel_rfl) ?_
        refine pSeq ?_
        refine wSeq ?_
        refine wSeq ?_
        refine rg (cp (oMv tm) (s1 rfl) <| cp (oNilP tm) (s1 rfl) <| cp (oFldP o106_4 tm) (s1 rfl) <| cr (oLdB (n := 1) (k := 4) rfl rfl rfl t23 tm) (s1 rfl) <| cp (oNe rfl tm (cI (by decide))) (s1 rfl) <| .nil) (by kernel_rfl) ?_
        refine pSeq ?_
        rcases ic h with ⟨hp13, h⟩ | ⟨hp13, h⟩
        · refine wNT hp13 tm (s1 rfl) ?_
          refine wSkip ?_
          refine pSeq ?_
          refine wSeq ?_
          refine rgD hm (cp (oMv tm) (s1 rfl) <| cp (oNilP tm) (s1 rfl) <| cp (oFldP o106_2 tm) (s1 rfl) <| cr (oLdN (n := 1) (k := 2) rfl rfl rfl t22 tm) (s1 rfl) <| cp (oMv tm) (s1 rfl) <| cp (oNilP tm) (s1 rfl) <| cp (oFldP o106_1 tm) (s1 rfl) <| cr (oLdB (n := 1) (k := 1) rfl rfl rfl t3 tm) (s1 rfl) <| cp (oAs tm) (s1 rfl) <| cp (oAs tm) (s1 rfl) <| cp (oAs (cI (by decide))) trivial <| .nil) (by kernel_rfl) (by kernel_rfl) ?_
          refine pSeq ?_
          refine wFrzR (n := 0) (id := 360040) [6] rfl rfl ⟨rfl, trivial⟩ ?_
          refine wRet ?_
          obtain rfl := so h
          exact pRn (.inl rfl) rfl rfl (.tmp rfl <| .tmp rfl <| .tmp rfl <| .nil)
        · refine wNF hp13 tm (s1 rfl) ?_
          refine wSeq ?_
          refine rgD hm (cp (oMv tm) (s1 rfl) <| cp (oNilP tm) (s1 rfl) <| cp (oFldP o106_1 tm) (s1 rfl) <| cr (oLdB (n := 1) (k := 1) rfl rfl rfl t3 tm) (s1 rfl) <| cp (oMv tm) (s1 rfl) <| cp (oNilP tm) (s1 rfl) <| cp (oFldP o106_4 tm) (s1 rfl) <| cr (oLdB (n := 1) (k := 4) rfl rfl rfl t23 tm) (s1 rfl) <| cp (oAs cV) trivial <| cp (oAs tm) (s1 rfl) <| cp (oAs tm) (s1 rfl) <| .nil) (by kernel_rfl) (by kernel_rfl) ?_
          refine pSeq ?_
          refine wNil (kI .i64) 3 9006 6 rfl rfl ?_
          refine wFrzR (n := 0) (id := 9006) [6] rfl rfl ⟨rfl, trivial⟩ ?_
          refine wRet ?_
          refine pThenR ?_
          obtain rfl := so h
          exact pRn (.inl rfl) rfl rfl (.tmp rfl <| .tmp rfl <| .tmp rfl <| .nil)

end Go.Proofs.Ythpmbokenhpakaa.LF
