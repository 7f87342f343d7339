import Derived.Test.YtjkijjhjffodcaaDoorShelf
import Derived.Test.YtjkijjhjffodcaaDoorBld
import Derived.Test.YtjkijjhjffodcaaDoorDTN
import Derived.Test.YtjkijjhjffodcaaDoorProg
set_option linter.unusedVariables false
set_option maxRecDepth 10000
set_option maxHeartbeats 2000000
namespace Go.Proofs.YtjkijjhjffodcaaDoor.TN
open Go Go.Proofs.YtjkijjhjffodcaaDoor.Ab

theorem hm : Tryd.prog.follows .mixedOrders = true := by kernel_rfl
theorem ze24 : zeroIs Tryd.prog 24 [(.slice none 0 0)] := by unfold zeroIs; kernel_rfl
theorem o24_0 : fofs Tryd.prog 24 0 = some 0 := by kernel_rfl
theorem t22 : tinf Tryd.prog 22 = some (false, 1) := by kernel_rfl
theorem u22 : Tryd.prog.underlying 22 = some (.slice 87) := by kernel_rfl
theorem z87 : sizeIs Tryd.prog 87 3 := by unfold sizeIs; kernel_rfl
theorem t87 : tinf Tryd.prog 87 = some (true, 3) := by kernel_rfl
theorem zL : ∀ {α : Type} {d : Kd α} (H : FH), (kL d).reps H [.slice none 0 0] [] := fun _ => ⟨none, 0, rfl, Nat.le_refl _, by omega, by simp [big], .inl rfl⟩
theorem ze87 : zeroIs Tryd.prog 87 [(.slice none 0 0), (.slice none 0 0), (.slice none 0 0)] := by unfold zeroIs; kernel_rfl
theorem o87_0 : fofs Tryd.prog 87 0 = some 0 := by kernel_rfl
theorem t85 : tinf Tryd.prog 85 = some (false, 1) := by kernel_rfl
theorem u85 : Tryd.prog.underlying 85 = some (.slice 3) := by kernel_rfl
theorem z3 : sizeIs Tryd.prog 3 1 := by unfold sizeIs; kernel_rfl
theorem o87_1 : fofs Tryd.prog 87 1 = some 1 := by kernel_rfl
theorem o87_2 : fofs Tryd.prog 87 2 = some 2 := by kernel_rfl
theorem pl87 : places Tryd.prog 87 = some [(0, 1), (1, 1), (2, 1)] := by kernel_rfl
theorem po87 : ∀ q f, f_api_Row[q]? = some f → ([(0, 1), (1, 1), (2, 1)] : List (Nat × Nat))[q]? = some (offF f_api_Row q, f.d.sz) := fun q f h => by
  unfold f_api_Row at h
  match q, h with
  | 0, h => cases h; rfl
  | 1, h => cases h; rfl
  | 2, h => cases h; rfl
  | n + 3, h => simp at h
theorem el22 : ElTy Tryd.prog 22 87 3 72 := ⟨by kernel_rfl, by kernel_rfl⟩
theorem z22 : sizeIs Tryd.prog 22 1 := by unfold sizeIs; kernel_rfl
theorem t24 : tinf Tryd.prog 24 = some (true, 1) := by kernel_rfl
theorem z24 : sizeIs Tryd.prog 24 1 := by unfold sizeIs; kernel_rfl
theorem gm0 : GlobIs kS 0 gl0 := globS (.head _) (by kernel_rfl)
theorem u110 : Tryd.prog.underlying 110 = some (.array 13 9) := by kernel_rfl
theorem z9 : sizeIs Tryd.prog 9 1 := by unfold sizeIs; kernel_rfl
theorem t9 : tinf Tryd.prog 9 = some (false, 1) := by kernel_rfl
theorem gm1 : GlobIs (kI .i64) 1 gl1 := globI (.tail _ (.head _)) (by kernel_rfl)
theorem u115 : Tryd.prog.underlying 115 = some (.array 13 3) := by kernel_rfl
theorem t3 : tinf Tryd.prog 3 = some (false, 1) := by kernel_rfl
theorem el85 : ElTy Tryd.prog 85 3 1 8 := ⟨by kernel_rfl, by kernel_rfl⟩
theorem pl24 : places Tryd.prog 24 = some [(0, 1)] := by kernel_rfl
theorem po24 : ∀ q f, f_api_Table[q]? = some f → ([(0, 1)] : List (Nat × Nat))[q]? = some (offF f_api_Table q, f.d.sz) := fun q f h => by
  unfold f_api_Table at h
  match q, h with
  | 0, h => cases h; rfl
  | n + 1, h => simp at h
theorem el103 : ElTy Tryd.prog 103 5 1 1 := ⟨by kernel_rfl, by kernel_rfl⟩
theorem u103 : Tryd.prog.underlying 103 = some (.slice 5) := by kernel_rfl
theorem z5 : sizeIs Tryd.prog 5 1 := by unfold sizeIs; kernel_rfl
theorem t5 : tinf Tryd.prog 5 = some (false, 1) := by kernel_rfl
theorem u9 : Tryd.prog.underlying 9 = some (.string) := by kernel_rfl
theorem b162 : bodied Tryd.prog 162 := by unfold bodied; kernel_rfl
theorem b163 : bodied Tryd.prog 163 := by unfold bodied; kernel_rfl
theorem b164 : bodied Tryd.prog 164 := by unfold bodied; kernel_rfl
theorem zI_i64 : ∀ H, (kI .i64).reps H [.int .i64 0] 0 := fun _ => ⟨rfl, by decide⟩
theorem ze119 : zeroIs Tryd.prog 119 [(.slice none 0 0), (.int .i64 0), (.int .i64 0)] := by unfold zeroIs; kernel_rfl
theorem pl119 : places Tryd.prog 119 = some [(0, 1), (1, 1), (2, 1)] := by kernel_rfl
theorem po119 : ∀ q f, f_reticentref03_R[q]? = some f → ([(0, 1), (1, 1), (2, 1)] : List (Nat × Nat))[q]? = some (offF f_reticentref03_R q, f.d.sz) := fun q f h => by
  unfold f_reticentref03_R at h
  match q, h with
  | 0, h => cases h; rfl
  | 1, h => cases h; rfl
  | 2, h => cases h; rfl
  | n + 3, h => simp at h
theorem z119 : sizeIs Tryd.prog 119 3 := by unfold sizeIs; kernel_rfl
theorem t119 : tinf Tryd.prog 119 = some (true, 3) := by kernel_rfl
theorem el71 : ElTy Tryd.prog 71 123 3 32 := ⟨by kernel_rfl, by kernel_rfl⟩
theorem b105 : bodied Tryd.prog 105 := by unfold bodied; kernel_rfl
theorem b106 : bodied Tryd.prog 106 := by unfold bodied; kernel_rfl
theorem pl123 : places Tryd.prog 123 = some [(0, 1), (1, 1), (2, 1)] := by kernel_rfl
theorem po123 : ∀ q f, f_api_Tok[q]? = some f → ([(0, 1), (1, 1), (2, 1)] : List (Nat × Nat))[q]? = some (offF f_api_Tok q, f.d.sz) := fun q f h => by
  unfold f_api_Tok at h
  match q, h with
  | 0, h => cases h; rfl
  | 1, h => cases h; rfl
  | 2, h => cases h; rfl
  | n + 3, h => simp at h
theorem ze123 : zeroIs Tryd.prog 123 [(.int .i64 0), (.string ⟨⟨[]⟩⟩), (.int .i64 0)] := by unfold zeroIs; kernel_rfl
theorem zS : ∀ H, kS.reps H [.string ⟨⟨[]⟩⟩] [] := fun _ => ⟨rfl, by decide⟩
theorem u71 : Tryd.prog.underlying 71 = some (.slice 123) := by kernel_rfl
theorem el56 : ElTy Tryd.prog 56 9 1 16 := ⟨by kernel_rfl, by kernel_rfl⟩
theorem u56 : Tryd.prog.underlying 56 = some (.slice 9) := by kernel_rfl
theorem b24 : bodied Tryd.prog 24 := by unfold bodied; kernel_rfl
theorem ze126 : zeroIs Tryd.prog 126 [(.int .i64 0), (.slice none 0 0), (.slice none 0 0), (.slice none 0 0), (.int .i64 0)] := by unfold zeroIs; kernel_rfl
theorem o126_2 : fofs Tryd.prog 126 2 = some 4 := by kernel_rfl
theorem t26 : tinf Tryd.prog 26 = some (false, 1) := by kernel_rfl
theorem o126_0 : fofs Tryd.prog 126 0 = some 0 := by kernel_rfl
theorem z123 : sizeIs Tryd.prog 123 3 := by unfold sizeIs; kernel_rfl
theorem o123_0 : fofs Tryd.prog 123 0 = some 0 := by kernel_rfl
theorem o123_1 : fofs Tryd.prog 123 1 = some 1 := by kernel_rfl
theorem z26 : sizeIs Tryd.prog 26 1 := by unfold sizeIs; kernel_rfl
theorem t126 : tinf Tryd.prog 126 = some (true, 5) := by kernel_rfl
theorem z126 : sizeIs Tryd.prog 126 5 := by unfold sizeIs; kernel_rfl
theorem o248_0 : fofs Tryd.prog 248 0 = some 0 := by kernel_rfl
theorem t71 : tinf Tryd.prog 71 = some (false, 1) := by kernel_rfl
theorem o248_1 : fofs Tryd.prog 248 1 = some 1 := by kernel_rfl
theorem t123 : tinf Tryd.prog 123 = some (true, 3) := by kernel_rfl
theorem o248_4 : fofs Tryd.prog 248 4 = some 4 := by kernel_rfl
theorem ze248 : zeroIs Tryd.prog 248 [(.slice none 0 0), (.int .i64 0), (.slice none 0 0), (.int .i64 0), (.int .i64 0)] := by unfold zeroIs; kernel_rfl
theorem t248 : tinf Tryd.prog 248 = some (true, 5) := by kernel_rfl
theorem z248 : sizeIs Tryd.prog 248 5 := by unfold sizeIs; kernel_rfl
theorem o248_2 : fofs Tryd.prog 248 2 = some 2 := by kernel_rfl
theorem b266 : bodied Tryd.prog 266 := by unfold bodied; kernel_rfl
theorem z85 : sizeIs Tryd.prog 85 1 := by unfold sizeIs; kernel_rfl
theorem b245 : bodied Tryd.prog 245 := by unfold bodied; kernel_rfl
theorem b246 : bodied Tryd.prog 246 := by unfold bodied; kernel_rfl
theorem pl248 : places Tryd.prog 248 = some [(0, 1), (1, 1), (2, 1), (3, 1), (4, 1)] := by kernel_rfl
theorem po248 : ∀ q f, f_reticentref04_P[q]? = some f → ([(0, 1), (1, 1), (2, 1), (3, 1), (4, 1)] : List (Nat × Nat))[q]? = some (offF f_reticentref04_P q, f.d.sz) := fun q f h => by
  unfold f_reticentref04_P at h
  match q, h with
  | 0, h => cases h; rfl
  | 1, h => cases h; rfl
  | 2, h => cases h; rfl
  | 3, h => cases h; rfl
  | 4, h => cases h; rfl
  | n + 5, h => simp at h
theorem b218 : bodied Tryd.prog 218 := by unfold bodied; kernel_rfl
theorem b247 : bodied Tryd.prog 247 := by unfold bodied; kernel_rfl
theorem o248_3 : fofs Tryd.prog 248 3 = some 3 := by kernel_rfl
theorem b275 : bodied Tryd.prog 275 := by unfold bodied; kernel_rfl
theorem b274 : bodied Tryd.prog 274 := by unfold bodied; kernel_rfl
theorem b264 : bodied Tryd.prog 264 := by unfold bodied; kernel_rfl
theorem b265 : bodied Tryd.prog 265 := by unfold bodied; kernel_rfl
theorem b244 : bodied Tryd.prog 244 := by unfold bodied; kernel_rfl
theorem b165 : bodied Tryd.prog 165 := by unfold bodied; kernel_rfl
theorem o126_1 : fofs Tryd.prog 126 1 = some 1 := by kernel_rfl
theorem b107 : bodied Tryd.prog 107 := by unfold bodied; kernel_rfl
theorem zR_api_Row : ∀ H, (kR f_api_Row).reps H [(.slice none 0 0), (.slice none 0 0), (.slice none 0 0)] (⟨[], [], []⟩ : api_Row) := fun H => ⟨[(.slice none 0 0)], _, rfl, zL H, ⟨[(.slice none 0 0)], _, rfl, zL H, ⟨[(.slice none 0 0)], _, rfl, zL H, rfl⟩⟩⟩
theorem pl126 : places Tryd.prog 126 = some [(0, 1), (1, 3), (4, 1)] := by kernel_rfl
theorem po126 : ∀ q f, f_reticentref06_P[q]? = some f → ([(0, 1), (1, 3), (4, 1)] : List (Nat × Nat))[q]? = some (offF f_reticentref06_P q, f.d.sz) := fun q f h => by
  unfold f_reticentref06_P at h
  match q, h with
  | 0, h => cases h; rfl
  | 1, h => cases h; rfl
  | 2, h => cases h; rfl
  | n + 3, h => simp at h
theorem b108 : bodied Tryd.prog 108 := by unfold bodied; kernel_rfl
theorem b168 : bodied Tryd.prog 168 := by unfold bodied; kernel_rfl
theorem b113 : bodied Tryd.prog 113 := by unfold bodied; kernel_rfl
theorem b25 : bodied Tryd.prog 25 := by unfold bodied; kernel_rfl
theorem b156 : bodied Tryd.prog 156 := by unfold bodied; kernel_rfl
theorem b100 : bodied Tryd.prog 100 := by unfold bodied; kernel_rfl
theorem b101 : bodied Tryd.prog 101 := by unfold bodied; kernel_rfl
theorem ze41 : zeroIs Tryd.prog 41 [(.slice none 0 0), (.int .i64 0), (.int .i64 0)] := by unfold zeroIs; kernel_rfl
theorem b63 : bodied Tryd.prog 63 := by unfold bodied; kernel_rfl
theorem o119_2 : fofs Tryd.prog 119 2 = some 2 := by kernel_rfl
theorem o119_0 : fofs Tryd.prog 119 0 = some 0 := by kernel_rfl
theorem el121 : ElTy Tryd.prog 121 4 1 1 := ⟨by kernel_rfl, by kernel_rfl⟩
theorem b64 : bodied Tryd.prog 64 := by unfold bodied; kernel_rfl
theorem u121 : Tryd.prog.underlying 121 = some (.slice 4) := by kernel_rfl
theorem z4 : sizeIs Tryd.prog 4 1 := by unfold sizeIs; kernel_rfl
theorem t4 : tinf Tryd.prog 4 = some (false, 1) := by kernel_rfl
theorem o123_2 : fofs Tryd.prog 123 2 = some 2 := by kernel_rfl
theorem zR_api_Table : ∀ H, (kR f_api_Table).reps H [(.slice none 0 0)] (⟨[]⟩ : api_Table) := fun H => ⟨[(.slice none 0 0)], _, rfl, zL H, rfl⟩
theorem pl41 : places Tryd.prog 41 = some [(0, 1), (1, 1), (2, 1)] := by kernel_rfl
theorem po41 : ∀ q f, f_reticentref06_R[q]? = some f → ([(0, 1), (1, 1), (2, 1)] : List (Nat × Nat))[q]? = some (offF f_reticentref06_R q, f.d.sz) := fun q f h => by
  unfold f_reticentref06_R at h
  match q, h with
  | 0, h => cases h; rfl
  | 1, h => cases h; rfl
  | 2, h => cases h; rfl
  | n + 3, h => simp at h
theorem z41 : sizeIs Tryd.prog 41 3 := by unfold sizeIs; kernel_rfl
theorem b65 : bodied Tryd.prog 65 := by unfold bodied; kernel_rfl
theorem b58 : bodied Tryd.prog 58 := by unfold bodied; kernel_rfl
theorem t41 : tinf Tryd.prog 41 = some (true, 3) := by kernel_rfl
theorem o119_1 : fofs Tryd.prog 119 1 = some 1 := by kernel_rfl
theorem b104 : bodied Tryd.prog 104 := by unfold bodied; kernel_rfl
theorem b62 : bodied Tryd.prog 62 := by unfold bodied; kernel_rfl
theorem b61 : bodied Tryd.prog 61 := by unfold bodied; kernel_rfl
theorem b66 : bodied Tryd.prog 66 := by unfold bodied; kernel_rfl
theorem ze290 : zeroIs Tryd.prog 290 [(.slice none 0 0)] := by unfold zeroIs; kernel_rfl
theorem t290 : tinf Tryd.prog 290 = some (false, 1) := by kernel_rfl
theorem u290 : Tryd.prog.underlying 290 = some (.slice 237) := by kernel_rfl
theorem z237 : sizeIs Tryd.prog 237 1 := by unfold sizeIs; kernel_rfl
theorem t237 : tinf Tryd.prog 237 = some (false, 1) := by kernel_rfl
theorem u237 : Tryd.prog.underlying 237 = some (.bool) := by kernel_rfl
theorem z290 : sizeIs Tryd.prog 290 1 := by unfold sizeIs; kernel_rfl
theorem el290 : ElTy Tryd.prog 290 237 1 1 := ⟨by kernel_rfl, by kernel_rfl⟩
theorem b214 : bodied Tryd.prog 214 := by unfold bodied; kernel_rfl
theorem b153 : bodied Tryd.prog 153 := by unfold bodied; kernel_rfl
theorem u4 : Tryd.prog.underlying 4 = some (.bool) := by kernel_rfl
theorem b93 : bodied Tryd.prog 93 := by unfold bodied; kernel_rfl
theorem b154 : bodied Tryd.prog 154 := by unfold bodied; kernel_rfl
theorem b94 : bodied Tryd.prog 94 := by unfold bodied; kernel_rfl
theorem b53 : bodied Tryd.prog 53 := by unfold bodied; kernel_rfl
theorem b54 : bodied Tryd.prog 54 := by unfold bodied; kernel_rfl
theorem o105_0 : fofs Tryd.prog 105 0 = some 0 := by kernel_rfl
theorem t102 : tinf Tryd.prog 102 = some (false, 1) := by kernel_rfl
theorem o105_1 : fofs Tryd.prog 105 1 = some 1 := by kernel_rfl
theorem t103 : tinf Tryd.prog 103 = some (false, 1) := by kernel_rfl
theorem zb5 : (Tryd.prog.info? 5).bind (·.zero) = some (.int .u8 0) := by kernel_rfl
theorem z103 : sizeIs Tryd.prog 103 1 := by unfold sizeIs; kernel_rfl
theorem o171_0 : fofs Tryd.prog 171 0 = some 0 := by kernel_rfl
theorem t169 : tinf Tryd.prog 169 = some (false, 1) := by kernel_rfl
theorem t176 : tinf Tryd.prog 176 = some (true, 3) := by kernel_rfl
theorem el169 : ElTy Tryd.prog 169 176 3 32 := ⟨by kernel_rfl, by kernel_rfl⟩
theorem z169 : sizeIs Tryd.prog 169 1 := by unfold sizeIs; kernel_rfl
theorem ze176 : zeroIs Tryd.prog 176 [(.string ⟨⟨[]⟩⟩), (.int .i64 0), (.int .i64 0)] := by unfold zeroIs; kernel_rfl
theorem u169 : Tryd.prog.underlying 169 = some (.slice 176) := by kernel_rfl
theorem z176 : sizeIs Tryd.prog 176 3 := by unfold sizeIs; kernel_rfl
theorem o176_1 : fofs Tryd.prog 176 1 = some 1 := by kernel_rfl
theorem o176_0 : fofs Tryd.prog 176 0 = some 0 := by kernel_rfl
theorem o176_2 : fofs Tryd.prog 176 2 = some 2 := by kernel_rfl
theorem pl176 : places Tryd.prog 176 = some [(0, 1), (1, 1), (2, 1)] := by kernel_rfl
theorem po176 : ∀ q f, f_show_piece[q]? = some f → ([(0, 1), (1, 1), (2, 1)] : List (Nat × Nat))[q]? = some (offF f_show_piece q, f.d.sz) := fun q f h => by
  unfold f_show_piece at h
  match q, h with
  | 0, h => cases h; rfl
  | 1, h => cases h; rfl
  | 2, h => cases h; rfl
  | n + 3, h => simp at h
theorem ze171 : zeroIs Tryd.prog 171 [(.slice none 0 0)] := by unfold zeroIs; kernel_rfl
theorem b96 : bodied Tryd.prog 96 := by unfold bodied; kernel_rfl
theorem b97 : bodied Tryd.prog 97 := by unfold bodied; kernel_rfl
theorem b98 : bodied Tryd.prog 98 := by unfold bodied; kernel_rfl
theorem b99 : bodied Tryd.prog 99 := by unfold bodied; kernel_rfl
theorem b12 : bodied Tryd.prog 12 := by unfold bodied; kernel_rfl
theorem ze105 : zeroIs Tryd.prog 105 [(.pointer none), (.slice none 0 0)] := by unfold zeroIs; kernel_rfl
theorem b55 : bodied Tryd.prog 55 := by unfold bodied; kernel_rfl
theorem el111 : ElTy Tryd.prog 111 85 1 24 := ⟨by kernel_rfl, by kernel_rfl⟩
theorem u111 : Tryd.prog.underlying 111 = some (.slice 85) := by kernel_rfl
theorem b56 : bodied Tryd.prog 56 := by unfold bodied; kernel_rfl
theorem b20 : bodied Tryd.prog 20 := by unfold bodied; kernel_rfl
theorem b13 : bodied Tryd.prog 13 := by unfold bodied; kernel_rfl
theorem b59 : bodied Tryd.prog 59 := by unfold bodied; kernel_rfl
theorem b11 : bodied Tryd.prog 11 := by unfold bodied; kernel_rfl
theorem b17 : bodied Tryd.prog 17 := by unfold bodied; kernel_rfl
theorem b18 : bodied Tryd.prog 18 := by unfold bodied; kernel_rfl
theorem b22 : bodied Tryd.prog 22 := by unfold bodied; kernel_rfl
theorem b21 : bodied Tryd.prog 21 := by unfold bodied; kernel_rfl
theorem ff41_0 : ffld Tryd.prog 41 0 = some (0, 24) := by kernel_rfl
theorem b19 : bodied Tryd.prog 19 := by unfold bodied; kernel_rfl
theorem b23 : bodied Tryd.prog 23 := by unfold bodied; kernel_rfl
theorem b15 : bodied Tryd.prog 15 := by unfold bodied; kernel_rfl

theorem reticentlaw06_few.ok {a0 : api_Table} {r : api_Table} (h : reticentlaw06_few.f a0 = some r) : FnA Tryd.prog 11 [(kR f_api_Table).sig a0] ((kR f_api_Table).sig r) := by
  refine fnIntro Tryd.func11 rfl (by kernel_rfl) fun H0 w0 => ?_
  unfold reticentlaw06_few.f at h
  refine wSeq ?_
  refine rg (cp (oBox tm) (s1 rfl) <| cw (oAlloc (id := 2) (ls := [.d (kN api_Row) []]) ze24 (fun g => ⟨[(.slice none 0 0)], _, rfl, zN g.H, rfl⟩)) trivial <| .nil) (by kernel_rfl) ?_
  refine pSeq ?_
  refine wSeq ?_
  refine rg (cw (oAlloc (id := 3) (ls := [.d (kN api_Row) []]) ze24 (fun g => ⟨[(.slice none 0 0)], _, rfl, zN g.H, rfl⟩)) trivial <| .nil) (by kernel_rfl) ?_
  refine pSeq ?_
  refine wSeq ?_
  refine wSeq ?_
  obtain ⟨hc1, h⟩ := ib h
  refine rg (cp (oFld (fs := f_api_Table) (k := 0) rfl o24_0 tm) (s1 rfl) <| cp (oLd t22 tm) (s1 rfl) <| cp (oFld (fs := f_api_Table) (k := 0) rfl o24_0 tm) (s1 rfl) <| cp (oLd t22 tm) (s1 rfl) <| cp (oLenL u22 tm) (s1 rfl) <| cp (oMin tm (cI (by decide))) (s1 rfl) <| cp (oCutHi u22 z87 hc1.1 hc1.2 tm tm) (s2 rfl rfl) <| cp (oLenL u22 tm) (s1 rfl) <| cp (oMv (cI (by decide))) trivial <| .nil) (by kernel_rfl) ?_
  refine pSeq ?_
  refine wNilL (kR f_api_Row) 87 5150 (n := 0) (k := 0) rfl rfl rfl ?_
  obtain ⟨o1, h, hk1⟩ := bd h
  refine wK1 (fun x16 => x16 = o1) (fun x16 => [(2, .p 2 0), (3, .p 3 0)]) (fun x16 => [.row 5150 87 (kR f_api_Row) x16, .box 3 24 [.v 5150], .box 2 24 [.d (kN api_Row) []]]) ?_ ?_
  · refine wBlock (wLoop ?_)
    refine lW (pc2 o1 (fun v14 v15 => [(2, .p 2 0), (3, .p 3 0), (12, .d ((kL (kR f_api_Row)).sig (lCut a0.Rows 0 (if 15 < (a0.Rows.length : Int) then 15 else (a0.Rows.length : Int))))), (13, .d ((kI .i64).sig ((lCut a0.Rows 0 (if 15 < (a0.Rows.length : Int) then 15 else (a0.Rows.length : Int))).length : Int))), (14, .d ((kI .i64).sig v15))]) (fun v14 v15 => [.row 5150 87 (kR f_api_Row) v14, .box 3 24 [.v 5150], .box 2 24 [.d (kN api_Row) []]]) (reticentlaw06_few.l0.partial_correctness a0) ?_ _ _ h) ⟨rfl, rfl, rfl, rfl, rfl, trivial⟩ rfl
    clear h
    intro f' ih v14 v15 h
    refine wSeq ?_
    refine rg (cp (oLt rfl tm tm) (s2 rfl rfl) <| .nil) (by kernel_rfl) ?_
    refine pSeq ?_
    refine wSeq ?_
    rcases ic h with ⟨hp17, h⟩ | ⟨hp17, h⟩
    · refine wCT hp17 tm (s1 rfl) ?_
      refine wSkip ?_
      refine pSeq ?_
      refine wSeq ?_
      refine wBlock ?_
      refine wSeq ?_
      obtain ⟨y18, hy18, h⟩ := bd h
      refine rg (cp (oIdx u22 z87 hy18 tm tm) (s2 rfl rfl) <| cp (oLd t87 tm) (s1 rfl) <| cw (oAlloc (id := 5) (ls := [.d (kL (kI .i64)) [], .d (kL (kI .i64)) [], .d (kL (kI .i64)) []]) ze87 (fun g => ⟨[(.slice none 0 0)], _, rfl, zL g.H, ⟨[(.slice none 0 0)], _, rfl, zL g.H, ⟨[(.slice none 0 0)], _, rfl, zL g.H, rfl⟩⟩⟩)) trivial <| cwn (oStA (n := 0) (fs := f_api_Row) rfl rfl z87 tm tm) (s2 rfl rfl) <| .nil) (by kernel_rfl) ?_
      refine pSeq ?_
      obtain ⟨hc19, h⟩ := ib h
      obtain ⟨hc20, h⟩ := ib h
      obtain ⟨hc21, h⟩ := ib h
      obtain ⟨hc22, h⟩ := ib h
      refine rgD hm (cp (oFldP o24_0 tm) (s1 rfl) <| cr (oLdN (n := 2) (k := 0) rfl rfl rfl t22 tm) (s1 rfl) <| cp (oFldP o87_0 tm) (s1 rfl) <| cr (oLdB (n := 0) (k := 0) rfl rfl rfl t85 tm) (s1 rfl) <| cp (oFldP o87_0 tm) (s1 rfl) <| cr (oLdB (n := 0) (k := 0) rfl rfl rfl t85 tm) (s1 rfl) <| cp (oLenL u85 tm) (s1 rfl) <| cp (oMin tm (cI (by decide))) (s1 rfl) <| cp (oCutHi u85 z3 hc19.1 hc19.2 tm tm) (s2 rfl rfl) <| cp (oFldP o87_1 tm) (s1 rfl) <| cr (oLdB (n := 0) (k := 1) rfl rfl rfl t85 tm) (s1 rfl) <| cp (oFldP o87_1 tm) (s1 rfl) <| cr (oLdB (n := 0) (k := 1) rfl rfl rfl t85 tm) (s1 rfl) <| cp (oLenL u85 tm) (s1 rfl) <| cp (oMin tm (cI (by decide))) (s1 rfl) <| cp (oCutHi u85 z3 hc20.1 hc20.2 tm tm) (s2 rfl rfl) <| cp (oFldP o87_2 tm) (s1 rfl) <| cr (oLdB (n := 0) (k := 2) rfl rfl rfl t85 tm) (s1 rfl) <| cp (oFldP o87_2 tm) (s1 rfl) <| cr (oLdB (n := 0) (k := 2) rfl rfl rfl t85 tm) (s1 rfl) <| cp (oLenL u85 tm) (s1 rfl) <| cp (oMin tm (cI (by decide))) (s1 rfl) <| cp (oCutHi u85 z3 hc21.1 hc21.2 tm tm) (s2 rfl rfl) <| cp (oBuild (fs := f_api_Row) (u := ⟨lCut y18.May 0 (if 45 < (y18.May.length : Int) then 45 else (y18.May.length : Int)), lCut y18.Res 0 (if 45 < (y18.Res.length : Int) then 45 else (y18.Res.length : Int)), lCut y18.Pc 0 (if 45 < (y18.Pc.length : Int) then 45 else (y18.Pc.length : Int))⟩) rfl ze87 pl87 po87 (.op (zc := [(.slice none 0 0)]) tm rfl (.op (zc := [(.slice none 0 0)]) tm rfl (.op (zc := [(.slice none 0 0)]) tm rfl .nil)))) (s3 rfl rfl rfl) <| cp (oLit (d := (kR f_api_Row)) el22 (by decide) rfl rfl rfl (e1 tm e0)) (s1 rfl) <| cw (oApp (n := 1) (id' := 43) el22 (by decide) rfl (by decide) hc22 tm tm) (s2 rfl rfl) <| cp (oFldP o24_0 tm) (s1 rfl) <| cwn (oStN (n := 2) (m := 1) (k := 0) rfl rfl rfl rfl z22 rfl tm tm) (s2 rfl rfl) <| .nil) (by kernel_rfl) (by kernel_rfl) ?_
      refine pBlkN ?_
      refine pSeq ?_
      refine rg (cp (oAdd tm (cI (by decide))) (s1 rfl) <| cp (oMv tm) (s1 rfl) <| .nil) (by kernel_rfl) ?_
      refine pDrop (.cons _ (.cons_cons _ (.cons_cons _ (.cons_cons _ .slnil)))) ?_
      refine pSub (Γ' := [(2, .p 2 0), (3, .p 3 0), (12, .d ((kL (kR f_api_Row)).sig (lCut a0.Rows 0 (if 15 < (a0.Rows.length : Int) then 15 else (a0.Rows.length : Int))))), (13, .d ((kI .i64).sig ((lCut a0.Rows 0 (if 15 < (a0.Rows.length : Int) then 15 else (a0.Rows.length : Int))).length : Int))), (14, .d ((kI .i64).sig (IntKind.i64.wrap (v15 + 1))))]) ⟨rfl, rfl, rfl, rfl, rfl, trivial⟩ ?_
      refine pRen 43 5150 rfl ?_
      exact pLoop (lW (ih _ _ h) ⟨rfl, rfl, rfl, rfl, rfl, trivial⟩ rfl)
    · refine wCF hp17 tm (s1 rfl) ?_
      refine wExit ?_
      refine pThenX ?_
      refine pThenX ?_
      refine pBlkX ?_
      exact pJ1 _ (so h) ⟨rfl, rfl, trivial⟩ rfl
  · rintro x16 rfl
    replace h := hk1
    refine pSeq ?_
    refine wSeq ?_
    refine wFrzR (n := 0) (id := 5150) [] rfl rfl trivial ?_
    refine rg (cr (oLdA (n := 0) (fs := f_api_Table) (u := ⟨x16⟩) rfl ⟨rfl, trivial⟩ t24 tm) (s1 rfl) <| cwn (oStA (n := 1) (fs := f_api_Table) rfl rfl z24 tm tm) (s2 rfl rfl) <| .nil) (by kernel_rfl) ?_
    refine pSeq ?_
    refine wRet ?_
    obtain rfl := so h
    exact pR1 (.inl rfl) rfl (.box (n := 1) (fs := f_api_Table) (u := ⟨x16⟩) rfl rfl ⟨rfl, trivial⟩ t24 <| .nil)

theorem table_Name.ok {a0 : Int} {r : Str × Int} (h : table_Name.f a0 = some r) : FnA Tryd.prog 17 [(kI .i64).sig a0] (tup [kS.sig r.1, (kI .i64).sig r.2]) := by
  refine fnIntro Tryd.func17 rfl (by kernel_rfl) fun H0 w0 => ?_
  unfold table_Name.f at h
  refine wSeq ?_
  refine rg (cp (oAs (cS (by decide))) trivial <| cp (oAs (cI (by decide))) trivial <| .nil) (by kernel_rfl) ?_
  refine pSeq ?_
  refine wSeq ?_
  obtain ⟨o1, h, hk1⟩ := bd h
  refine wJ1 (fun x2 => x2 = o1) (fun x2 => [(0, .d ((kI .i64).sig a0)), (9, .d (kB.sig x2))]) (fun x2 => []) ?_ ?_
  · rcases ic h with ⟨hp3, h⟩ | ⟨hp3, h⟩
    · refine rg (cp (oMv tm) (s1 rfl) <| cp (oLt rfl tm (cI (by decide))) (s1 rfl) <| cp (oMv tm) (s1 rfl) <| csB (decide_eq_true hp3) rfl rfl <| csB (decide_eq_true hp3) rfl rfl <| cp (oPkT (decide_eq_true hp3) tm cB) (s1 rfl) <| .nil) (by kernel_rfl) ?_
      exact pJ1 _ (so h) ⟨rfl, rfl, trivial⟩ rfl
    · refine rg (cp (oMv tm) (s1 rfl) <| cp (oLt rfl tm (cI (by decide))) (s1 rfl) <| cp (oMv tm) (s1 rfl) <| cgB (decide_eq_false hp3) rfl rfl (oMv tm) (s1 rfl) <| cgB (decide_eq_false hp3) rfl rfl (oGe rfl tm (cI (by decide))) (s1 rfl) <| cp (oPkF (decide_eq_false hp3) tm tm) (s2 rfl rfl) <| .nil) (by kernel_rfl) ?_
      exact pJ1 _ (so h) ⟨rfl, rfl, trivial⟩ rfl
  · rintro x2 rfl
    replace h := hk1
    rcases ic h with ⟨hp4, h⟩ | ⟨hp4, h⟩
    · refine wBT hp4 tm (s1 rfl) ?_
      refine wSeq ?_
      refine rg (cp (oAs (cS (by decide))) trivial <| cp (oAs (cI (by decide))) trivial <| .nil) (by kernel_rfl) ?_
      refine pSeq ?_
      refine wRet ?_
      refine pThenR ?_
      obtain rfl := so h
      exact pRn (.inl rfl) rfl rfl (.tmp rfl <| .tmp rfl <| .nil)
    · refine wBF hp4 tm (s1 rfl) ?_
      refine wSkip ?_
      refine pSeq ?_
      refine wSeq ?_
      obtain ⟨y5, hy5, h⟩ := bd h
      refine rg (cp (oMv tm) (s1 rfl) <| cp (oIdxG gm0 u110 rfl z9 hy5 tm) (s1 rfl) <| cp (oLd t9 tm) (s1 rfl) <| cp (oAs tm) (s1 rfl) <| cp (oAs (cI (by decide))) trivial <| .nil) (by kernel_rfl) ?_
      refine pSeq ?_
      refine wRet ?_
      obtain rfl := so h
      exact pRn (.inl rfl) rfl rfl (.tmp rfl <| .tmp rfl <| .nil)

theorem table_Arity.ok {a0 : Int} {r : Int × Int} (h : table_Arity.f a0 = some r) : FnA Tryd.prog 18 [(kI .i64).sig a0] (tup [(kI .i64).sig r.1, (kI .i64).sig r.2]) := by
  refine fnIntro Tryd.func18 rfl (by kernel_rfl) fun H0 w0 => ?_
  unfold table_Arity.f at h
  refine wSeq ?_
  refine rg (cp (oAs (cI (by decide))) trivial <| cp (oAs (cI (by decide))) trivial <| .nil) (by kernel_rfl) ?_
  refine pSeq ?_
  refine wSeq ?_
  obtain ⟨o1, h, hk1⟩ := bd h
  refine wJ1 (fun x2 => x2 = o1) (fun x2 => [(0, .d ((kI .i64).sig a0)), (9, .d (kB.sig x2))]) (fun x2 => []) ?_ ?_
  · rcases ic h with ⟨hp3, h⟩ | ⟨hp3, h⟩
    · refine rg (cp (oMv tm) (s1 rfl) <| cp (oLt rfl tm (cI (by decide))) (s1 rfl) <| cp (oMv tm) (s1 rfl) <| csB (decide_eq_true hp3) rfl rfl <| csB (decide_eq_true hp3) rfl rfl <| cp (oPkT (decide_eq_true hp3) tm cB) (s1 rfl) <| .nil) (by kernel_rfl) ?_
      exact pJ1 _ (so h) ⟨rfl, rfl, trivial⟩ rfl
    · refine rg (cp (oMv tm) (s1 rfl) <| cp (oLt rfl tm (cI (by decide))) (s1 rfl) <| cp (oMv tm) (s1 rfl) <| cgB (decide_eq_false hp3) rfl rfl (oMv tm) (s1 rfl) <| cgB (decide_eq_false hp3) rfl rfl (oGe rfl tm (cI (by decide))) (s1 rfl) <| cp (oPkF (decide_eq_false hp3) tm tm) (s2 rfl rfl) <| .nil) (by kernel_rfl) ?_
      exact pJ1 _ (so h) ⟨rfl, rfl, trivial⟩ rfl
  · rintro x2 rfl
    replace h := hk1
    rcases ic h with ⟨hp4, h⟩ | ⟨hp4, h⟩
    · refine wBT hp4 tm (s1 rfl) ?_
      refine wSeq ?_
      refine rg (cp (oAs (cI (by decide))) trivial <| cp (oAs (cI (by decide))) trivial <| .nil) (by kernel_rfl) ?_
      refine pSeq ?_
      refine wRet ?_
      refine pThenR ?_
      obtain rfl := so h
      exact pRn (.inl rfl) rfl rfl (.tmp rfl <| .tmp rfl <| .nil)
    · refine wBF hp4 tm (s1 rfl) ?_
      refine wSkip ?_
      refine pSeq ?_
      refine wSeq ?_
      obtain ⟨y5, hy5, h⟩ := bd h
      refine rg (cp (oMv tm) (s1 rfl) <| cp (oIdxG gm1 u115 rfl z3 hy5 tm) (s1 rfl) <| cp (oLd t3 tm) (s1 rfl) <| cp (oAs tm) (s1 rfl) <| cp (oAs (cI (by decide))) trivial <| .nil) (by kernel_rfl) ?_
      refine pSeq ?_
      refine wRet ?_
      obtain rfl := so h
      exact pRn (.inl rfl) rfl rfl (.tmp rfl <| .tmp rfl <| .nil)

theorem table_Usual.ok {r : api_Table} (h : table_Usual.f = some r) : FnA Tryd.prog 20 [] ((kR f_api_Table).sig r) := by
  refine fnIntro Tryd.func20 rfl (by kernel_rfl) fun H0 w0 => ?_
  unfold table_Usual.f at h
  refine wSeq ?_
  refine rg (cw (oAlloc (id := 0) (ls := [.d (kL (kR f_api_Row)) []]) ze24 (fun g => ⟨[(.slice none 0 0)], _, rfl, zL g.H, rfl⟩)) trivial <| .nil) (by kernel_rfl) ?_
  refine pSeq ?_
  refine wSeq ?_
  refine rg (cp (oLit (d := (kI .i64)) el85 (by decide) rfl rfl rfl (e1 (cI (by decide)) e0)) trivial <| cp (oLit (d := (kI .i64)) el85 (by decide) rfl rfl rfl (e1 (cI (by decide)) e0)) trivial <| cp (oLit (d := (kI .i64)) el85 (by decide) rfl rfl rfl (e1 (cI (by decide)) e0)) trivial <| cp (oAs tm) (s1 rfl) <| cp (oAs tm) (s1 rfl) <| cp (oAs tm) (s1 rfl) <| .nil) (by kernel_rfl) ?_
  refine pSeq ?_
  refine wSeq ?_
  refine rg (cp (oLit (d := (kI .i64)) el85 (by decide) rfl rfl rfl (e1 (cI (by decide)) (e1 (cI (by decide)) (e1 (cI (by decide)) e0)))) trivial <| cp (oAs tm) (s1 rfl) <| .nil) (by kernel_rfl) ?_
  refine pSeq ?_
  refine wSeq ?_
  refine rg (cp (oLit (d := (kI .i64)) el85 (by decide) rfl rfl rfl (e1 (cI (by decide)) (e1 (cI (by decide)) (e1 (cI (by decide)) e0)))) trivial <| cp (oAs tm) (s1 rfl) <| .nil) (by kernel_rfl) ?_
  refine pSeq ?_
  refine wSeq ?_
  refine rg (cp (oMv tm) (s1 rfl) <| cp (oMv tm) (s1 rfl) <| cp (oMv tm) (s1 rfl) <| cp (oBuild (fs := f_api_Row) (u := ⟨([1] : List Int), ([6] : List Int), ([8] : List Int)⟩) rfl ze87 pl87 po87 (.op (zc := [(.slice none 0 0)]) tm rfl (.op (zc := [(.slice none 0 0)]) tm rfl (.op (zc := [(.slice none 0 0)]) tm rfl .nil)))) (s3 rfl rfl rfl) <| cw (oAlloc (id := 6) (ls := [.d (kL (kI .i64)) [], .d (kL (kI .i64)) [], .d (kL (kI .i64)) []]) ze87 (fun g => ⟨[(.slice none 0 0)], _, rfl, zL g.H, ⟨[(.slice none 0 0)], _, rfl, zL g.H, ⟨[(.slice none 0 0)], _, rfl, zL g.H, rfl⟩⟩⟩)) trivial <| cwn (oStA (n := 0) (fs := f_api_Row) rfl rfl z87 tm tm) (s2 rfl rfl) <| .nil) (by kernel_rfl) ?_
  refine pSeq ?_
  refine wSeq ?_
  refine rg (cp (oMv tm) (s1 rfl) <| cp (oMv tm) (s1 rfl) <| cp (oMv tm) (s1 rfl) <| cp (oBuild (fs := f_api_Row) (u := ⟨([1] : List Int), ([9, 10, 12] : List Int), ([8] : List Int)⟩) rfl ze87 pl87 po87 (.op (zc := [(.slice none 0 0)]) tm rfl (.op (zc := [(.slice none 0 0)]) tm rfl (.op (zc := [(.slice none 0 0)]) tm rfl .nil)))) (s3 rfl rfl rfl) <| cw (oAlloc (id := 7) (ls := [.d (kL (kI .i64)) [], .d (kL (kI .i64)) [], .d (kL (kI .i64)) []]) ze87 (fun g => ⟨[(.slice none 0 0)], _, rfl, zL g.H, ⟨[(.slice none 0 0)], _, rfl, zL g.H, ⟨[(.slice none 0 0)], _, rfl, zL g.H, rfl⟩⟩⟩)) trivial <| cwn (oStA (n := 0) (fs := f_api_Row) rfl rfl z87 tm tm) (s2 rfl rfl) <| .nil) (by kernel_rfl) ?_
  refine pSeq ?_
  refine wSeq ?_
  refine rg (cp (oMv tm) (s1 rfl) <| cp (oMv tm) (s1 rfl) <| cp (oMv tm) (s1 rfl) <| cp (oBuild (fs := f_api_Row) (u := ⟨([1] : List Int), ([6] : List Int), ([9, 8, 12] : List Int)⟩) rfl ze87 pl87 po87 (.op (zc := [(.slice none 0 0)]) tm rfl (.op (zc := [(.slice none 0 0)]) tm rfl (.op (zc := [(.slice none 0 0)]) tm rfl .nil)))) (s3 rfl rfl rfl) <| cw (oAlloc (id := 8) (ls := [.d (kL (kI .i64)) [], .d (kL (kI .i64)) [], .d (kL (kI .i64)) []]) ze87 (fun g => ⟨[(.slice none 0 0)], _, rfl, zL g.H, ⟨[(.slice none 0 0)], _, rfl, zL g.H, ⟨[(.slice none 0 0)], _, rfl, zL g.H, rfl⟩⟩⟩)) trivial <| cwn (oStA (n := 0) (fs := f_api_Row) rfl rfl z87 tm tm) (s2 rfl rfl) <| .nil) (by kernel_rfl) ?_
  refine pSeq ?_
  refine wSeq ?_
  refine rg (cr (oLdA (n := 2) (fs := f_api_Row) (u := ⟨([1] : List Int), ([6] : List Int), ([8] : List Int)⟩) rfl ⟨rfl, rfl, rfl, trivial⟩ t87 tm) (s1 rfl) <| cp (oMv tm) (s1 rfl) <| cp (oLit (d := (kI .i64)) el85 (by decide) rfl rfl rfl (e1 (cI (by decide)) e0)) trivial <| cp (oMv tm) (s1 rfl) <| cp (oBuild (fs := f_api_Row) (u := ⟨([1] : List Int), ([9] : List Int), ([8] : List Int)⟩) rfl ze87 pl87 po87 (.op (zc := [(.slice none 0 0)]) tm rfl (.op (zc := [(.slice none 0 0)]) tm rfl (.op (zc := [(.slice none 0 0)]) tm rfl .nil)))) (s3 rfl rfl rfl) <| cr (oLdA (n := 2) (fs := f_api_Row) (u := ⟨([1] : List Int), ([6] : List Int), ([8] : List Int)⟩) rfl ⟨rfl, rfl, rfl, trivial⟩ t87 tm) (s1 rfl) <| cr (oLdA (n := 1) (fs := f_api_Row) (u := ⟨([1] : List Int), ([9, 10, 12] : List Int), ([8] : List Int)⟩) rfl ⟨rfl, rfl, rfl, trivial⟩ t87 tm) (s1 rfl) <| cr (oLdA (n := 1) (fs := f_api_Row) (u := ⟨([1] : List Int), ([9, 10, 12] : List Int), ([8] : List Int)⟩) rfl ⟨rfl, rfl, rfl, trivial⟩ t87 tm) (s1 rfl) <| cr (oLdA (n := 1) (fs := f_api_Row) (u := ⟨([1] : List Int), ([9, 10, 12] : List Int), ([8] : List Int)⟩) rfl ⟨rfl, rfl, rfl, trivial⟩ t87 tm) (s1 rfl) <| cp (oLit (d := (kI .i64)) el85 (by decide) rfl rfl rfl (e1 (cI (by decide)) (e1 (cI (by decide)) (e1 (cI (by decide)) (e1 (cI (by decide)) (e1 (cI (by decide)) e0)))))) trivial <| cp (oLit (d := (kI .i64)) el85 (by decide) rfl rfl rfl (e1 (cI (by decide)) (e1 (cI (by decide)) (e1 (cI (by decide)) (e1 (cI (by decide)) (e1 (cI (by decide)) e0)))))) trivial <| cp (oMv tm) (s1 rfl) <| cp (oBuild (fs := f_api_Row) (u := ⟨([9, 8, 12, 11, 5] : List Int), ([9, 10, 12, 8, 12] : List Int), ([8] : List Int)⟩) rfl ze87 pl87 po87 (.op (zc := [(.slice none 0 0)]) tm rfl (.op (zc := [(.slice none 0 0)]) tm rfl (.op (zc := [(.slice none 0 0)]) tm rfl .nil)))) (s3 rfl rfl rfl) <| cr (oLdA (n := 0) (fs := f_api_Row) (u := ⟨([1] : List Int), ([6] : List Int), ([9, 8, 12] : List Int)⟩) rfl ⟨rfl, rfl, rfl, trivial⟩ t87 tm) (s1 rfl) <| cr (oLdA (n := 0) (fs := f_api_Row) (u := ⟨([1] : List Int), ([6] : List Int), ([9, 8, 12] : List Int)⟩) rfl ⟨rfl, rfl, rfl, trivial⟩ t87 tm) (s1 rfl) <| cr (oLdA (n := 0) (fs := f_api_Row) (u := ⟨([1] : List Int), ([6] : List Int), ([9, 8, 12] : List Int)⟩) rfl ⟨rfl, rfl, rfl, trivial⟩ t87 tm) (s1 rfl) <| cp (oMv tm) (s1 rfl) <| cp (oMv tm) (s1 rfl) <| cp (oLit (d := (kI .i64)) el85 (by decide) rfl rfl rfl (e1 (cI (by decide)) e0)) trivial <| cp (oBuild (fs := f_api_Row) (u := ⟨([1] : List Int), ([9, 8, 12] : List Int), ([10] : List Int)⟩) rfl ze87 pl87 po87 (.op (zc := [(.slice none 0 0)]) tm rfl (.op (zc := [(.slice none 0 0)]) tm rfl (.op (zc := [(.slice none 0 0)]) tm rfl .nil)))) (s3 rfl rfl rfl) <| cp (oMv tm) (s1 rfl) <| cp (oMv tm) (s1 rfl) <| cp (oMv tm) (s1 rfl) <| cp (oBuild (fs := f_api_Row) (u := ⟨([1] : List Int), ([9, 8, 12] : List Int), ([8] : List Int)⟩) rfl ze87 pl87 po87 (.op (zc := [(.slice none 0 0)]) tm rfl (.op (zc := [(.slice none 0 0)]) tm rfl (.op (zc := [(.slice none 0 0)]) tm rfl .nil)))) (s3 rfl rfl rfl) <| cr (oLdA (n := 2) (fs := f_api_Row) (u := ⟨([1] : List Int), ([6] : List Int), ([8] : List Int)⟩) rfl ⟨rfl, rfl, rfl, trivial⟩ t87 tm) (s1 rfl) <| cp (oLit (d := (kR f_api_Row)) el22 (by decide) rfl rfl rfl (e1 tm (e1 tm (e1 tm (e1 tm (e1 tm (e1 tm (e1 tm (e1 tm (e1 tm (e1 tm (e1 tm (e1 tm (e1 tm e0)))))))))))))) ⟨rfl, rfl, rfl, rfl, rfl, rfl, rfl, rfl, rfl, rfl, rfl, rfl, rfl, trivial⟩ <| cp (oBuild (fs := f_api_Table) (u := ⟨([(⟨([1] : List Int), ([6] : List Int), ([8] : List Int)⟩ : api_Row), (⟨([1] : List Int), ([9] : List Int), ([8] : List Int)⟩ : api_Row), (⟨([1] : List Int), ([6] : List Int), ([8] : List Int)⟩ : api_Row), (⟨([1] : List Int), ([9, 10, 12] : List Int), ([8] : List Int)⟩ : api_Row), (⟨([1] : List Int), ([9, 10, 12] : List Int), ([8] : List Int)⟩ : api_Row), (⟨([1] : List Int), ([9, 10, 12] : List Int), ([8] : List Int)⟩ : api_Row), (⟨([9, 8, 12, 11, 5] : List Int), ([9, 10, 12, 8, 12] : List Int), ([8] : List Int)⟩ : api_Row), (⟨([1] : List Int), ([6] : List Int), ([9, 8, 12] : List Int)⟩ : api_Row), (⟨([1] : List Int), ([6] : List Int), ([9, 8, 12] : List Int)⟩ : api_Row), (⟨([1] : List Int), ([6] : List Int), ([9, 8, 12] : List Int)⟩ : api_Row), (⟨([1] : List Int), ([9, 8, 12] : List Int), ([10] : List Int)⟩ : api_Row), (⟨([1] : List Int), ([9, 8, 12] : List Int), ([8] : List Int)⟩ : api_Row), (⟨([1] : List Int), ([6] : List Int), ([8] : List Int)⟩ : api_Row)] : List api_Row)⟩) rfl ze24 pl24 po24 (.op (zc := [(.slice none 0 0)]) tm rfl .nil)) (s1 rfl) <| cwn (oStA (n := 3) (fs := f_api_Table) rfl rfl z24 tm tm) (s2 rfl rfl) <| .nil) (by kernel_rfl) ?_
  refine pSeq ?_
  refine wRet ?_
  obtain rfl := so h
  exact pR1 (.inl rfl) rfl (.box (n := 3) (fs := f_api_Table) (u := ⟨([(⟨([1] : List Int), ([6] : List Int), ([8] : List Int)⟩ : api_Row), (⟨([1] : List Int), ([9] : List Int), ([8] : List Int)⟩ : api_Row), (⟨([1] : List Int), ([6] : List Int), ([8] : List Int)⟩ : api_Row), (⟨([1] : List Int), ([9, 10, 12] : List Int), ([8] : List Int)⟩ : api_Row), (⟨([1] : List Int), ([9, 10, 12] : List Int), ([8] : List Int)⟩ : api_Row), (⟨([1] : List Int), ([9, 10, 12] : List Int), ([8] : List Int)⟩ : api_Row), (⟨([9, 8, 12, 11, 5] : List Int), ([9, 10, 12, 8, 12] : List Int), ([8] : List Int)⟩ : api_Row), (⟨([1] : List Int), ([6] : List Int), ([9, 8, 12] : List Int)⟩ : api_Row), (⟨([1] : List Int), ([6] : List Int), ([9, 8, 12] : List Int)⟩ : api_Row), (⟨([1] : List Int), ([6] : List Int), ([9, 8, 12] : List Int)⟩ : api_Row), (⟨([1] : List Int), ([9, 8, 12] : List Int), ([10] : List Int)⟩ : api_Row), (⟨([1] : List Int), ([9, 8, 12] : List Int), ([8] : List Int)⟩ : api_Row), (⟨([1] : List Int), ([6] : List Int), ([8] : List Int)⟩ : api_Row)] : List api_Row)⟩) rfl rfl ⟨rfl, trivial⟩ t24 <| .nil)

theorem reticentref06_Usual.ok {r : Str} (h : reticentref06_Usual.f = some r) : FnA Tryd.prog 22 [] (kS.sig r) := by
  refine fnIntro Tryd.func22 rfl (by kernel_rfl) fun H0 w0 => ?_
  unfold reticentref06_Usual.f at h
  refine wSeq ?_
  refine rg (cp (oAs (cS (by decide))) trivial <| .nil) (by kernel_rfl) ?_
  refine pSeq ?_
  refine wSeq ?_
  refine rg (cp (oAs (cS (s := ks0) (by decide))) trivial <| .nil) (by kernel_rfl) ?_
  refine pSeq ?_
  refine wRet ?_
  obtain rfl := so h
  exact pR1 (.inl rfl) rfl (.tmp rfl <| .nil)

theorem reticentref03_letter.ok {a0 : Int} {r : Bool} (h : reticentref03_letter.f a0 = some r) : FnA Tryd.prog 162 [(kI .u8).sig a0] (kB.sig r) := by
  refine fnIntro Tryd.func162 rfl (by kernel_rfl) fun H0 w0 => ?_
  unfold reticentref03_letter.f at h
  refine wSeq ?_
  refine rg (cp (oAs cB) trivial <| .nil) (by kernel_rfl) ?_
  refine pSeq ?_
  obtain ⟨o1, h, hk1⟩ := bd h
  refine wJ1 (fun x2 => x2 = o1) (fun x2 => [(2, .d (kB.sig x2))]) (fun x2 => []) ?_ ?_
  · rcases ic h with ⟨hp3, h⟩ | ⟨hp3, h⟩
    · refine rg (cp (oMv tm) (s1 rfl) <| cp (oGe rfl tm (cI (by decide))) (s1 rfl) <| cp (oMv tm) (s1 rfl) <| cgB (decide_eq_true hp3) rfl rfl (oMv tm) (s1 rfl) <| cgB (decide_eq_true hp3) rfl rfl (oLe rfl tm (cI (by decide))) (s1 rfl) <| cp (oPkT (decide_eq_true hp3) tm tm) (s2 rfl rfl) <| cp (oAs tm) (s1 rfl) <| .nil) (by kernel_rfl) ?_
      exact pJ1 _ (so h) ⟨rfl, trivial⟩ rfl
    · refine rg (cp (oMv tm) (s1 rfl) <| cp (oGe rfl tm (cI (by decide))) (s1 rfl) <| cp (oMv tm) (s1 rfl) <| csB (decide_eq_false hp3) rfl rfl <| csB (decide_eq_false hp3) rfl rfl <| cp (oPkF (decide_eq_false hp3) tm cB) (s1 rfl) <| cp (oAs tm) (s1 rfl) <| .nil) (by kernel_rfl) ?_
      exact pJ1 _ (so h) ⟨rfl, trivial⟩ rfl
  · rintro x2 rfl
    replace h := hk1
    refine wRet ?_
    obtain rfl := so h
    exact pR1 (.inl rfl) rfl (.tmp rfl <| .nil)

theorem reticentref03_digit.ok {a0 : Int} {r : Bool} (h : reticentref03_digit.f a0 = some r) : FnA Tryd.prog 163 [(kI .u8).sig a0] (kB.sig r) := by
  refine fnIntro Tryd.func163 rfl (by kernel_rfl) fun H0 w0 => ?_
  unfold reticentref03_digit.f at h
  refine wSeq ?_
  refine rg (cp (oAs cB) trivial <| .nil) (by kernel_rfl) ?_
  refine pSeq ?_
  obtain ⟨o1, h, hk1⟩ := bd h
  refine wJ1 (fun x2 => x2 = o1) (fun x2 => [(2, .d (kB.sig x2))]) (fun x2 => []) ?_ ?_
  · rcases ic h with ⟨hp3, h⟩ | ⟨hp3, h⟩
    · refine rg (cp (oMv tm) (s1 rfl) <| cp (oGe rfl tm (cI (by decide))) (s1 rfl) <| cp (oMv tm) (s1 rfl) <| cgB (decide_eq_true hp3) rfl rfl (oMv tm) (s1 rfl) <| cgB (decide_eq_true hp3) rfl rfl (oLe rfl tm (cI (by decide))) (s1 rfl) <| cp (oPkT (decide_eq_true hp3) tm tm) (s2 rfl rfl) <| cp (oAs tm) (s1 rfl) <| .nil) (by kernel_rfl) ?_
      exact pJ1 _ (so h) ⟨rfl, trivial⟩ rfl
    · refine rg (cp (oMv tm) (s1 rfl) <| cp (oGe rfl tm (cI (by decide))) (s1 rfl) <| cp (oMv tm) (s1 rfl) <| csB (decide_eq_false hp3) rfl rfl <| csB (decide_eq_false hp3) rfl rfl <| cp (oPkF (decide_eq_false hp3) tm cB) (s1 rfl) <| cp (oAs tm) (s1 rfl) <| .nil) (by kernel_rfl) ?_
      exact pJ1 _ (so h) ⟨rfl, trivial⟩ rfl
  · rintro x2 rfl
    replace h := hk1
    refine wRet ?_
    obtain rfl := so h
    exact pR1 (.inl rfl) rfl (.tmp rfl <| .nil)

theorem reticentref03_mark.ok {a0 : Int} {r : Bool} (h : reticentref03_mark.f a0 = some r) : FnA Tryd.prog 164 [(kI .u8).sig a0] (kB.sig r) := by
  refine fnIntro Tryd.func164 rfl (by kernel_rfl) fun H0 w0 => ?_
  unfold reticentref03_mark.f at h
  refine wSeq ?_
  refine rg (cp (oAs cB) trivial <| .nil) (by kernel_rfl) ?_
  refine pSeq ?_
  refine wSeq ?_
  refine wSeq ?_
  refine rg (cp (oLit (d := (kI .u8)) el103 (by decide) rfl rfl rfl (e1 (cI (by decide)) (e1 (cI (by decide)) (e1 (cI (by decide)) (e1 (cI (by decide)) (e1 (cI (by decide)) (e1 (cI (by decide)) (e1 (cI (by decide)) (e1 (cI (by decide)) (e1 (cI (by decide)) (e1 (cI (by decide)) (e1 (cI (by decide)) (e1 (cI (by decide)) e0))))))))))))) trivial <| cp (oLenL u103 tm) (s1 rfl) <| cp (oMv (cI (by decide))) trivial <| .nil) (by kernel_rfl) ?_
  refine pSeq ?_
  obtain ⟨o1, h, hk1⟩ := bd h
  refine wK0 (.inr () = o1) ([]) ([]) ?_ ?_
  · refine wBlock (wLoop ?_)
    refine lW (pc1 o1 (fun v7 => [(0, .d ((kI .u8).sig a0)), (5, .d ((kL (kI .u8)).sig ([40, 41, 91, 93, 59, 58, 44, 60, 62, 64, 45, 61] : List Int))), (6, .d ((kI .i64).sig (([40, 41, 91, 93, 59, 58, 44, 60, 62, 64, 45, 61] : List Int).length : Int))), (7, .d ((kI .i64).sig v7))]) (fun v7 => []) (reticentref03_mark.l0.partial_correctness a0) ?_ _ h) ⟨rfl, rfl, rfl, rfl, trivial⟩ rfl
    clear h
    intro f' ih v7 h
    refine wSeq ?_
    refine rg (cp (oLt rfl tm tm) (s2 rfl rfl) <| .nil) (by kernel_rfl) ?_
    refine pSeq ?_
    refine wSeq ?_
    rcases ic h with ⟨hp8, h⟩ | ⟨hp8, h⟩
    · refine wCT hp8 tm (s1 rfl) ?_
      refine wSkip ?_
      refine pSeq ?_
      refine wSeq ?_
      refine wBlock ?_
      refine wSeq ?_
      obtain ⟨y9, hy9, h⟩ := bd h
      refine rg (cp (oIdx u103 z5 hy9 tm tm) (s2 rfl rfl) <| cp (oLd t5 tm) (s1 rfl) <| cp (oAs tm) (s1 rfl) <| .nil) (by kernel_rfl) ?_
      refine pSeq ?_
      refine wSeq ?_
      refine rg (cp (oMv tm) (s1 rfl) <| cp (oMv tm) (s1 rfl) <| cp (oEq rfl tm tm) (s2 rfl rfl) <| .nil) (by kernel_rfl) ?_
      refine pSeq ?_
      rcases ic h with ⟨hp10, h⟩ | ⟨hp10, h⟩
      · refine wCT hp10 tm (s1 rfl) ?_
        refine wSeq ?_
        refine rg (cp (oAs cB) trivial <| .nil) (by kernel_rfl) ?_
        refine pSeq ?_
        refine wRet ?_
        refine pBlkR ?_
        refine pThenR ?_
        refine pThenR ?_
        refine pBlkR ?_
        refine pThenR ?_
        obtain rfl := so h
        replace h := hk1
        refine pThenR ?_
        obtain rfl := so h
        exact pR1 (.inl rfl) rfl (.tmp rfl <| .nil)
      · refine wCF hp10 tm (s1 rfl) ?_
        refine wSkip ?_
        refine pBlkN ?_
        refine pSeq ?_
        refine rg (cp (oAdd tm (cI (by decide))) (s1 rfl) <| cp (oMv tm) (s1 rfl) <| .nil) (by kernel_rfl) ?_
        exact pLoop (lW (ih _ h) ⟨rfl, rfl, rfl, rfl, trivial⟩ rfl)
    · refine wCF hp8 tm (s1 rfl) ?_
      refine wExit ?_
      refine pThenX ?_
      refine pThenX ?_
      refine pBlkX ?_
      exact pJ0 (so h) trivial rfl
  · rintro rfl
    replace h := hk1
    refine pSeq ?_
    refine wSeq ?_
    refine rg (cp (oAs cB) trivial <| .nil) (by kernel_rfl) ?_
    refine pSeq ?_
    refine wRet ?_
    obtain rfl := so h
    exact pR1 (.inl rfl) rfl (.tmp rfl <| .nil)

theorem reticentref03_end.ok {a0 : Str} {a1 : Int} {r : Int} (h : reticentref03_end.f a0 a1 = some r) : FnA Tryd.prog 105 [kS.sig a0, (kI .i64).sig a1] ((kI .i64).sig r) := by
  refine fnIntro Tryd.func105 rfl (by kernel_rfl) fun H0 w0 => ?_
  unfold reticentref03_end.f at h
  refine wSeq ?_
  refine rg (cp (oAs (cI (by decide))) trivial <| .nil) (by kernel_rfl) ?_
  refine pSeq ?_
  refine wSeq ?_
  refine rg (cp (oMv tm) (s1 rfl) <| cp (oAs tm) (s1 rfl) <| .nil) (by kernel_rfl) ?_
  refine pSeq ?_
  refine wSeq ?_
  refine wSeq ?_
  obtain ⟨hc1, h⟩ := ib h
  obtain ⟨y2, hy2, h⟩ := bd h
  refine rg (cp (oMv tm) (s1 rfl) <| cp (oMv tm) (s1 rfl) <| cp (oIdxS u9 hc1.1 hc1.2 tm tm) (s2 rfl rfl) <| cp (oCall rfl (reticentref03_letter.ok hy2) b162 (opds_cons tm opds_nil)) (s1 rfl) <| .nil) (by kernel_rfl) ?_
  refine pSeq ?_
  rcases ic h with ⟨hp3, h⟩ | ⟨hp3, h⟩
  · refine wBT hp3 tm (s1 rfl) ?_
    obtain ⟨o1, h, hk1⟩ := bd h
    refine wJ1 (fun x21 => x21 = o1) (fun x21 => [(5, .d ((kI .i64).sig x21))]) (fun x21 => []) ?_ ?_
    · refine wBlock (wLoop ?_)
      refine lW (pc1 o1 (fun v20 => [(0, .d (kS.sig a0)), (5, .d ((kI .i64).sig v20))]) (fun v20 => []) (reticentref03_end.l0.partial_correctness a0) ?_ _ h) ⟨rfl, rfl, trivial⟩ rfl
      clear h
      intro f' ih v20 h
      refine wSeq ?_
      obtain ⟨o2, h, hk2⟩ := bd h
      refine wJ1 (fun x25 => x25 = o2) (fun x25 => [(0, .d (kS.sig a0)), (5, .d ((kI .i64).sig v20)), (20, .d (kB.sig x25))]) (fun x25 => []) ?_ ?_
      · rcases ic h with ⟨hp26, h⟩ | ⟨hp26, h⟩
        · obtain ⟨hc27, h⟩ := ib h
          obtain ⟨y28, hy28, h⟩ := bd h
          refine rg (cp (oMv tm) (s1 rfl) <| cp (oMv tm) (s1 rfl) <| cp (oLenS u9 tm) (s1 rfl) <| cp (oLt rfl tm tm) (s2 rfl rfl) <| cp (oMv tm) (s1 rfl) <| cgB (decide_eq_true hp26) rfl rfl (oMv tm) (s1 rfl) <| cgB (decide_eq_true hp26) rfl rfl (oMv tm) (s1 rfl) <| cgB (decide_eq_true hp26) rfl rfl (oIdxS u9 hc27.1 hc27.2 tm tm) (s2 rfl rfl) <| cgB (decide_eq_true hp26) rfl rfl (oCall rfl (reticentref03_letter.ok hy28) b162 (opds_cons tm opds_nil)) (s1 rfl) <| cp (oPkT (decide_eq_true hp26) tm tm) (s2 rfl rfl) <| .nil) (by kernel_rfl) ?_
          exact pJ1 _ (so h) ⟨rfl, rfl, rfl, trivial⟩ rfl
        · refine rg (cp (oMv tm) (s1 rfl) <| cp (oMv tm) (s1 rfl) <| cp (oLenS u9 tm) (s1 rfl) <| cp (oLt rfl tm tm) (s2 rfl rfl) <| cp (oMv tm) (s1 rfl) <| csB (decide_eq_false hp26) rfl rfl <| csB (decide_eq_false hp26) rfl rfl <| csB (decide_eq_false hp26) rfl rfl <| csB (decide_eq_false hp26) rfl rfl <| cp (oPkF (decide_eq_false hp26) tm cB) (s1 rfl) <| .nil) (by kernel_rfl) ?_
          exact pJ1 _ (so h) ⟨rfl, rfl, rfl, trivial⟩ rfl
      · rintro x25 rfl
        replace h := hk2
        rcases ic h with ⟨hp29, h⟩ | ⟨hp29, h⟩
        · refine wBT hp29 tm (s1 rfl) ?_
          refine wSkip ?_
          refine pSeq ?_
          refine wBlock ?_
          refine rg (cp (oMv tm) (s1 rfl) <| cp (oAdd tm (cI (by decide))) (s1 rfl) <| cp (oAs tm) (s1 rfl) <| .nil) (by kernel_rfl) ?_
          refine pBlkN ?_
          exact pLoop (lW (ih _ h) ⟨rfl, rfl, trivial⟩ rfl)
        · refine wBF hp29 tm (s1 rfl) ?_
          refine wExit ?_
          refine pThenX ?_
          refine pThenX ?_
          refine pBlkX ?_
          exact pJ1 _ (so h) ⟨rfl, trivial⟩ rfl
    · rintro x21 rfl
      replace h := hk1
      refine wSeq ?_
      refine rg (cp (oMv tm) (s1 rfl) <| cp (oAs tm) (s1 rfl) <| .nil) (by kernel_rfl) ?_
      refine pSeq ?_
      refine wRet ?_
      refine pThenR ?_
      obtain rfl := so h
      exact pR1 (.inl rfl) rfl (.tmp rfl <| .nil)
  · refine wBF hp3 tm (s1 rfl) ?_
    refine wSkip ?_
    refine pSeq ?_
    refine wSeq ?_
    refine wSeq ?_
    obtain ⟨hc30, h⟩ := ib h
    obtain ⟨y31, hy31, h⟩ := bd h
    refine rg (cp (oMv tm) (s1 rfl) <| cp (oMv tm) (s1 rfl) <| cp (oIdxS u9 hc30.1 hc30.2 tm tm) (s2 rfl rfl) <| cp (oCall rfl (reticentref03_digit.ok hy31) b163 (opds_cons tm opds_nil)) (s1 rfl) <| .nil) (by kernel_rfl) ?_
    refine pSeq ?_
    rcases ic h with ⟨hp32, h⟩ | ⟨hp32, h⟩
    · refine wBT hp32 tm (s1 rfl) ?_
      obtain ⟨o1, h, hk1⟩ := bd h
      refine wJ1 (fun x50 => x50 = o1) (fun x50 => [(5, .d ((kI .i64).sig x50))]) (fun x50 => []) ?_ ?_
      · refine wBlock (wLoop ?_)
        refine lW (pc1 o1 (fun v49 => [(0, .d (kS.sig a0)), (5, .d ((kI .i64).sig v49))]) (fun v49 => []) (reticentref03_end.l1.partial_correctness a0) ?_ _ h) ⟨rfl, rfl, trivial⟩ rfl
        clear h
        intro f' ih v49 h
        refine wSeq ?_
        obtain ⟨o2, h, hk2⟩ := bd h
        refine wJ1 (fun x54 => x54 = o2) (fun x54 => [(0, .d (kS.sig a0)), (5, .d ((kI .i64).sig v49)), (37, .d (kB.sig x54))]) (fun x54 => []) ?_ ?_
        · rcases ic h with ⟨hp55, h⟩ | ⟨hp55, h⟩
          · obtain ⟨hc56, h⟩ := ib h
            obtain ⟨y57, hy57, h⟩ := bd h
            refine rg (cp (oMv tm) (s1 rfl) <| cp (oMv tm) (s1 rfl) <| cp (oLenS u9 tm) (s1 rfl) <| cp (oLt rfl tm tm) (s2 rfl rfl) <| cp (oMv tm) (s1 rfl) <| cgB (decide_eq_true hp55) rfl rfl (oMv tm) (s1 rfl) <| cgB (decide_eq_true hp55) rfl rfl (oMv tm) (s1 rfl) <| cgB (decide_eq_true hp55) rfl rfl (oIdxS u9 hc56.1 hc56.2 tm tm) (s2 rfl rfl) <| cgB (decide_eq_true hp55) rfl rfl (oCall rfl (reticentref03_digit.ok hy57) b163 (opds_cons tm opds_nil)) (s1 rfl) <| cp (oPkT (decide_eq_true hp55) tm tm) (s2 rfl rfl) <| .nil) (by kernel_rfl) ?_
            exact pJ1 _ (so h) ⟨rfl, rfl, rfl, trivial⟩ rfl
          · refine rg (cp (oMv tm) (s1 rfl) <| cp (oMv tm) (s1 rfl) <| cp (oLenS u9 tm) (s1 rfl) <| cp (oLt rfl tm tm) (s2 rfl rfl) <| cp (oMv tm) (s1 rfl) <| csB (decide_eq_false hp55) rfl rfl <| csB (decide_eq_false hp55) rfl rfl <| csB (decide_eq_false hp55) rfl rfl <| csB (decide_eq_false hp55) rfl rfl <| cp (oPkF (decide_eq_false hp55) tm cB) (s1 rfl) <| .nil) (by kernel_rfl) ?_
            exact pJ1 _ (so h) ⟨rfl, rfl, rfl, trivial⟩ rfl
        · rintro x54 rfl
          replace h := hk2
          rcases ic h with ⟨hp58, h⟩ | ⟨hp58, h⟩
          · refine wBT hp58 tm (s1 rfl) ?_
            refine wSkip ?_
            refine pSeq ?_
            refine wBlock ?_
            refine rg (cp (oMv tm) (s1 rfl) <| cp (oAdd tm (cI (by decide))) (s1 rfl) <| cp (oAs tm) (s1 rfl) <| .nil) (by kernel_rfl) ?_
            refine pBlkN ?_
            exact pLoop (lW (ih _ h) ⟨rfl, rfl, trivial⟩ rfl)
          · refine wBF hp58 tm (s1 rfl) ?_
            refine wExit ?_
            refine pThenX ?_
            refine pThenX ?_
            refine pBlkX ?_
            exact pJ1 _ (so h) ⟨rfl, trivial⟩ rfl
      · rintro x50 rfl
        replace h := hk1
        refine wSeq ?_
        refine rg (cp (oMv tm) (s1 rfl) <| cp (oAs tm) (s1 rfl) <| .nil) (by kernel_rfl) ?_
        refine pSeq ?_
        refine wRet ?_
        refine pThenR ?_
        obtain rfl := so h
        exact pR1 (.inl rfl) rfl (.tmp rfl <| .nil)
    · refine wBF hp32 tm (s1 rfl) ?_
      refine wSkip ?_
      refine pSeq ?_
      refine wSeq ?_
      obtain ⟨o1, h, hk1⟩ := bd h
      refine wJ1 (fun x63 => x63 = o1) (fun x63 => [(0, .d (kS.sig a0)), (1, .d ((kI .i64).sig a1)), (58, .d (kB.sig x63))]) (fun x63 => []) ?_ ?_
      · obtain ⟨hc64, h⟩ := ib h
        rcases ic h with ⟨hp65, h⟩ | ⟨hp65, h⟩
        · rcases ic h with ⟨hp66, h⟩ | ⟨hp66, h⟩
          · obtain ⟨hc67, h⟩ := ib h
            refine rg (cp (oMv tm) (s1 rfl) <| cp (oMv tm) (s1 rfl) <| cp (oIdxS u9 hc64.1 hc64.2 tm tm) (s2 rfl rfl) <| cp (oEq rfl tm (cI (by decide))) (s1 rfl) <| cp (oMv tm) (s1 rfl) <| cgB (decide_eq_true hp65) rfl rfl (oMv tm) (s1 rfl) <| cgB (decide_eq_true hp65) rfl rfl (oAdd tm (cI (by decide))) (s1 rfl) <| cgB (decide_eq_true hp65) rfl rfl (oMv tm) (s1 rfl) <| cgB (decide_eq_true hp65) rfl rfl (oLenS u9 tm) (s1 rfl) <| cgB (decide_eq_true hp65) rfl rfl (oLt rfl tm tm) (s2 rfl rfl) <| cp (oPkT (decide_eq_true hp65) tm tm) (s2 rfl rfl) <| cp (oMv tm) (s1 rfl) <| cgB (decide_eq_true hp66) rfl rfl (oMv tm) (s1 rfl) <| cgB (decide_eq_true hp66) rfl rfl (oMv tm) (s1 rfl) <| cgB (decide_eq_true hp66) rfl rfl (oAdd tm (cI (by decide))) (s1 rfl) <| cgB (decide_eq_true hp66) rfl rfl (oIdxS u9 hc67.1 hc67.2 tm tm) (s2 rfl rfl) <| cgB (decide_eq_true hp66) rfl rfl (oEq rfl tm (cI (by decide))) (s1 rfl) <| cp (oPkT (decide_eq_true hp66) tm tm) (s2 rfl rfl) <| .nil) (by kernel_rfl) ?_
            exact pJ1 _ (so h) ⟨rfl, rfl, rfl, trivial⟩ rfl
          · refine rg (cp (oMv tm) (s1 rfl) <| cp (oMv tm) (s1 rfl) <| cp (oIdxS u9 hc64.1 hc64.2 tm tm) (s2 rfl rfl) <| cp (oEq rfl tm (cI (by decide))) (s1 rfl) <| cp (oMv tm) (s1 rfl) <| cgB (decide_eq_true hp65) rfl rfl (oMv tm) (s1 rfl) <| cgB (decide_eq_true hp65) rfl rfl (oAdd tm (cI (by decide))) (s1 rfl) <| cgB (decide_eq_true hp65) rfl rfl (oMv tm) (s1 rfl) <| cgB (decide_eq_true hp65) rfl rfl (oLenS u9 tm) (s1 rfl) <| cgB (decide_eq_true hp65) rfl rfl (oLt rfl tm tm) (s2 rfl rfl) <| cp (oPkT (decide_eq_true hp65) tm tm) (s2 rfl rfl) <| cp (oMv tm) (s1 rfl) <| csB (decide_eq_false hp66) rfl rfl <| csB (decide_eq_false hp66) rfl rfl <| csB (decide_eq_false hp66) rfl rfl <| csB (decide_eq_false hp66) rfl rfl <| csB (decide_eq_false hp66) rfl rfl <| cp (oPkF (decide_eq_false hp66) tm cB) (s1 rfl) <| .nil) (by kernel_rfl) ?_
            exact pJ1 _ (so h) ⟨rfl, rfl, rfl, trivial⟩ rfl
        · refine rg (cp (oMv tm) (s1 rfl) <| cp (oMv tm) (s1 rfl) <| cp (oIdxS u9 hc64.1 hc64.2 tm tm) (s2 rfl rfl) <| cp (oEq rfl tm (cI (by decide))) (s1 rfl) <| cp (oMv tm) (s1 rfl) <| csB (decide_eq_false hp65) rfl rfl <| csB (decide_eq_false hp65) rfl rfl <| csB (decide_eq_false hp65) rfl rfl <| csB (decide_eq_false hp65) rfl rfl <| csB (decide_eq_false hp65) rfl rfl <| cp (oPkF (decide_eq_false hp65) tm cB) (s1 rfl) <| cp (oMv tm) (s1 rfl) <| csB rfl rfl rfl <| csB rfl rfl rfl <| csB rfl rfl rfl <| csB rfl rfl rfl <| csB rfl rfl rfl <| cp (oPkF rfl tm cB) (s1 rfl) <| .nil) (by kernel_rfl) ?_
          exact pJ1 _ (so h) ⟨rfl, rfl, rfl, trivial⟩ rfl
      · rintro x63 rfl
        replace h := hk1
        rcases ic h with ⟨hp68, h⟩ | ⟨hp68, h⟩
        · refine wBT hp68 tm (s1 rfl) ?_
          refine wSeq ?_
          refine rg (cp (oMv tm) (s1 rfl) <| cp (oAdd tm (cI (by decide))) (s1 rfl) <| cp (oAs tm) (s1 rfl) <| .nil) (by kernel_rfl) ?_
          refine pSeq ?_
          refine wRet ?_
          refine pThenR ?_
          obtain rfl := so h
          exact pR1 (.inl rfl) rfl (.tmp rfl <| .nil)
        · refine wBF hp68 tm (s1 rfl) ?_
          refine wSkip ?_
          refine pSeq ?_
          refine wSeq ?_
          refine wSeq ?_
          obtain ⟨hc69, h⟩ := ib h
          obtain ⟨y70, hy70, h⟩ := bd h
          refine rg (cp (oMv tm) (s1 rfl) <| cp (oMv tm) (s1 rfl) <| cp (oIdxS u9 hc69.1 hc69.2 tm tm) (s2 rfl rfl) <| cp (oCall rfl (reticentref03_mark.ok hy70) b164 (opds_cons tm opds_nil)) (s1 rfl) <| .nil) (by kernel_rfl) ?_
          refine pSeq ?_
          rcases ic h with ⟨hp71, h⟩ | ⟨hp71, h⟩
          · refine wBT hp71 tm (s1 rfl) ?_
            refine wSeq ?_
            refine rg (cp (oMv tm) (s1 rfl) <| cp (oAdd tm (cI (by decide))) (s1 rfl) <| cp (oAs tm) (s1 rfl) <| .nil) (by kernel_rfl) ?_
            refine pSeq ?_
            refine wRet ?_
            refine pThenR ?_
            obtain rfl := so h
            exact pR1 (.inl rfl) rfl (.tmp rfl <| .nil)
          · refine wBF hp71 tm (s1 rfl) ?_
            refine wSkip ?_
            refine pSeq ?_
            refine wSeq ?_
            refine rg (cp (oMv tm) (s1 rfl) <| cp (oAs tm) (s1 rfl) <| .nil) (by kernel_rfl) ?_
            refine pSeq ?_
            refine wRet ?_
            obtain rfl := so h
            exact pR1 (.inl rfl) rfl (.tmp rfl <| .nil)

theorem reticentref03_kind.ok {a0 : Int} {r : Int} (h : reticentref03_kind.f a0 = some r) : FnA Tryd.prog 106 [(kI .u8).sig a0] ((kI .i64).sig r) := by
  refine fnIntro Tryd.func106 rfl (by kernel_rfl) fun H0 w0 => ?_
  unfold reticentref03_kind.f at h
  refine wSeq ?_
  refine rg (cp (oAs (cI (by decide))) trivial <| .nil) (by kernel_rfl) ?_
  refine pSeq ?_
  refine wSeq ?_
  refine wSeq ?_
  obtain ⟨y1, hy1, h⟩ := bd h
  refine rg (cp (oMv tm) (s1 rfl) <| cp (oCall rfl (reticentref03_letter.ok hy1) b162 (opds_cons tm opds_nil)) (s1 rfl) <| .nil) (by kernel_rfl) ?_
  refine pSeq ?_
  rcases ic h with ⟨hp2, h⟩ | ⟨hp2, h⟩
  · refine wBT hp2 tm (s1 rfl) ?_
    refine wSeq ?_
    refine rg (cp (oAs (cI (by decide))) trivial <| .nil) (by kernel_rfl) ?_
    refine pSeq ?_
    refine wRet ?_
    refine pThenR ?_
    obtain rfl := so h
    exact pR1 (.inl rfl) rfl (.tmp rfl <| .nil)
  · refine wBF hp2 tm (s1 rfl) ?_
    refine wSkip ?_
    refine pSeq ?_
    refine wSeq ?_
    refine wSeq ?_
    obtain ⟨y3, hy3, h⟩ := bd h
    refine rg (cp (oMv tm) (s1 rfl) <| cp (oCall rfl (reticentref03_digit.ok hy3) b163 (opds_cons tm opds_nil)) (s1 rfl) <| .nil) (by kernel_rfl) ?_
    refine pSeq ?_
    rcases ic h with ⟨hp4, h⟩ | ⟨hp4, h⟩
    · refine wBT hp4 tm (s1 rfl) ?_
      refine wSeq ?_
      refine rg (cp (oAs (cI (by decide))) trivial <| .nil) (by kernel_rfl) ?_
      refine pSeq ?_
      refine wRet ?_
      refine pThenR ?_
      obtain rfl := so h
      exact pR1 (.inl rfl) rfl (.tmp rfl <| .nil)
    · refine wBF hp4 tm (s1 rfl) ?_
      refine wSkip ?_
      refine pSeq ?_
      refine wSeq ?_
      refine rg (cp (oAs (cI (by decide))) trivial <| .nil) (by kernel_rfl) ?_
      refine pSeq ?_
      refine wRet ?_
      obtain rfl := so h
      exact pR1 (.inl rfl) rfl (.tmp rfl <| .nil)

theorem reticentref03_Lex.ok {a0 : Str} {r : reticentref03_R} (h : reticentref03_Lex.f a0 = some r) : FnA Tryd.prog 63 [kS.sig a0] ((kR f_reticentref03_R).sig r) := by
  refine fnIntro Tryd.func63 rfl (by kernel_rfl) fun H0 w0 => ?_
  unfold reticentref03_Lex.f at h
  refine wSeq ?_
  refine rg (cw (oAlloc (id := 2) (ls := [.d (kL (kR f_api_Tok)) [], .d (kI .i64) 0, .d (kI .i64) 0]) ze119 (fun g => ⟨[(.slice none 0 0)], _, rfl, zL g.H, ⟨[(.int .i64 0)], _, rfl, zI_i64 g.H, ⟨[(.int .i64 0)], _, rfl, zI_i64 g.H, rfl⟩⟩⟩)) trivial <| .nil) (by kernel_rfl) ?_
  refine pSeq ?_
  refine wSeq ?_
  refine wSeq ?_
  refine rg (cp (oMv tm) (s1 rfl) <| cp (oLenS u9 tm) (s1 rfl) <| cp (oGt rfl tm (cI (by decide))) (s1 rfl) <| .nil) (by kernel_rfl) ?_
  refine pSeq ?_
  rcases ic h with ⟨hp1, h⟩ | ⟨hp1, h⟩
  · refine wCT hp1 tm (s1 rfl) ?_
    refine wSeq ?_
    refine rg (cp (oBuild (fs := f_reticentref03_R) (u := ⟨[], 0, 8⟩) rfl ze119 pl119 po119 (.ze (zc := [(.slice none 0 0)]) zL (.ze (zc := [(.int .i64 0)]) zI_i64 (.op (zc := [(.int .i64 0)]) (cI (by decide)) rfl .nil)))) trivial <| cwn (oStA (n := 0) (fs := f_reticentref03_R) rfl rfl z119 tm tm) (s2 rfl rfl) <| .nil) (by kernel_rfl) ?_
    refine pSeq ?_
    refine wRet ?_
    refine pThenR ?_
    obtain rfl := so h
    exact pR1 (.inl rfl) rfl (.box (n := 0) (fs := f_reticentref03_R) (u := ⟨[], 0, 8⟩) rfl rfl ⟨rfl, rfl, rfl, trivial⟩ t119 <| .nil)
  · refine wCF hp1 tm (s1 rfl) ?_
    refine wSkip ?_
    refine pSeq ?_
    refine wSeq ?_
    refine rg (cw (oLitR (id := 10) (d := (kR f_api_Tok)) el71 (by decide) rfl rfl rfl e0) trivial <| cp (oAs tm) (s1 rfl) <| .nil) (by kernel_rfl) ?_
    refine pSeq ?_
    refine wSeq ?_
    refine rg (cp (oAs (cI (by decide))) trivial <| .nil) (by kernel_rfl) ?_
    refine pSeq ?_
    refine wWeak (Γ' := [(0, .d (kS.sig a0)), (2, .p 2 0), (3, .v 10), (4, .d ((kI .i64).sig 0))]) ⟨rfl, rfl, rfl, rfl, trivial⟩ ?_
    refine wRen 10 1003 rfl ?_
    obtain ⟨o1, h, hk1⟩ := bd h
    refine wJ1 (fun x170 => .inr x170 = o1) (fun x170 => [(0, .d (kS.sig a0)), (2, .p 2 0), (3, .v 1003)]) (fun x170 => [.row 1003 123 (kR f_api_Tok) x170, .box 2 119 [.d (kL (kR f_api_Tok)) [], .d (kI .i64) 0, .d (kI .i64) 0]]) ?_ ?_
    · refine wBlock (wLoop ?_)
      refine lW (pc2 o1 (fun v168 v169 => [(0, .d (kS.sig a0)), (2, .p 2 0), (3, .v 1003), (4, .d ((kI .i64).sig v169))]) (fun v168 v169 => [.row 1003 123 (kR f_api_Tok) v168, .box 2 119 [.d (kL (kR f_api_Tok)) [], .d (kI .i64) 0, .d (kI .i64) 0]]) (reticentref03_Lex.l4.partial_correctness a0) ?_ _ _ h) ⟨rfl, rfl, rfl, rfl, trivial⟩ rfl
      clear h
      intro f' ih v168 v169 h
      refine wSeq ?_
      refine wSeq ?_
      refine rg (cp (oMv tm) (s1 rfl) <| cp (oMv tm) (s1 rfl) <| cp (oLenS u9 tm) (s1 rfl) <| cp (oLt rfl tm tm) (s2 rfl rfl) <| .nil) (by kernel_rfl) ?_
      refine pSeq ?_
      rcases ic h with ⟨hp171, h⟩ | ⟨hp171, h⟩
      · refine wCT hp171 tm (s1 rfl) ?_
        refine wSkip ?_
        refine pSeq ?_
        obtain ⟨o2, h, hk2⟩ := bd h
        refine wK2 (fun x212 x213 => .inr (x212, x213) = o2) (fun x212 x213 => [(0, .d (kS.sig a0)), (2, .p 2 0), (3, .v 1003), (4, .d ((kI .i64).sig x213))]) (fun x212 x213 => [.row 1003 123 (kR f_api_Tok) x212, .box 2 119 [.d (kL (kR f_api_Tok)) [], .d (kI .i64) 0, .d (kI .i64) 0]]) ?_ ?_
        · refine wBlock ?_
          refine wSeq ?_
          obtain ⟨o3, h, hk3⟩ := bd h
          refine wJ1 (fun x219 => x219 = o3) (fun x219 => [(0, .d (kS.sig a0)), (2, .p 2 0), (3, .v 1003), (4, .d ((kI .i64).sig v169)), (30, .d (kB.sig x219))]) (fun x219 => [.row 1003 123 (kR f_api_Tok) v168, .box 2 119 [.d (kL (kR f_api_Tok)) [], .d (kI .i64) 0, .d (kI .i64) 0]]) ?_ ?_
          · obtain ⟨hc220, h⟩ := ib h
            rcases ic h with ⟨hp221, h⟩ | ⟨hp221, h⟩
            · refine rg (cp (oMv tm) (s1 rfl) <| cp (oMv tm) (s1 rfl) <| cp (oIdxS u9 hc220.1 hc220.2 tm tm) (s2 rfl rfl) <| cp (oEq rfl tm (cI (by decide))) (s1 rfl) <| cp (oMv tm) (s1 rfl) <| csB (decide_eq_true hp221) rfl rfl <| csB (decide_eq_true hp221) rfl rfl <| csB (decide_eq_true hp221) rfl rfl <| csB (decide_eq_true hp221) rfl rfl <| cp (oPkT (decide_eq_true hp221) tm cB) (s1 rfl) <| cp (oMv tm) (s1 rfl) <| csB rfl rfl rfl <| csB rfl rfl rfl <| csB rfl rfl rfl <| csB rfl rfl rfl <| cp (oPkT rfl tm cB) (s1 rfl) <| .nil) (by kernel_rfl) ?_
              exact pJ1 _ (so h) ⟨rfl, rfl, rfl, rfl, rfl, trivial⟩ rfl
            · obtain ⟨hc222, h⟩ := ib h
              rcases ic h with ⟨hp223, h⟩ | ⟨hp223, h⟩
              · refine rg (cp (oMv tm) (s1 rfl) <| cp (oMv tm) (s1 rfl) <| cp (oIdxS u9 hc220.1 hc220.2 tm tm) (s2 rfl rfl) <| cp (oEq rfl tm (cI (by decide))) (s1 rfl) <| cp (oMv tm) (s1 rfl) <| cgB (decide_eq_false hp221) rfl rfl (oMv tm) (s1 rfl) <| cgB (decide_eq_false hp221) rfl rfl (oMv tm) (s1 rfl) <| cgB (decide_eq_false hp221) rfl rfl (oIdxS u9 hc222.1 hc222.2 tm tm) (s2 rfl rfl) <| cgB (decide_eq_false hp221) rfl rfl (oEq rfl tm (cI (by decide))) (s1 rfl) <| cp (oPkF (decide_eq_false hp221) tm tm) (s2 rfl rfl) <| cp (oMv tm) (s1 rfl) <| csB (decide_eq_true hp223) rfl rfl <| csB (decide_eq_true hp223) rfl rfl <| csB (decide_eq_true hp223) rfl rfl <| csB (decide_eq_true hp223) rfl rfl <| cp (oPkT (decide_eq_true hp223) tm cB) (s1 rfl) <| .nil) (by kernel_rfl) ?_
                exact pJ1 _ (so h) ⟨rfl, rfl, rfl, rfl, rfl, trivial⟩ rfl
              · obtain ⟨hc224, h⟩ := ib h
                refine rg (cp (oMv tm) (s1 rfl) <| cp (oMv tm) (s1 rfl) <| cp (oIdxS u9 hc220.1 hc220.2 tm tm) (s2 rfl rfl) <| cp (oEq rfl tm (cI (by decide))) (s1 rfl) <| cp (oMv tm) (s1 rfl) <| cgB (decide_eq_false hp221) rfl rfl (oMv tm) (s1 rfl) <| cgB (decide_eq_false hp221) rfl rfl (oMv tm) (s1 rfl) <| cgB (decide_eq_false hp221) rfl rfl (oIdxS u9 hc222.1 hc222.2 tm tm) (s2 rfl rfl) <| cgB (decide_eq_false hp221) rfl rfl (oEq rfl tm (cI (by decide))) (s1 rfl) <| cp (oPkF (decide_eq_false hp221) tm tm) (s2 rfl rfl) <| cp (oMv tm) (s1 rfl) <| cgB (decide_eq_false hp223) rfl rfl (oMv tm) (s1 rfl) <| cgB (decide_eq_false hp223) rfl rfl (oMv tm) (s1 rfl) <| cgB (decide_eq_false hp223) rfl rfl (oIdxS u9 hc224.1 hc224.2 tm tm) (s2 rfl rfl) <| cgB (decide_eq_false hp223) rfl rfl (oEq rfl tm (cI (by decide))) (s1 rfl) <| cp (oPkF (decide_eq_false hp223) tm tm) (s2 rfl rfl) <| .nil) (by kernel_rfl) ?_
                exact pJ1 _ (so h) ⟨rfl, rfl, rfl, rfl, rfl, trivial⟩ rfl
          · rintro x219 rfl
            replace h := hk3
            rcases ic h with ⟨hp225, h⟩ | ⟨hp225, h⟩
            · refine wBT hp225 tm (s1 rfl) ?_
              refine wSeq ?_
              refine rg (cp (oMv tm) (s1 rfl) <| cp (oAdd tm (cI (by decide))) (s1 rfl) <| cp (oAs tm) (s1 rfl) <| .nil) (by kernel_rfl) ?_
              refine pSeq ?_
              refine wExit ?_
              refine pThenX ?_
              refine pBlkX ?_
              exact pJ2 _ _ (so h) ⟨rfl, rfl, rfl, rfl, trivial⟩ rfl
            · refine wBF hp225 tm (s1 rfl) ?_
              refine wSkip ?_
              refine pSeq ?_
              refine wSeq ?_
              refine wSeq ?_
              obtain ⟨hc226, h⟩ := ib h
              refine rg (cp (oMv tm) (s1 rfl) <| cp (oMv tm) (s1 rfl) <| cp (oIdxS u9 hc226.1 hc226.2 tm tm) (s2 rfl rfl) <| cp (oEq rfl tm (cI (by decide))) (s1 rfl) <| .nil) (by kernel_rfl) ?_
              refine pSeq ?_
              rcases ic h with ⟨hp227, h⟩ | ⟨hp227, h⟩
              · refine wCT hp227 tm (s1 rfl) ?_
                obtain ⟨o3, h, hk3⟩ := bd h
                refine wJ1 (fun x241 => x241 = o3) (fun x241 => [(0, .d (kS.sig a0)), (2, .p 2 0), (3, .v 1003), (4, .d ((kI .i64).sig x241))]) (fun x241 => [.row 1003 123 (kR f_api_Tok) v168, .box 2 119 [.d (kL (kR f_api_Tok)) [], .d (kI .i64) 0, .d (kI .i64) 0]]) ?_ ?_
                · refine wBlock (wLoop ?_)
                  refine lW (pc1 o3 (fun v240 => [(0, .d (kS.sig a0)), (2, .p 2 0), (3, .v 1003), (4, .d ((kI .i64).sig v240))]) (fun v240 => [.row 1003 123 (kR f_api_Tok) v168, .box 2 119 [.d (kL (kR f_api_Tok)) [], .d (kI .i64) 0, .d (kI .i64) 0]]) (reticentref03_Lex.l6.partial_correctness a0) ?_ _ h) ⟨rfl, rfl, rfl, rfl, trivial⟩ rfl
                  clear h
                  intro f' ih v240 h
                  refine wSeq ?_
                  obtain ⟨o4, h, hk4⟩ := bd h
                  refine wJ1 (fun x244 => x244 = o4) (fun x244 => [(0, .d (kS.sig a0)), (2, .p 2 0), (3, .v 1003), (4, .d ((kI .i64).sig v240)), (46, .d (kB.sig x244))]) (fun x244 => [.row 1003 123 (kR f_api_Tok) v168, .box 2 119 [.d (kL (kR f_api_Tok)) [], .d (kI .i64) 0, .d (kI .i64) 0]]) ?_ ?_
                  · rcases ic h with ⟨hp245, h⟩ | ⟨hp245, h⟩
                    · obtain ⟨hc246, h⟩ := ib h
                      refine rg (cp (oMv tm) (s1 rfl) <| cp (oMv tm) (s1 rfl) <| cp (oLenS u9 tm) (s1 rfl) <| cp (oLt rfl tm tm) (s2 rfl rfl) <| cp (oMv tm) (s1 rfl) <| cgB (decide_eq_true hp245) rfl rfl (oMv tm) (s1 rfl) <| cgB (decide_eq_true hp245) rfl rfl (oMv tm) (s1 rfl) <| cgB (decide_eq_true hp245) rfl rfl (oIdxS u9 hc246.1 hc246.2 tm tm) (s2 rfl rfl) <| cgB (decide_eq_true hp245) rfl rfl (oNe rfl tm (cI (by decide))) (s1 rfl) <| cp (oPkT (decide_eq_true hp245) tm tm) (s2 rfl rfl) <| .nil) (by kernel_rfl) ?_
                      exact pJ1 _ (so h) ⟨rfl, rfl, rfl, rfl, rfl, trivial⟩ rfl
                    · refine rg (cp (oMv tm) (s1 rfl) <| cp (oMv tm) (s1 rfl) <| cp (oLenS u9 tm) (s1 rfl) <| cp (oLt rfl tm tm) (s2 rfl rfl) <| cp (oMv tm) (s1 rfl) <| csB (decide_eq_false hp245) rfl rfl <| csB (decide_eq_false hp245) rfl rfl <| csB (decide_eq_false hp245) rfl rfl <| csB (decide_eq_false hp245) rfl rfl <| cp (oPkF (decide_eq_false hp245) tm cB) (s1 rfl) <| .nil) (by kernel_rfl) ?_
                      exact pJ1 _ (so h) ⟨rfl, rfl, rfl, rfl, rfl, trivial⟩ rfl
                  · rintro x244 rfl
                    replace h := hk4
                    rcases ic h with ⟨hp247, h⟩ | ⟨hp247, h⟩
                    · refine wBT hp247 tm (s1 rfl) ?_
                      refine wSkip ?_
                      refine pSeq ?_
                      refine wBlock ?_
                      refine rg (cp (oMv tm) (s1 rfl) <| cp (oAdd tm (cI (by decide))) (s1 rfl) <| cp (oAs tm) (s1 rfl) <| .nil) (by kernel_rfl) ?_
                      refine pBlkN ?_
                      exact pLoop (lW (ih _ h) ⟨rfl, rfl, rfl, rfl, trivial⟩ rfl)
                    · refine wBF hp247 tm (s1 rfl) ?_
                      refine wExit ?_
                      refine pThenX ?_
                      refine pThenX ?_
                      refine pBlkX ?_
                      exact pJ1 _ (so h) ⟨rfl, rfl, rfl, rfl, trivial⟩ rfl
                · rintro x241 rfl
                  replace h := hk3
                  refine wExit ?_
                  refine pThenX ?_
                  refine pBlkX ?_
                  exact pJ2 _ _ (so h) ⟨rfl, rfl, rfl, rfl, trivial⟩ rfl
              · refine wCF hp227 tm (s1 rfl) ?_
                refine wSkip ?_
                refine pSeq ?_
                refine wSeq ?_
                obtain ⟨y248, hy248, h⟩ := bd h
                refine rg (cp (oMv tm) (s1 rfl) <| cp (oMv tm) (s1 rfl) <| cp (oCall rfl (reticentref03_end.ok hy248) b105 (opds_cons tm (opds_cons tm opds_nil))) (s2 rfl rfl) <| cp (oAs tm) (s1 rfl) <| .nil) (by kernel_rfl) ?_
                refine pSeq ?_
                refine wSeq ?_
                refine wSeq ?_
                refine rg (cp (oMv tm) (s1 rfl) <| cp (oMv tm) (s1 rfl) <| cp (oEq rfl tm tm) (s2 rfl rfl) <| .nil) (by kernel_rfl) ?_
                refine pSeq ?_
                rcases ic h with ⟨hp249, h⟩ | ⟨hp249, h⟩
                · refine wCT hp249 tm (s1 rfl) ?_
                  refine wSeq ?_
                  refine rg (cp (oMv tm) (s1 rfl) <| cp (oBuild (fs := f_reticentref03_R) (u := ⟨[], v169, 4⟩) rfl ze119 pl119 po119 (.ze (zc := [(.slice none 0 0)]) zL (.op (zc := [(.int .i64 0)]) tm rfl (.op (zc := [(.int .i64 0)]) (cI (by decide)) rfl .nil)))) (s1 rfl) <| cwn (oStA (n := 1) (fs := f_reticentref03_R) rfl rfl z119 tm tm) (s2 rfl rfl) <| .nil) (by kernel_rfl) ?_
                  refine pSeq ?_
                  refine wRet ?_
                  refine pThenR ?_
                  refine pBlkR ?_
                  refine pThenR ?_
                  obtain rfl := so h
                  replace h := hk2
                  refine pThenR ?_
                  refine pBlkR ?_
                  refine pThenR ?_
                  obtain rfl := so h
                  replace h := hk1
                  obtain rfl := so h
                  exact pR1 (.inl rfl) rfl (.box (n := 1) (fs := f_reticentref03_R) (u := ⟨[], v169, 4⟩) rfl rfl ⟨rfl, rfl, rfl, trivial⟩ t119 <| .nil)
                · refine wCF hp249 tm (s1 rfl) ?_
                  refine wSkip ?_
                  refine pSeq ?_
                  refine wSeq ?_
                  obtain ⟨hc250, h⟩ := ib h
                  obtain ⟨y251, hy251, h⟩ := bd h
                  obtain ⟨hc252, h⟩ := ib h
                  obtain ⟨hc253, h⟩ := ib h
                  refine rgD hm (cp (oMv tm) (s1 rfl) <| cp (oMv tm) (s1 rfl) <| cp (oMv tm) (s1 rfl) <| cp (oIdxS u9 hc250.1 hc250.2 tm tm) (s2 rfl rfl) <| cp (oCall rfl (reticentref03_kind.ok hy251) b106 (opds_cons tm opds_nil)) (s1 rfl) <| cp (oMv tm) (s1 rfl) <| cp (oMv tm) (s1 rfl) <| cp (oMv tm) (s1 rfl) <| cp (oCutS u9 hc252.1 hc252.2.1 hc252.2.2 tm tm tm) (s3 rfl rfl rfl) <| cp (oMv tm) (s1 rfl) <| cp (oBuild (fs := f_api_Tok) (u := ⟨y251, sCut a0 v169 y248, v169⟩) rfl ze123 pl123 po123 (.op (zc := [(.int .i64 0)]) tm rfl (.op (zc := [(.string ⟨⟨[]⟩⟩)]) tm rfl (.op (zc := [(.int .i64 0)]) tm rfl .nil)))) (s3 rfl rfl rfl) <| cp (oLit (d := (kR f_api_Tok)) el71 (by decide) rfl rfl rfl (e1 tm e0)) (s1 rfl) <| cw (oApp (n := 0) (id' := 69) el71 (by decide) rfl (by decide) hc253 tm tm) (s2 rfl rfl) <| cp (oAs tm) (s1 rfl) <| .nil) (by kernel_rfl) (by kernel_rfl) ?_
                  refine pSeq ?_
                  refine rg (cp (oMv tm) (s1 rfl) <| cp (oAs tm) (s1 rfl) <| .nil) (by kernel_rfl) ?_
                  refine pBlkN ?_
                  refine pSub (Γ' := [(0, .d (kS.sig a0)), (2, .p 2 0), (3, .v 69), (4, .d ((kI .i64).sig y248))]) ⟨rfl, rfl, rfl, rfl, trivial⟩ ?_
                  refine pRen 69 1003 rfl ?_
                  exact pJ2 _ _ (so h) ⟨rfl, rfl, rfl, rfl, trivial⟩ rfl
        · rintro x212 x213 rfl
          replace h := hk2
          exact pLoop (lW (ih _ _ h) ⟨rfl, rfl, rfl, rfl, trivial⟩ rfl)
      · refine wCF hp171 tm (s1 rfl) ?_
        refine wExit ?_
        refine pThenX ?_
        refine pThenX ?_
        refine pBlkX ?_
        exact pJ1 _ (so h) ⟨rfl, rfl, rfl, trivial⟩ rfl
    · rintro x170 rfl
      replace h := hk1
      refine wSeq ?_
      obtain ⟨hc254, h⟩ := ib h
      refine rg (cp (oMv tm) (s1 rfl) <| cp (oMv tm) (s1 rfl) <| cp (oLenS u9 tm) (s1 rfl) <| cp (oBuild (fs := f_api_Tok) (u := ⟨0, [], (a0.length : Int)⟩) rfl ze123 pl123 po123 (.ze (zc := [(.int .i64 0)]) zI_i64 (.ze (zc := [(.string ⟨⟨[]⟩⟩)]) zS (.op (zc := [(.int .i64 0)]) tm rfl .nil)))) (s1 rfl) <| cp (oLit (d := (kR f_api_Tok)) el71 (by decide) rfl rfl rfl (e1 tm e0)) (s1 rfl) <| cw (oApp (n := 0) (id' := 76) el71 (by decide) rfl (by decide) hc254 tm tm) (s2 rfl rfl) <| cp (oAs tm) (s1 rfl) <| .nil) (by kernel_rfl) ?_
      refine pSeq ?_
      refine wSeq ?_
      refine wSeq ?_
      refine rg (cp (oMv tm) (s1 rfl) <| cr (oLenR (n := 0) u71 rfl tm) (s1 rfl) <| cp (oGt rfl tm (cI (by decide))) (s1 rfl) <| .nil) (by kernel_rfl) ?_
      refine pSeq ?_
      rcases ic h with ⟨hp255, h⟩ | ⟨hp255, h⟩
      · refine wCT hp255 tm (s1 rfl) ?_
        refine wSeq ?_
        refine rg (cp (oBuild (fs := f_reticentref03_R) (u := ⟨[], 0, 8⟩) rfl ze119 pl119 po119 (.ze (zc := [(.slice none 0 0)]) zL (.ze (zc := [(.int .i64 0)]) zI_i64 (.op (zc := [(.int .i64 0)]) (cI (by decide)) rfl .nil)))) trivial <| cwn (oStA (n := 1) (fs := f_reticentref03_R) rfl rfl z119 tm tm) (s2 rfl rfl) <| .nil) (by kernel_rfl) ?_
        refine pSeq ?_
        refine wRet ?_
        refine pThenR ?_
        obtain rfl := so h
        exact pR1 (.inl rfl) rfl (.box (n := 1) (fs := f_reticentref03_R) (u := ⟨[], 0, 8⟩) rfl rfl ⟨rfl, rfl, rfl, trivial⟩ t119 <| .nil)
      · refine wCF hp255 tm (s1 rfl) ?_
        refine wSkip ?_
        refine pSeq ?_
        refine wSeq ?_
        refine wFrzR (n := 0) (id := 76) [3, 76, 77] rfl rfl ⟨rfl, rfl, rfl, trivial⟩ ?_
        refine rg (cp (oMv tm) (s1 rfl) <| cp (oBuild (fs := f_reticentref03_R) (u := ⟨x170 ++ ([(⟨0, [], (a0.length : Int)⟩ : api_Tok)] : List api_Tok), 0, 0⟩) rfl ze119 pl119 po119 (.op (zc := [(.slice none 0 0)]) tm rfl (.ze (zc := [(.int .i64 0)]) zI_i64 (.ze (zc := [(.int .i64 0)]) zI_i64 .nil)))) (s1 rfl) <| cwn (oStA (n := 0) (fs := f_reticentref03_R) rfl rfl z119 tm tm) (s2 rfl rfl) <| .nil) (by kernel_rfl) ?_
        refine pSeq ?_
        refine wRet ?_
        obtain rfl := so h
        exact pR1 (.inl rfl) rfl (.box (n := 0) (fs := f_reticentref03_R) (u := ⟨x170 ++ ([(⟨0, [], (a0.length : Int)⟩ : api_Tok)] : List api_Tok), 0, 0⟩) rfl rfl ⟨rfl, rfl, rfl, trivial⟩ t119 <| .nil)

theorem reticentref06_Word.ok {a0 : Int} {r : Str} (h : reticentref06_Word.f a0 = some r) : FnA Tryd.prog 24 [(kI .i64).sig a0] (kS.sig r) := by
  refine fnIntro Tryd.func24 rfl (by kernel_rfl) fun H0 w0 => ?_
  unfold reticentref06_Word.f at h
  refine wSeq ?_
  refine rg (cp (oAs (cS (by decide))) trivial <| .nil) (by kernel_rfl) ?_
  refine pSeq ?_
  refine wSeq ?_
  obtain ⟨y1, hy1, h⟩ := bd h
  refine rg (cp (oLit (d := kS) el56 (by decide) rfl rfl rfl (e1 (cS (by decide)) (e1 (cS (by decide)) (e1 (cS (by decide)) (e1 (cS (by decide)) (e1 (cS (by decide)) (e1 (cS (by decide)) (e1 (cS (by decide)) (e1 (cS (by decide)) (e1 (cS (by decide)) (e1 (cS (by decide)) (e1 (cS (by decide)) (e1 (cS (by decide)) (e1 (cS (by decide)) e0)))))))))))))) trivial <| cp (oMv tm) (s1 rfl) <| cp (oIdx u56 z9 hy1 tm tm) (s2 rfl rfl) <| cp (oLd t9 tm) (s1 rfl) <| cp (oAs tm) (s1 rfl) <| .nil) (by kernel_rfl) ?_
  refine pSeq ?_
  refine wRet ?_
  obtain rfl := so h
  exact pR1 (.inl rfl) rfl (.tmp rfl <| .nil)

theorem reticentref06_Op.ok {a0 : Str} {r : Int} (h : reticentref06_Op.f a0 = some r) : FnA Tryd.prog 64 [kS.sig a0] ((kI .i64).sig r) := by
  refine fnIntro Tryd.func64 rfl (by kernel_rfl) fun H0 w0 => ?_
  unfold reticentref06_Op.f at h
  refine wSeq ?_
  refine rg (cp (oAs (cI (by decide))) trivial <| .nil) (by kernel_rfl) ?_
  refine pSeq ?_
  refine wSeq ?_
  refine wSeq ?_
  refine rg (cp (oAs (cI (by decide))) trivial <| .nil) (by kernel_rfl) ?_
  refine pSeq ?_
  obtain ⟨o1, h, hk1⟩ := bd h
  refine wK0 (.inr () = o1) ([]) ([]) ?_ ?_
  · refine wBlock (wLoop ?_)
    refine lW (pc1 o1 (fun v7 => [(0, .d (kS.sig a0)), (3, .d ((kI .i64).sig v7))]) (fun v7 => []) (reticentref06_Op.l0.partial_correctness a0) ?_ _ h) ⟨rfl, rfl, trivial⟩ rfl
    clear h
    intro f' ih v7 h
    refine wSeq ?_
    refine wSeq ?_
    refine rg (cp (oMv tm) (s1 rfl) <| cp (oLt rfl tm (cI (by decide))) (s1 rfl) <| .nil) (by kernel_rfl) ?_
    refine pSeq ?_
    rcases ic h with ⟨hp8, h⟩ | ⟨hp8, h⟩
    · refine wCT hp8 tm (s1 rfl) ?_
      refine wSkip ?_
      refine pSeq ?_
      refine wSeq ?_
      refine wBlock ?_
      refine wSeq ?_
      obtain ⟨y9, hy9, h⟩ := bd h
      refine rg (cp (oMv tm) (s1 rfl) <| cp (oCall rfl (reticentref06_Word.ok hy9) b24 (opds_cons tm opds_nil)) (s1 rfl) <| cp (oMv tm) (s1 rfl) <| cp (oSEq rfl tm tm) (s2 rfl rfl) <| .nil) (by kernel_rfl) ?_
      refine pSeq ?_
      rcases ic h with ⟨hp10, h⟩ | ⟨hp10, h⟩
      · refine wCT hp10 tm (s1 rfl) ?_
        refine wSeq ?_
        refine rg (cp (oMv tm) (s1 rfl) <| cp (oAs tm) (s1 rfl) <| .nil) (by kernel_rfl) ?_
        refine pSeq ?_
        refine wRet ?_
        refine pBlkR ?_
        refine pThenR ?_
        refine pThenR ?_
        refine pBlkR ?_
        refine pThenR ?_
        obtain rfl := so h
        replace h := hk1
        refine pThenR ?_
        obtain rfl := so h
        exact pR1 (.inl rfl) rfl (.tmp rfl <| .nil)
      · refine wCF hp10 tm (s1 rfl) ?_
        refine wSkip ?_
        refine pBlkN ?_
        refine pSeq ?_
        refine rg (cp (oMv tm) (s1 rfl) <| cp (oAdd tm (cI (by decide))) (s1 rfl) <| cp (oAs tm) (s1 rfl) <| .nil) (by kernel_rfl) ?_
        exact pLoop (lW (ih _ h) ⟨rfl, rfl, trivial⟩ rfl)
    · refine wCF hp8 tm (s1 rfl) ?_
      refine wExit ?_
      refine pThenX ?_
      refine pThenX ?_
      refine pBlkX ?_
      exact pJ0 (so h) trivial rfl
  · rintro rfl
    replace h := hk1
    refine pSeq ?_
    refine wSeq ?_
    refine rg (cp (oAs (cI (by decide))) trivial <| .nil) (by kernel_rfl) ?_
    refine pSeq ?_
    refine wRet ?_
    obtain rfl := so h
    exact pR1 (.inl rfl) rfl (.tmp rfl <| .nil)

theorem reticentref06_mark.ok {a0 : List api_Tok} {a1 : reticentref06_P} {a2 : Str} {r : reticentref06_P} (h : reticentref06_mark.f a0 a1 a2 = some r) : FnA Tryd.prog 107 [(kL (kR f_api_Tok)).sig a0, (kR f_reticentref06_P).sig a1, kS.sig a2] ((kR f_reticentref06_P).sig r) := by
  refine fnIntro Tryd.func107 rfl (by kernel_rfl) fun H0 w0 => ?_
  unfold reticentref06_mark.f at h
  refine wSeq ?_
  refine rg (cw (oBoxP (id := 4) (d := (kR f_reticentref06_P)) (ls := [.d (kI .i64) a1.I, .d (kL (kI .i64)) a1.R.May, .d (kL (kI .i64)) a1.R.Res, .d (kL (kI .i64)) a1.R.Pc, .d (kI .i64) a1.E]) (lfS (lfC lf1 (lfC (lfS (lfC lf1 (lfC lf1 (lfC lf1 lfN)))) (lfC lf1 lfN)))) rfl tm) (s1 rfl) <| cw (oAlloc (id := 6) (ls := [.d (kI .i64) 0, .d (kL (kI .i64)) [], .d (kL (kI .i64)) [], .d (kL (kI .i64)) [], .d (kI .i64) 0]) ze126 (fun g => ⟨[(.int .i64 0)], _, rfl, zI_i64 g.H, ⟨[(.slice none 0 0)], _, rfl, zL g.H, ⟨[(.slice none 0 0)], _, rfl, zL g.H, ⟨[(.slice none 0 0)], _, rfl, zL g.H, ⟨[(.int .i64 0)], _, rfl, zI_i64 g.H, rfl⟩⟩⟩⟩⟩)) trivial <| .nil) (by kernel_rfl) ?_
  refine pSeq ?_
  refine wSeq ?_
  refine wSeq ?_
  refine rg (cp (oFldP o126_2 tm) (s1 rfl) <| cr (oLdB (n := 1) (k := 4) rfl rfl rfl t26 tm) (s1 rfl) <| cp (oNe rfl tm (cI (by decide))) (s1 rfl) <| .nil) (by kernel_rfl) ?_
  refine pSeq ?_
  rcases ic h with ⟨hp1, h⟩ | ⟨hp1, h⟩
  · refine wNT hp1 tm (s1 rfl) ?_
    refine wSkip ?_
    refine pSeq ?_
    refine wSeq ?_
    obtain ⟨o1, h, hk1⟩ := bd h
    refine wJ1 (fun x5 => x5 = o1) (fun x5 => [(4, .p 4 0), (6, .p 6 0), (27, .d (kB.sig x5))]) (fun x5 => [.box 6 126 [.d (kI .i64) 0, .d (kL (kI .i64)) [], .d (kL (kI .i64)) [], .d (kL (kI .i64)) [], .d (kI .i64) 0], .box 4 126 [.d (kI .i64) a1.I, .d (kL (kI .i64)) a1.R.May, .d (kL (kI .i64)) a1.R.Res, .d (kL (kI .i64)) a1.R.Pc, .d (kI .i64) a1.E]]) ?_ ?_
    · obtain ⟨y6, hy6, h⟩ := bd h
      rcases ic h with ⟨hp7, h⟩ | ⟨hp7, h⟩
      · obtain ⟨y8, hy8, h⟩ := bd h
        refine rg (cp (oMv tm) (s1 rfl) <| cp (oFldP o126_0 tm) (s1 rfl) <| cr (oLdB (n := 1) (k := 0) rfl rfl rfl t3 tm) (s1 rfl) <| cp (oIdx u71 z123 hy6 tm tm) (s2 rfl rfl) <| cp (oFld (fs := f_api_Tok) (k := 0) rfl o123_0 tm) (s1 rfl) <| cp (oLd t3 tm) (s1 rfl) <| cp (oNe rfl tm (cI (by decide))) (s1 rfl) <| cp (oMv tm) (s1 rfl) <| cgB (nf hp7) rfl rfl (oMv tm) (s1 rfl) <| cgB (nf hp7) rfl rfl (oFldP o126_0 tm) (s1 rfl) <| crgB (nf hp7) rfl rfl (oLdB (n := 1) (k := 0) rfl rfl rfl t3 tm) (s1 rfl) <| cgB (nf hp7) rfl rfl (oIdx u71 z123 hy8 tm tm) (s2 rfl rfl) <| cgB (nf hp7) rfl rfl (oFld (fs := f_api_Tok) (k := 1) rfl o123_1 tm) (s1 rfl) <| cgB (nf hp7) rfl rfl (oLd t9 tm) (s1 rfl) <| cgB (nf hp7) rfl rfl (oMv tm) (s1 rfl) <| cgB (nf hp7) rfl rfl (oSNe rfl tm tm) (s2 rfl rfl) <| cp (oPkF (nf hp7) tm tm) (s2 rfl rfl) <| .nil) (by kernel_rfl) ?_
        exact pJ1 _ (so h) ⟨rfl, rfl, rfl, trivial⟩ rfl
      · refine rg (cp (oMv tm) (s1 rfl) <| cp (oFldP o126_0 tm) (s1 rfl) <| cr (oLdB (n := 1) (k := 0) rfl rfl rfl t3 tm) (s1 rfl) <| cp (oIdx u71 z123 hy6 tm tm) (s2 rfl rfl) <| cp (oFld (fs := f_api_Tok) (k := 0) rfl o123_0 tm) (s1 rfl) <| cp (oLd t3 tm) (s1 rfl) <| cp (oNe rfl tm (cI (by decide))) (s1 rfl) <| cp (oMv tm) (s1 rfl) <| csB (nt hp7) rfl rfl <| csB (nt hp7) rfl rfl <| csB (nt hp7) rfl rfl <| csB (nt hp7) rfl rfl <| csB (nt hp7) rfl rfl <| csB (nt hp7) rfl rfl <| csB (nt hp7) rfl rfl <| csB (nt hp7) rfl rfl <| cp (oPkT (nt hp7) tm cB) (s1 rfl) <| .nil) (by kernel_rfl) ?_
        exact pJ1 _ (so h) ⟨rfl, rfl, rfl, trivial⟩ rfl
    · rintro x5 rfl
      replace h := hk1
      rcases ic h with ⟨hp9, h⟩ | ⟨hp9, h⟩
      · refine wBT hp9 tm (s1 rfl) ?_
        refine wSeq ?_
        refine rg (cp (oFldP o126_2 tm) (s1 rfl) <| cwn (oSt (n := 1) (k := 4) rfl rfl rfl rfl z26 tm (cI (by decide))) (s1 rfl) <| .nil) (by kernel_rfl) ?_
        refine pSeq ?_
        refine wSeq ?_
        refine rg (cr (oLdP (n := 1) (k := 0) (m := 5) (d := (kR f_reticentref06_P)) (u := (⟨a1.I, a1.R, 4⟩ : reticentref06_P)) (lfS (lfC lf1 (lfC (lfS (lfC lf1 (lfC lf1 (lfC lf1 lfN)))) (lfC lf1 lfN)))) rfl rfl rfl t126 tm) (s1 rfl) <| cwn (oStP (n := 0) (k := 0) (m := 5) (d := (kR f_reticentref06_P)) (u := (⟨a1.I, a1.R, 4⟩ : reticentref06_P)) (lfS (lfC lf1 (lfC (lfS (lfC lf1 (lfC lf1 (lfC lf1 lfN)))) (lfC lf1 lfN)))) rfl rfl rfl z126 tm tm) (s2 rfl rfl) <| .nil) (by kernel_rfl) ?_
        refine pSeq ?_
        refine wRet ?_
        refine pThenR ?_
        obtain rfl := so h
        exact pR1 (.inl rfl) rfl (.boxP (n := 0) (d := (kR f_reticentref06_P)) (u := (⟨a1.I, a1.R, 4⟩ : reticentref06_P)) rfl rfl (lfS (lfC lf1 (lfC (lfS (lfC lf1 (lfC lf1 (lfC lf1 lfN)))) (lfC lf1 lfN)))) rfl t126 <| .nil)
      · refine wBF hp9 tm (s1 rfl) ?_
        refine wSkip ?_
        refine pSeq ?_
        refine wSeq ?_
        refine rg (cp (oFldP o126_0 tm) (s1 rfl) <| cr (oLdB (n := 1) (k := 0) rfl rfl rfl t3 tm) (s1 rfl) <| cp (oAdd tm (cI (by decide))) (s1 rfl) <| cp (oFldP o126_0 tm) (s1 rfl) <| cwn (oSt (n := 1) (k := 0) rfl rfl rfl rfl z3 tm tm) (s2 rfl rfl) <| .nil) (by kernel_rfl) ?_
        refine pSeq ?_
        refine wSeq ?_
        refine rg (cr (oLdP (n := 1) (k := 0) (m := 5) (d := (kR f_reticentref06_P)) (u := (⟨IntKind.i64.wrap (a1.I + 1), a1.R, a1.E⟩ : reticentref06_P)) (lfS (lfC lf1 (lfC (lfS (lfC lf1 (lfC lf1 (lfC lf1 lfN)))) (lfC lf1 lfN)))) rfl rfl rfl t126 tm) (s1 rfl) <| cwn (oStP (n := 0) (k := 0) (m := 5) (d := (kR f_reticentref06_P)) (u := (⟨IntKind.i64.wrap (a1.I + 1), a1.R, a1.E⟩ : reticentref06_P)) (lfS (lfC lf1 (lfC (lfS (lfC lf1 (lfC lf1 (lfC lf1 lfN)))) (lfC lf1 lfN)))) rfl rfl rfl z126 tm tm) (s2 rfl rfl) <| .nil) (by kernel_rfl) ?_
        refine pSeq ?_
        refine wRet ?_
        obtain rfl := so h
        exact pR1 (.inl rfl) rfl (.boxP (n := 0) (d := (kR f_reticentref06_P)) (u := (⟨IntKind.i64.wrap (a1.I + 1), a1.R, a1.E⟩ : reticentref06_P)) rfl rfl (lfS (lfC lf1 (lfC (lfS (lfC lf1 (lfC lf1 (lfC lf1 lfN)))) (lfC lf1 lfN)))) rfl t126 <| .nil)
  · refine wNF hp1 tm (s1 rfl) ?_
    refine wSeq ?_
    refine rg (cr (oLdP (n := 1) (k := 0) (m := 5) (d := (kR f_reticentref06_P)) (u := a1) (lfS (lfC lf1 (lfC (lfS (lfC lf1 (lfC lf1 (lfC lf1 lfN)))) (lfC lf1 lfN)))) rfl rfl rfl t126 tm) (s1 rfl) <| cwn (oStP (n := 0) (k := 0) (m := 5) (d := (kR f_reticentref06_P)) (u := a1) (lfS (lfC lf1 (lfC (lfS (lfC lf1 (lfC lf1 (lfC lf1 lfN)))) (lfC lf1 lfN)))) rfl rfl rfl z126 tm tm) (s2 rfl rfl) <| .nil) (by kernel_rfl) ?_
    refine pSeq ?_
    refine wRet ?_
    refine pThenR ?_
    obtain rfl := so h
    exact pR1 (.inl rfl) rfl (.boxP (n := 0) (d := (kR f_reticentref06_P)) (u := a1) rfl rfl (lfS (lfC lf1 (lfC (lfS (lfC lf1 (lfC lf1 (lfC lf1 lfN)))) (lfC lf1 lfN)))) rfl t126 <| .nil)

theorem reticentref04_here.ok {a0 : reticentref04_P} {a1 : Str} {r : Bool} (h : reticentref04_here.f a0 a1 = some r) : FnA Tryd.prog 245 [(kR f_reticentref04_P).sig a0, kS.sig a1] (kB.sig r) := by
  refine fnIntro Tryd.func245 rfl (by kernel_rfl) fun H0 w0 => ?_
  unfold reticentref04_here.f at h
  refine wSeq ?_
  refine rg (cp (oBox tm) (s1 rfl) <| cp (oAs cB) trivial <| .nil) (by kernel_rfl) ?_
  refine pSeq ?_
  refine wSeq ?_
  obtain ⟨y1, hy1, h⟩ := bd h
  refine rg (cp (oFld (fs := f_reticentref04_P) (k := 0) rfl o248_0 tm) (s1 rfl) <| cp (oLd t71 tm) (s1 rfl) <| cp (oFld (fs := f_reticentref04_P) (k := 1) rfl o248_1 tm) (s1 rfl) <| cp (oLd t3 tm) (s1 rfl) <| cp (oIdx u71 z123 hy1 tm tm) (s2 rfl rfl) <| cp (oLd t123 tm) (s1 rfl) <| cw (oAlloc (id := 5) (ls := [.d (kI .i64) 0, .d kS [], .d (kI .i64) 0]) ze123 (fun g => ⟨[(.int .i64 0)], _, rfl, zI_i64 g.H, ⟨[(.string ⟨⟨[]⟩⟩)], _, rfl, zS g.H, ⟨[(.int .i64 0)], _, rfl, zI_i64 g.H, rfl⟩⟩⟩)) trivial <| cwn (oStA (n := 0) (fs := f_api_Tok) rfl rfl z123 tm tm) (s2 rfl rfl) <| .nil) (by kernel_rfl) ?_
  refine pSeq ?_
  obtain ⟨o1, h, hk1⟩ := bd h
  refine wJ1 (fun x5 => x5 = o1) (fun x5 => [(4, .d (kB.sig x5))]) (fun x5 => [.box 5 123 [.d (kI .i64) y1.Kind, .d kS y1.Text, .d (kI .i64) y1.At]]) ?_ ?_
  · rcases ic h with ⟨hp6, h⟩ | ⟨hp6, h⟩
    · rcases ic h with ⟨hp7, h⟩ | ⟨hp7, h⟩
      · refine rg (cp (oFld (fs := f_reticentref04_P) (k := 4) rfl o248_4 tm) (s1 rfl) <| cp (oLd t26 tm) (s1 rfl) <| cp (oEq rfl tm (cI (by decide))) (s1 rfl) <| cp (oMv tm) (s1 rfl) <| cgB (decide_eq_true hp6) rfl rfl (oFldP o123_0 tm) (s1 rfl) <| crgB (decide_eq_true hp6) rfl rfl (oLdB (n := 0) (k := 0) rfl rfl rfl t3 tm) (s1 rfl) <| cgB (decide_eq_true hp6) rfl rfl (oEq rfl tm (cI (by decide))) (s1 rfl) <| cgB (decide_eq_true hp6) rfl rfl (oMv tm) (s1 rfl) <| csB (decide_eq_true hp7) rfl rfl <| csB (decide_eq_true hp7) rfl rfl <| csB (decide_eq_true hp7) rfl rfl <| cgB (decide_eq_true hp6) rfl rfl (oPkT (decide_eq_true hp7) tm cB) (s1 rfl) <| cp (oPkT (decide_eq_true hp6) tm tm) (s2 rfl rfl) <| cp (oMv tm) (s1 rfl) <| cgB rfl rfl rfl (oFldP o123_1 tm) (s1 rfl) <| crgB rfl rfl rfl (oLdB (n := 0) (k := 1) rfl rfl rfl t9 tm) (s1 rfl) <| cgB rfl rfl rfl (oMv tm) (s1 rfl) <| cgB rfl rfl rfl (oSEq rfl tm tm) (s2 rfl rfl) <| cp (oPkT rfl tm tm) (s2 rfl rfl) <| cp (oAs tm) (s1 rfl) <| .nil) (by kernel_rfl) ?_
        exact pJ1 _ (so h) ⟨rfl, trivial⟩ rfl
      · rcases ic h with ⟨hp8, h⟩ | ⟨hp8, h⟩
        · refine rg (cp (oFld (fs := f_reticentref04_P) (k := 4) rfl o248_4 tm) (s1 rfl) <| cp (oLd t26 tm) (s1 rfl) <| cp (oEq rfl tm (cI (by decide))) (s1 rfl) <| cp (oMv tm) (s1 rfl) <| cgB (decide_eq_true hp6) rfl rfl (oFldP o123_0 tm) (s1 rfl) <| crgB (decide_eq_true hp6) rfl rfl (oLdB (n := 0) (k := 0) rfl rfl rfl t3 tm) (s1 rfl) <| cgB (decide_eq_true hp6) rfl rfl (oEq rfl tm (cI (by decide))) (s1 rfl) <| cgB (decide_eq_true hp6) rfl rfl (oMv tm) (s1 rfl) <| cgB (decide_eq_false hp7) rfl rfl (oFldP o123_0 tm) (s1 rfl) <| crgB (decide_eq_false hp7) rfl rfl (oLdB (n := 0) (k := 0) rfl rfl rfl t3 tm) (s1 rfl) <| cgB (decide_eq_false hp7) rfl rfl (oEq rfl tm (cI (by decide))) (s1 rfl) <| cgB (decide_eq_true hp6) rfl rfl (oPkF (decide_eq_false hp7) tm tm) (s2 rfl rfl) <| cp (oPkT (decide_eq_true hp6) tm tm) (s2 rfl rfl) <| cp (oMv tm) (s1 rfl) <| cgB (decide_eq_true hp8) rfl rfl (oFldP o123_1 tm) (s1 rfl) <| crgB (decide_eq_true hp8) rfl rfl (oLdB (n := 0) (k := 1) rfl rfl rfl t9 tm) (s1 rfl) <| cgB (decide_eq_true hp8) rfl rfl (oMv tm) (s1 rfl) <| cgB (decide_eq_true hp8) rfl rfl (oSEq rfl tm tm) (s2 rfl rfl) <| cp (oPkT (decide_eq_true hp8) tm tm) (s2 rfl rfl) <| cp (oAs tm) (s1 rfl) <| .nil) (by kernel_rfl) ?_
          exact pJ1 _ (so h) ⟨rfl, trivial⟩ rfl
        · refine rg (cp (oFld (fs := f_reticentref04_P) (k := 4) rfl o248_4 tm) (s1 rfl) <| cp (oLd t26 tm) (s1 rfl) <| cp (oEq rfl tm (cI (by decide))) (s1 rfl) <| cp (oMv tm) (s1 rfl) <| cgB (decide_eq_true hp6) rfl rfl (oFldP o123_0 tm) (s1 rfl) <| crgB (decide_eq_true hp6) rfl rfl (oLdB (n := 0) (k := 0) rfl rfl rfl t3 tm) (s1 rfl) <| cgB (decide_eq_true hp6) rfl rfl (oEq rfl tm (cI (by decide))) (s1 rfl) <| cgB (decide_eq_true hp6) rfl rfl (oMv tm) (s1 rfl) <| cgB (decide_eq_false hp7) rfl rfl (oFldP o123_0 tm) (s1 rfl) <| crgB (decide_eq_false hp7) rfl rfl (oLdB (n := 0) (k := 0) rfl rfl rfl t3 tm) (s1 rfl) <| cgB (decide_eq_false hp7) rfl rfl (oEq rfl tm (cI (by decide))) (s1 rfl) <| cgB (decide_eq_true hp6) rfl rfl (oPkF (decide_eq_false hp7) tm tm) (s2 rfl rfl) <| cp (oPkT (decide_eq_true hp6) tm tm) (s2 rfl rfl) <| cp (oMv tm) (s1 rfl) <| csB (decide_eq_false hp8) rfl rfl <| csB (decide_eq_false hp8) rfl rfl <| csB (decide_eq_false hp8) rfl rfl <| csB (decide_eq_false hp8) rfl rfl <| cp (oPkF (decide_eq_false hp8) tm cB) (s1 rfl) <| cp (oAs tm) (s1 rfl) <| .nil) (by kernel_rfl) ?_
          exact pJ1 _ (so h) ⟨rfl, trivial⟩ rfl
    · refine rg (cp (oFld (fs := f_reticentref04_P) (k := 4) rfl o248_4 tm) (s1 rfl) <| cp (oLd t26 tm) (s1 rfl) <| cp (oEq rfl tm (cI (by decide))) (s1 rfl) <| cp (oMv tm) (s1 rfl) <| csB (decide_eq_false hp6) rfl rfl <| csB (decide_eq_false hp6) rfl rfl <| csB (decide_eq_false hp6) rfl rfl <| csB (decide_eq_false hp6) rfl rfl <| csU rfl rfl <| csU rfl rfl <| csU rfl rfl <| csB (decide_eq_false hp6) rfl rfl <| cp (oPkF (decide_eq_false hp6) tm cB) (s1 rfl) <| cp (oMv tm) (s1 rfl) <| csB rfl rfl rfl <| csB rfl rfl rfl <| csB rfl rfl rfl <| csB rfl rfl rfl <| cp (oPkF rfl tm cB) (s1 rfl) <| cp (oAs tm) (s1 rfl) <| .nil) (by kernel_rfl) ?_
      exact pJ1 _ (so h) ⟨rfl, trivial⟩ rfl
  · rintro x5 rfl
    replace h := hk1
    refine wRet ?_
    obtain rfl := so h
    exact pR1 (.inl rfl) rfl (.tmp rfl <| .nil)

theorem reticentref04_next.ok {a0 : reticentref04_P} {r : reticentref04_P} (h : reticentref04_next.f a0 = some r) : FnA Tryd.prog 246 [(kR f_reticentref04_P).sig a0] ((kR f_reticentref04_P).sig r) := by
  refine fnIntro Tryd.func246 rfl (by kernel_rfl) fun H0 w0 => ?_
  unfold reticentref04_next.f at h
  refine wSeq ?_
  refine rg (cw (oBoxS (id := 1) (fs := f_reticentref04_P) tm) (s1 rfl) <| cw (oAlloc (id := 2) (ls := [.d (kL (kR f_api_Tok)) [], .d (kI .i64) 0, .d (kL (kI .i64)) [], .d (kI .i64) 0, .d (kI .i64) 0]) ze248 (fun g => ⟨[(.slice none 0 0)], _, rfl, zL g.H, ⟨[(.int .i64 0)], _, rfl, zI_i64 g.H, ⟨[(.slice none 0 0)], _, rfl, zL g.H, ⟨[(.int .i64 0)], _, rfl, zI_i64 g.H, ⟨[(.int .i64 0)], _, rfl, zI_i64 g.H, rfl⟩⟩⟩⟩⟩)) trivial <| .nil) (by kernel_rfl) ?_
  refine pSeq ?_
  refine wSeq ?_
  refine wSeq ?_
  refine rg (cp (oFldP o248_1 tm) (s1 rfl) <| cr (oLdB (n := 1) (k := 1) rfl rfl rfl t3 tm) (s1 rfl) <| cp (oAdd tm (cI (by decide))) (s1 rfl) <| cp (oFldP o248_0 tm) (s1 rfl) <| cr (oLdB (n := 1) (k := 0) rfl rfl rfl t71 tm) (s1 rfl) <| cp (oLenL u71 tm) (s1 rfl) <| cp (oLt rfl tm tm) (s2 rfl rfl) <| .nil) (by kernel_rfl) ?_
  refine pSeq ?_
  rcases ic h with ⟨hp1, h⟩ | ⟨hp1, h⟩
  · refine wCT hp1 tm (s1 rfl) ?_
    refine rg (cp (oFldP o248_1 tm) (s1 rfl) <| cr (oLdB (n := 1) (k := 1) rfl rfl rfl t3 tm) (s1 rfl) <| cp (oAdd tm (cI (by decide))) (s1 rfl) <| cp (oFldP o248_1 tm) (s1 rfl) <| cwn (oSt (n := 1) (k := 1) rfl rfl rfl rfl z3 tm tm) (s2 rfl rfl) <| .nil) (by kernel_rfl) ?_
    refine pSeq ?_
    refine wSeq ?_
    refine rg (cr (oLdA (n := 1) (fs := f_reticentref04_P) (u := ⟨a0.L, IntKind.i64.wrap (a0.I + 1), a0.Out, a0.Deep, a0.E⟩) rfl ⟨rfl, rfl, rfl, rfl, rfl, trivial⟩ t248 tm) (s1 rfl) <| cwn (oStA (n := 0) (fs := f_reticentref04_P) rfl rfl z248 tm tm) (s2 rfl rfl) <| .nil) (by kernel_rfl) ?_
    refine pSeq ?_
    refine wRet ?_
    obtain rfl := so h
    exact pR1 (.inl rfl) rfl (.box (n := 0) (fs := f_reticentref04_P) (u := ⟨a0.L, IntKind.i64.wrap (a0.I + 1), a0.Out, a0.Deep, a0.E⟩) rfl rfl ⟨rfl, rfl, rfl, rfl, rfl, trivial⟩ t248 <| .nil)
  · refine wCF hp1 tm (s1 rfl) ?_
    refine wSkip ?_
    refine pSeq ?_
    refine wSeq ?_
    refine rg (cr (oLdA (n := 1) (fs := f_reticentref04_P) (u := ⟨a0.L, a0.I, a0.Out, a0.Deep, a0.E⟩) rfl ⟨rfl, rfl, rfl, rfl, rfl, trivial⟩ t248 tm) (s1 rfl) <| cwn (oStA (n := 0) (fs := f_reticentref04_P) rfl rfl z248 tm tm) (s2 rfl rfl) <| .nil) (by kernel_rfl) ?_
    refine pSeq ?_
    refine wRet ?_
    obtain rfl := so h
    exact pR1 (.inl rfl) rfl (.box (n := 0) (fs := f_reticentref04_P) (u := ⟨a0.L, a0.I, a0.Out, a0.Deep, a0.E⟩) rfl rfl ⟨rfl, rfl, rfl, rfl, rfl, trivial⟩ t248 <| .nil)

theorem reticentref04_fail.ok {a0 : reticentref04_P} {a1 : Int} {r : reticentref04_P} (h : reticentref04_fail.f a0 a1 = some r) : FnA Tryd.prog 266 [(kR f_reticentref04_P).sig a0, (kI .i64).sig a1] ((kR f_reticentref04_P).sig r) := by
  refine fnIntro Tryd.func266 rfl (by kernel_rfl) fun H0 w0 => ?_
  unfold reticentref04_fail.f at h
  refine wSeq ?_
  refine rg (cw (oBoxS (id := 2) (fs := f_reticentref04_P) tm) (s1 rfl) <| cw (oAlloc (id := 4) (ls := [.d (kL (kR f_api_Tok)) [], .d (kI .i64) 0, .d (kL (kI .i64)) [], .d (kI .i64) 0, .d (kI .i64) 0]) ze248 (fun g => ⟨[(.slice none 0 0)], _, rfl, zL g.H, ⟨[(.int .i64 0)], _, rfl, zI_i64 g.H, ⟨[(.slice none 0 0)], _, rfl, zL g.H, ⟨[(.int .i64 0)], _, rfl, zI_i64 g.H, ⟨[(.int .i64 0)], _, rfl, zI_i64 g.H, rfl⟩⟩⟩⟩⟩)) trivial <| .nil) (by kernel_rfl) ?_
  refine pSeq ?_
  refine wSeq ?_
  refine wSeq ?_
  refine rg (cp (oFldP o248_4 tm) (s1 rfl) <| cr (oLdB (n := 1) (k := 4) rfl rfl rfl t26 tm) (s1 rfl) <| cp (oEq rfl tm (cI (by decide))) (s1 rfl) <| .nil) (by kernel_rfl) ?_
  refine pSeq ?_
  rcases ic h with ⟨hp1, h⟩ | ⟨hp1, h⟩
  · refine wCT hp1 tm (s1 rfl) ?_
    refine rg (cp (oMv tm) (s1 rfl) <| cp (oFldP o248_4 tm) (s1 rfl) <| cwn (oSt (n := 1) (k := 4) rfl rfl rfl rfl z26 tm tm) (s2 rfl rfl) <| .nil) (by kernel_rfl) ?_
    refine pSeq ?_
    refine wSeq ?_
    refine rg (cr (oLdA (n := 1) (fs := f_reticentref04_P) (u := ⟨a0.L, a0.I, a0.Out, a0.Deep, a1⟩) rfl ⟨rfl, rfl, rfl, rfl, rfl, trivial⟩ t248 tm) (s1 rfl) <| cwn (oStA (n := 0) (fs := f_reticentref04_P) rfl rfl z248 tm tm) (s2 rfl rfl) <| .nil) (by kernel_rfl) ?_
    refine pSeq ?_
    refine wRet ?_
    obtain rfl := so h
    exact pR1 (.inl rfl) rfl (.box (n := 0) (fs := f_reticentref04_P) (u := ⟨a0.L, a0.I, a0.Out, a0.Deep, a1⟩) rfl rfl ⟨rfl, rfl, rfl, rfl, rfl, trivial⟩ t248 <| .nil)
  · refine wCF hp1 tm (s1 rfl) ?_
    refine wSkip ?_
    refine pSeq ?_
    refine wSeq ?_
    refine rg (cr (oLdA (n := 1) (fs := f_reticentref04_P) (u := ⟨a0.L, a0.I, a0.Out, a0.Deep, a0.E⟩) rfl ⟨rfl, rfl, rfl, rfl, rfl, trivial⟩ t248 tm) (s1 rfl) <| cwn (oStA (n := 0) (fs := f_reticentref04_P) rfl rfl z248 tm tm) (s2 rfl rfl) <| .nil) (by kernel_rfl) ?_
    refine pSeq ?_
    refine wRet ?_
    obtain rfl := so h
    exact pR1 (.inl rfl) rfl (.box (n := 0) (fs := f_reticentref04_P) (u := ⟨a0.L, a0.I, a0.Out, a0.Deep, a0.E⟩) rfl rfl ⟨rfl, rfl, rfl, rfl, rfl, trivial⟩ t248 <| .nil)

theorem reticentref04_put.ok {a0 : reticentref04_P} {a1 : Int} {r : reticentref04_P} (h : reticentref04_put.f a0 a1 = some r) : FnA Tryd.prog 247 [(kR f_reticentref04_P).sig a0, (kI .i64).sig a1] ((kR f_reticentref04_P).sig r) := by
  refine fnIntro Tryd.func247 rfl (by kernel_rfl) fun H0 w0 => ?_
  unfold reticentref04_put.f at h
  refine wSeq ?_
  refine rg (cw (oBoxS (id := 2) (fs := f_reticentref04_P) tm) (s1 rfl) <| cw (oAlloc (id := 4) (ls := [.d (kL (kR f_api_Tok)) [], .d (kI .i64) 0, .d (kL (kI .i64)) [], .d (kI .i64) 0, .d (kI .i64) 0]) ze248 (fun g => ⟨[(.slice none 0 0)], _, rfl, zL g.H, ⟨[(.int .i64 0)], _, rfl, zI_i64 g.H, ⟨[(.slice none 0 0)], _, rfl, zL g.H, ⟨[(.int .i64 0)], _, rfl, zI_i64 g.H, ⟨[(.int .i64 0)], _, rfl, zI_i64 g.H, rfl⟩⟩⟩⟩⟩)) trivial <| .nil) (by kernel_rfl) ?_
  refine pSeq ?_
  refine wSeq ?_
  refine wSeq ?_
  refine rg (cp (oFldP o248_4 tm) (s1 rfl) <| cr (oLdB (n := 1) (k := 4) rfl rfl rfl t26 tm) (s1 rfl) <| cp (oNe rfl tm (cI (by decide))) (s1 rfl) <| .nil) (by kernel_rfl) ?_
  refine pSeq ?_
  rcases ic h with ⟨hp1, h⟩ | ⟨hp1, h⟩
  · refine wNT hp1 tm (s1 rfl) ?_
    refine wSkip ?_
    refine pSeq ?_
    refine wSeq ?_
    refine wSeq ?_
    refine rg (cp (oFldP o248_2 tm) (s1 rfl) <| cr (oLdB (n := 1) (k := 2) rfl rfl rfl t85 tm) (s1 rfl) <| cp (oLenL u85 tm) (s1 rfl) <| cp (oEq rfl tm (cI (by decide))) (s1 rfl) <| .nil) (by kernel_rfl) ?_
    refine pSeq ?_
    rcases ic h with ⟨hp2, h⟩ | ⟨hp2, h⟩
    · refine wCT hp2 tm (s1 rfl) ?_
      refine wSeq ?_
      obtain ⟨y3, hy3, h⟩ := bd h
      refine rg (cr (oLdA (n := 1) (fs := f_reticentref04_P) (u := ⟨a0.L, a0.I, a0.Out, a0.Deep, a0.E⟩) rfl ⟨rfl, rfl, rfl, rfl, rfl, trivial⟩ t248 tm) (s1 rfl) <| cp (oCall rfl (reticentref04_fail.ok hy3) b266 (opds_cons tm (opds_cons (cI (by decide)) opds_nil))) (s1 rfl) <| cwn (oStA (n := 0) (fs := f_reticentref04_P) rfl rfl z248 tm tm) (s2 rfl rfl) <| .nil) (by kernel_rfl) ?_
      refine pSeq ?_
      refine wRet ?_
      refine pThenR ?_
      obtain rfl := so h
      exact pR1 (.inl rfl) rfl (.box (n := 0) (fs := f_reticentref04_P) (u := ⟨y3.L, y3.I, y3.Out, y3.Deep, y3.E⟩) rfl rfl ⟨rfl, rfl, rfl, rfl, rfl, trivial⟩ t248 <| .nil)
    · refine wCF hp2 tm (s1 rfl) ?_
      refine wSkip ?_
      refine pSeq ?_
      refine wSeq ?_
      refine rg (cw (oLitR (id := 16) (d := (kI .i64)) el85 (by decide) rfl rfl rfl e0) trivial <| cp (oAs tm) (s1 rfl) <| .nil) (by kernel_rfl) ?_
      refine pSeq ?_
      refine wSeq ?_
      obtain ⟨hc4, h⟩ := ib h
      refine rg (cp (oMv tm) (s1 rfl) <| cp (oFldP o248_2 tm) (s1 rfl) <| cr (oLdB (n := 2) (k := 2) rfl rfl rfl t85 tm) (s1 rfl) <| cw (oApp (n := 0) (id' := 20) el85 (by decide) rfl (by decide) hc4 tm tm) (s2 rfl rfl) <| cp (oAs tm) (s1 rfl) <| .nil) (by kernel_rfl) ?_
      refine pSeq ?_
      refine wSeq ?_
      obtain ⟨hc5, h⟩ := ib h
      refine rg (cp (oMv tm) (s1 rfl) <| cp (oMv tm) (s1 rfl) <| cp (oLit (d := (kI .i64)) el85 (by decide) rfl rfl rfl (e1 tm e0)) (s1 rfl) <| cw (oApp (n := 0) (id' := 24) el85 (by decide) rfl (by decide) hc5 tm tm) (s2 rfl rfl) <| cp (oAs tm) (s1 rfl) <| .nil) (by kernel_rfl) ?_
      refine pSeq ?_
      refine wSeq ?_
      refine rg (cp (oMv tm) (s1 rfl) <| cp (oFldP o248_2 tm) (s1 rfl) <| cwn (oStN (n := 2) (m := 0) (k := 2) rfl rfl rfl rfl z85 rfl tm tm) (s2 rfl rfl) <| .nil) (by kernel_rfl) ?_
      refine pSeq ?_
      refine wSeq ?_
      refine wFrzR (n := 0) (id := 24) [5, 24, 25] rfl rfl ⟨rfl, rfl, rfl, trivial⟩ ?_
      refine rg (cr (oLdA (n := 1) (fs := f_reticentref04_P) (u := ⟨a0.L, a0.I, (([] : List Int) ++ a0.Out) ++ ([a1] : List Int), a0.Deep, a0.E⟩) rfl ⟨rfl, rfl, rfl, rfl, rfl, trivial⟩ t248 tm) (s1 rfl) <| cwn (oStA (n := 0) (fs := f_reticentref04_P) rfl rfl z248 tm tm) (s2 rfl rfl) <| .nil) (by kernel_rfl) ?_
      refine pSeq ?_
      refine wRet ?_
      obtain rfl := so h
      exact pR1 (.inl rfl) rfl (.box (n := 0) (fs := f_reticentref04_P) (u := ⟨a0.L, a0.I, (([] : List Int) ++ a0.Out) ++ ([a1] : List Int), a0.Deep, a0.E⟩) rfl rfl ⟨rfl, rfl, rfl, rfl, rfl, trivial⟩ t248 <| .nil)
  · refine wNF hp1 tm (s1 rfl) ?_
    refine wSeq ?_
    refine rg (cr (oLdA (n := 1) (fs := f_reticentref04_P) (u := ⟨a0.L, a0.I, a0.Out, a0.Deep, a0.E⟩) rfl ⟨rfl, rfl, rfl, rfl, rfl, trivial⟩ t248 tm) (s1 rfl) <| cwn (oStA (n := 0) (fs := f_reticentref04_P) rfl rfl z248 tm tm) (s2 rfl rfl) <| .nil) (by kernel_rfl) ?_
    refine pSeq ?_
    refine wRet ?_
    refine pThenR ?_
    obtain rfl := so h
    exact pR1 (.inl rfl) rfl (.box (n := 0) (fs := f_reticentref04_P) (u := ⟨a0.L, a0.I, a0.Out, a0.Deep, a0.E⟩) rfl rfl ⟨rfl, rfl, rfl, rfl, rfl, trivial⟩ t248 <| .nil)

theorem reticentref04_must.ok {a0 : reticentref04_P} {a1 : Str} {r : reticentref04_P} (h : reticentref04_must.f a0 a1 = some r) : FnA Tryd.prog 275 [(kR f_reticentref04_P).sig a0, kS.sig a1] ((kR f_reticentref04_P).sig r) := by
  refine fnIntro Tryd.func275 rfl (by kernel_rfl) fun H0 w0 => ?_
  unfold reticentref04_must.f at h
  refine wSeq ?_
  refine rg (cp (oBox tm) (s1 rfl) <| cw (oAlloc (id := 4) (ls := [.d (kL (kR f_api_Tok)) [], .d (kI .i64) 0, .d (kL (kI .i64)) [], .d (kI .i64) 0, .d (kI .i64) 0]) ze248 (fun g => ⟨[(.slice none 0 0)], _, rfl, zL g.H, ⟨[(.int .i64 0)], _, rfl, zI_i64 g.H, ⟨[(.slice none 0 0)], _, rfl, zL g.H, ⟨[(.int .i64 0)], _, rfl, zI_i64 g.H, ⟨[(.int .i64 0)], _, rfl, zI_i64 g.H, rfl⟩⟩⟩⟩⟩)) trivial <| .nil) (by kernel_rfl) ?_
  refine pSeq ?_
  refine wSeq ?_
  refine wSeq ?_
  refine rg (cp (oFld (fs := f_reticentref04_P) (k := 4) rfl o248_4 tm) (s1 rfl) <| cp (oLd t26 tm) (s1 rfl) <| cp (oNe rfl tm (cI (by decide))) (s1 rfl) <| .nil) (by kernel_rfl) ?_
  refine pSeq ?_
  rcases ic h with ⟨hp1, h⟩ | ⟨hp1, h⟩
  · refine wNT hp1 tm (s1 rfl) ?_
    refine wSkip ?_
    refine pSeq ?_
    refine wSeq ?_
    refine wSeq ?_
    obtain ⟨y2, hy2, h⟩ := bd h
    refine rg (cp (oLd t248 tm) (s1 rfl) <| cp (oMv tm) (s1 rfl) <| cp (oCall rfl (reticentref04_here.ok hy2) b245 (opds_cons tm (opds_cons tm opds_nil))) (s2 rfl rfl) <| cp (oNot tm) (s1 rfl) <| .nil) (by kernel_rfl) ?_
    refine pSeq ?_
    rcases ic h with ⟨hp3, h⟩ | ⟨hp3, h⟩
    · refine wBT hp3 tm (s1 rfl) ?_
      refine wSeq ?_
      obtain ⟨y4, hy4, h⟩ := bd h
      refine rg (cp (oLd t248 tm) (s1 rfl) <| cp (oCall rfl (reticentref04_fail.ok hy4) b266 (opds_cons tm (opds_cons (cI (by decide)) opds_nil))) (s1 rfl) <| cwn (oStA (n := 0) (fs := f_reticentref04_P) rfl rfl z248 tm tm) (s2 rfl rfl) <| .nil) (by kernel_rfl) ?_
      refine pSeq ?_
      refine wRet ?_
      refine pThenR ?_
      obtain rfl := so h
      exact pR1 (.inl rfl) rfl (.box (n := 0) (fs := f_reticentref04_P) (u := ⟨y4.L, y4.I, y4.Out, y4.Deep, y4.E⟩) rfl rfl ⟨rfl, rfl, rfl, rfl, rfl, trivial⟩ t248 <| .nil)
    · refine wBF hp3 tm (s1 rfl) ?_
      refine wSkip ?_
      refine pSeq ?_
      refine wSeq ?_
      obtain ⟨y5, hy5, h⟩ := bd h
      refine rg (cp (oLd t248 tm) (s1 rfl) <| cp (oCall rfl (reticentref04_next.ok hy5) b246 (opds_cons tm opds_nil)) (s1 rfl) <| cwn (oStA (n := 0) (fs := f_reticentref04_P) rfl rfl z248 tm tm) (s2 rfl rfl) <| .nil) (by kernel_rfl) ?_
      refine pSeq ?_
      refine wRet ?_
      obtain rfl := so h
      exact pR1 (.inl rfl) rfl (.box (n := 0) (fs := f_reticentref04_P) (u := ⟨y5.L, y5.I, y5.Out, y5.Deep, y5.E⟩) rfl rfl ⟨rfl, rfl, rfl, rfl, rfl, trivial⟩ t248 <| .nil)
  · refine wNF hp1 tm (s1 rfl) ?_
    refine wSeq ?_
    refine rg (cp (oLd t248 tm) (s1 rfl) <| cwn (oStA (n := 0) (fs := f_reticentref04_P) rfl rfl z248 tm tm) (s2 rfl rfl) <| .nil) (by kernel_rfl) ?_
    refine pSeq ?_
    refine wRet ?_
    refine pThenR ?_
    obtain rfl := so h
    exact pR1 (.inl rfl) rfl (.box (n := 0) (fs := f_reticentref04_P) (u := ⟨a0.L, a0.I, a0.Out, a0.Deep, a0.E⟩) rfl rfl ⟨rfl, rfl, rfl, rfl, rfl, trivial⟩ t248 <| .nil)

theorem reticentref04_inside.ok {rc218 : reticentref04_P → Int → Option reticentref04_P} (hrc218 : ∀ {a0 : reticentref04_P} {a1 : Int} {r : reticentref04_P}, rc218 a0 a1 = some r → FnS Tryd.prog 218 [.d ((kR f_reticentref04_P).sig a0), .d ((kI .i64).sig a1)] [] [] (.d ((kR f_reticentref04_P).sig r)) []) {a0 : reticentref04_P} {a1 : Int} {a2 : Str} {r : reticentref04_P} (h : reticentref04_inside.f rc218 a0 a1 a2 = some r) : FnS Tryd.prog 274 [.d ((kR f_reticentref04_P).sig a0), .d ((kI .i64).sig a1), .d (kS.sig a2)] [] [] (.d ((kR f_reticentref04_P).sig r)) [] := by
  refine fnIntroS Tryd.func274 rfl (by kernel_rfl) fun X H0 w0 pv => ?_
  unfold reticentref04_inside.f at h
  refine wSeq ?_
  refine rg (cw (oBoxS (id := 3) (fs := f_reticentref04_P) tm) (s1 rfl) <| cw (oAlloc (id := 6) (ls := [.d (kL (kR f_api_Tok)) [], .d (kI .i64) 0, .d (kL (kI .i64)) [], .d (kI .i64) 0, .d (kI .i64) 0]) ze248 (fun g => ⟨[(.slice none 0 0)], _, rfl, zL g.H, ⟨[(.int .i64 0)], _, rfl, zI_i64 g.H, ⟨[(.slice none 0 0)], _, rfl, zL g.H, ⟨[(.int .i64 0)], _, rfl, zI_i64 g.H, ⟨[(.int .i64 0)], _, rfl, zI_i64 g.H, rfl⟩⟩⟩⟩⟩)) trivial <| .nil) (by kernel_rfl) ?_
  refine pSeq ?_
  refine wSeq ?_
  refine wSeq ?_
  refine rg (cp (oFldP o248_3 tm) (s1 rfl) <| cr (oLdB (n := 1) (k := 3) rfl rfl rfl t3 tm) (s1 rfl) <| cp (oEq rfl tm (cI (by decide))) (s1 rfl) <| .nil) (by kernel_rfl) ?_
  refine pSeq ?_
  rcases ic h with ⟨hp1, h⟩ | ⟨hp1, h⟩
  · refine wCT hp1 tm (s1 rfl) ?_
    refine wSeq ?_
    obtain ⟨y2, hy2, h⟩ := bd h
    refine rg (cr (oLdA (n := 1) (fs := f_reticentref04_P) (u := ⟨a0.L, a0.I, a0.Out, a0.Deep, a0.E⟩) rfl ⟨rfl, rfl, rfl, rfl, rfl, trivial⟩ t248 tm) (s1 rfl) <| cp (oCall rfl (reticentref04_fail.ok hy2) b266 (opds_cons tm (opds_cons (cI (by decide)) opds_nil))) (s1 rfl) <| cwn (oStA (n := 0) (fs := f_reticentref04_P) rfl rfl z248 tm tm) (s2 rfl rfl) <| .nil) (by kernel_rfl) ?_
    refine pSeq ?_
    refine wRet ?_
    refine pThenR ?_
    obtain rfl := so h
    exact pS1 [] rfl rfl (.inl rfl) rfl (.box (n := 0) (fs := f_reticentref04_P) (u := ⟨y2.L, y2.I, y2.Out, y2.Deep, y2.E⟩) rfl rfl ⟨rfl, rfl, rfl, rfl, rfl, trivial⟩ t248 <| .nil)
  · refine wCF hp1 tm (s1 rfl) ?_
    refine wSkip ?_
    refine pSeq ?_
    refine wSeq ?_
    obtain ⟨y3, hy3, h⟩ := bd h
    refine rg (cr (oLdA (n := 1) (fs := f_reticentref04_P) (u := ⟨a0.L, a0.I, a0.Out, a0.Deep, a0.E⟩) rfl ⟨rfl, rfl, rfl, rfl, rfl, trivial⟩ t248 tm) (s1 rfl) <| cp (oCall rfl (reticentref04_next.ok hy3) b246 (opds_cons tm opds_nil)) (s1 rfl) <| cwn (oStA (n := 1) (fs := f_reticentref04_P) rfl rfl z248 tm tm) (s2 rfl rfl) <| .nil) (by kernel_rfl) ?_
    refine pSeq ?_
    refine wSeq ?_
    refine rg (cp (oFldP o248_3 tm) (s1 rfl) <| cr (oLdB (n := 1) (k := 3) rfl rfl rfl t3 tm) (s1 rfl) <| cp (oAdd tm (cI (by decide))) (s1 rfl) <| cp (oFldP o248_3 tm) (s1 rfl) <| cwn (oSt (n := 1) (k := 3) rfl rfl rfl rfl z3 tm tm) (s2 rfl rfl) <| .nil) (by kernel_rfl) ?_
    refine pSeq ?_
    refine wSeq ?_
    obtain ⟨y4, hy4, h⟩ := bd h
    refine rg (cr (oLdA (n := 1) (fs := f_reticentref04_P) (u := ⟨y3.L, y3.I, y3.Out, IntKind.i64.wrap (y3.Deep + 1), y3.E⟩) rfl ⟨rfl, rfl, rfl, rfl, rfl, trivial⟩ t248 tm) (s1 rfl) <| cp (oMv tm) (s1 rfl) <| cm (oCallS (rest := [.box 6 248 [.d (kL (kR f_api_Tok)) [], .d (kI .i64) 0, .d (kL (kI .i64)) [], .d (kI .i64) 0, .d (kI .i64) 0], .box 3 248 [.d (kL (kR f_api_Tok)) y3.L, .d (kI .i64) y3.I, .d (kL (kI .i64)) y3.Out, .d (kI .i64) (IntKind.i64.wrap (y3.Deep + 1)), .d (kI .i64) y3.E]]) (R' := [.box 6 248 [.d (kL (kR f_api_Tok)) [], .d (kI .i64) 0, .d (kL (kI .i64)) [], .d (kI .i64) 0, .d (kI .i64) 0], .box 3 248 [.d (kL (kR f_api_Tok)) y3.L, .d (kI .i64) y3.I, .d (kL (kI .i64)) y3.Out, .d (kI .i64) (IntKind.i64.wrap (y3.Deep + 1)), .d (kI .i64) y3.E]]) (out' := .d ((kR f_reticentref04_P).sig y4)) [] [] [] [0, 1] [0, 1] rfl (hrc218 hy4) b218 (oE1 tm (oE1 tm oE0)) rfl rfl rfl rfl rfl rfl rfl rfl) (s2 rfl rfl) <| cwn (oStA (n := 1) (fs := f_reticentref04_P) rfl rfl z248 tm tm) (s2 rfl rfl) <| .nil) (by kernel_rfl) ?_
    refine pSeq ?_
    refine wSeq ?_
    refine rg (cp (oFldP o248_3 tm) (s1 rfl) <| cr (oLdB (n := 1) (k := 3) rfl rfl rfl t3 tm) (s1 rfl) <| cp (oSub tm (cI (by decide))) (s1 rfl) <| cp (oFldP o248_3 tm) (s1 rfl) <| cwn (oSt (n := 1) (k := 3) rfl rfl rfl rfl z3 tm tm) (s2 rfl rfl) <| .nil) (by kernel_rfl) ?_
    refine pSeq ?_
    refine wSeq ?_
    obtain ⟨y5, hy5, h⟩ := bd h
    refine rg (cr (oLdA (n := 1) (fs := f_reticentref04_P) (u := ⟨y4.L, y4.I, y4.Out, IntKind.i64.wrap (y4.Deep - 1), y4.E⟩) rfl ⟨rfl, rfl, rfl, rfl, rfl, trivial⟩ t248 tm) (s1 rfl) <| cp (oMv tm) (s1 rfl) <| cp (oCall rfl (reticentref04_must.ok hy5) b275 (opds_cons tm (opds_cons tm opds_nil))) (s2 rfl rfl) <| cwn (oStA (n := 0) (fs := f_reticentref04_P) rfl rfl z248 tm tm) (s2 rfl rfl) <| .nil) (by kernel_rfl) ?_
    refine pSeq ?_
    refine wRet ?_
    obtain rfl := so h
    exact pS1 [] rfl rfl (.inl rfl) rfl (.box (n := 0) (fs := f_reticentref04_P) (u := ⟨y5.L, y5.I, y5.Out, y5.Deep, y5.E⟩) rfl rfl ⟨rfl, rfl, rfl, rfl, rfl, trivial⟩ t248 <| .nil)

theorem reticentref04_prim.ok {rc218 : reticentref04_P → Int → Option reticentref04_P} (hrc218 : ∀ {a0 : reticentref04_P} {a1 : Int} {r : reticentref04_P}, rc218 a0 a1 = some r → FnS Tryd.prog 218 [.d ((kR f_reticentref04_P).sig a0), .d ((kI .i64).sig a1)] [] [] (.d ((kR f_reticentref04_P).sig r)) []) {a0 : reticentref04_P} {r : reticentref04_P} (h : reticentref04_prim.f rc218 a0 = some r) : FnS Tryd.prog 264 [.d ((kR f_reticentref04_P).sig a0)] [] [] (.d ((kR f_reticentref04_P).sig r)) [] := by
  refine fnIntroS Tryd.func264 rfl (by kernel_rfl) fun X H0 w0 pv => ?_
  unfold reticentref04_prim.f at h
  refine wSeq ?_
  refine rg (cw (oBoxS (id := 1) (fs := f_reticentref04_P) tm) (s1 rfl) <| cw (oAlloc (id := 2) (ls := [.d (kL (kR f_api_Tok)) [], .d (kI .i64) 0, .d (kL (kI .i64)) [], .d (kI .i64) 0, .d (kI .i64) 0]) ze248 (fun g => ⟨[(.slice none 0 0)], _, rfl, zL g.H, ⟨[(.int .i64 0)], _, rfl, zI_i64 g.H, ⟨[(.slice none 0 0)], _, rfl, zL g.H, ⟨[(.int .i64 0)], _, rfl, zI_i64 g.H, ⟨[(.int .i64 0)], _, rfl, zI_i64 g.H, rfl⟩⟩⟩⟩⟩)) trivial <| .nil) (by kernel_rfl) ?_
  refine pSeq ?_
  refine wSeq ?_
  refine wSeq ?_
  obtain ⟨y1, hy1, h⟩ := bd h
  refine rg (cr (oLdA (n := 1) (fs := f_reticentref04_P) (u := ⟨a0.L, a0.I, a0.Out, a0.Deep, a0.E⟩) rfl ⟨rfl, rfl, rfl, rfl, rfl, trivial⟩ t248 tm) (s1 rfl) <| cp (oCall rfl (reticentref04_here.ok hy1) b245 (opds_cons tm (opds_cons (cS (by decide)) opds_nil))) (s1 rfl) <| .nil) (by kernel_rfl) ?_
  refine pSeq ?_
  rcases ic h with ⟨hp2, h⟩ | ⟨hp2, h⟩
  · refine wBT hp2 tm (s1 rfl) ?_
    refine wSeq ?_
    obtain ⟨y3, hy3, h⟩ := bd h
    obtain ⟨y4, hy4, h⟩ := bd h
    refine rg (cr (oLdA (n := 1) (fs := f_reticentref04_P) (u := ⟨a0.L, a0.I, a0.Out, a0.Deep, a0.E⟩) rfl ⟨rfl, rfl, rfl, rfl, rfl, trivial⟩ t248 tm) (s1 rfl) <| cp (oCall rfl (reticentref04_next.ok hy3) b246 (opds_cons tm opds_nil)) (s1 rfl) <| cp (oCall rfl (reticentref04_put.ok hy4) b247 (opds_cons tm (opds_cons (cI (by decide)) opds_nil))) (s1 rfl) <| cwn (oStA (n := 0) (fs := f_reticentref04_P) rfl rfl z248 tm tm) (s2 rfl rfl) <| .nil) (by kernel_rfl) ?_
    refine pSeq ?_
    refine wRet ?_
    refine pThenR ?_
    obtain rfl := so h
    exact pS1 [] rfl rfl (.inl rfl) rfl (.box (n := 0) (fs := f_reticentref04_P) (u := ⟨y4.L, y4.I, y4.Out, y4.Deep, y4.E⟩) rfl rfl ⟨rfl, rfl, rfl, rfl, rfl, trivial⟩ t248 <| .nil)
  · refine wBF hp2 tm (s1 rfl) ?_
    refine wSkip ?_
    refine pSeq ?_
    refine wSeq ?_
    refine wSeq ?_
    obtain ⟨y5, hy5, h⟩ := bd h
    refine rg (cr (oLdA (n := 1) (fs := f_reticentref04_P) (u := ⟨a0.L, a0.I, a0.Out, a0.Deep, a0.E⟩) rfl ⟨rfl, rfl, rfl, rfl, rfl, trivial⟩ t248 tm) (s1 rfl) <| cp (oCall rfl (reticentref04_here.ok hy5) b245 (opds_cons tm (opds_cons (cS (by decide)) opds_nil))) (s1 rfl) <| .nil) (by kernel_rfl) ?_
    refine pSeq ?_
    rcases ic h with ⟨hp6, h⟩ | ⟨hp6, h⟩
    · refine wBT hp6 tm (s1 rfl) ?_
      refine wSeq ?_
      obtain ⟨y7, hy7, h⟩ := bd h
      obtain ⟨y8, hy8, h⟩ := bd h
      refine rg (cr (oLdA (n := 1) (fs := f_reticentref04_P) (u := ⟨a0.L, a0.I, a0.Out, a0.Deep, a0.E⟩) rfl ⟨rfl, rfl, rfl, rfl, rfl, trivial⟩ t248 tm) (s1 rfl) <| cp (oCall rfl (reticentref04_next.ok hy7) b246 (opds_cons tm opds_nil)) (s1 rfl) <| cp (oCall rfl (reticentref04_put.ok hy8) b247 (opds_cons tm (opds_cons (cI (by decide)) opds_nil))) (s1 rfl) <| cwn (oStA (n := 0) (fs := f_reticentref04_P) rfl rfl z248 tm tm) (s2 rfl rfl) <| .nil) (by kernel_rfl) ?_
      refine pSeq ?_
      refine wRet ?_
      refine pThenR ?_
      obtain rfl := so h
      exact pS1 [] rfl rfl (.inl rfl) rfl (.box (n := 0) (fs := f_reticentref04_P) (u := ⟨y8.L, y8.I, y8.Out, y8.Deep, y8.E⟩) rfl rfl ⟨rfl, rfl, rfl, rfl, rfl, trivial⟩ t248 <| .nil)
    · refine wBF hp6 tm (s1 rfl) ?_
      refine wSkip ?_
      refine pSeq ?_
      refine wSeq ?_
      refine wSeq ?_
      obtain ⟨y9, hy9, h⟩ := bd h
      refine rg (cr (oLdA (n := 1) (fs := f_reticentref04_P) (u := ⟨a0.L, a0.I, a0.Out, a0.Deep, a0.E⟩) rfl ⟨rfl, rfl, rfl, rfl, rfl, trivial⟩ t248 tm) (s1 rfl) <| cp (oCall rfl (reticentref04_here.ok hy9) b245 (opds_cons tm (opds_cons (cS (by decide)) opds_nil))) (s1 rfl) <| .nil) (by kernel_rfl) ?_
      refine pSeq ?_
      rcases ic h with ⟨hp10, h⟩ | ⟨hp10, h⟩
      · refine wBT hp10 tm (s1 rfl) ?_
        refine wSeq ?_
        obtain ⟨y11, hy11, h⟩ := bd h
        refine rg (cr (oLdA (n := 1) (fs := f_reticentref04_P) (u := ⟨a0.L, a0.I, a0.Out, a0.Deep, a0.E⟩) rfl ⟨rfl, rfl, rfl, rfl, rfl, trivial⟩ t248 tm) (s1 rfl) <| cm (oCallS (rest := [.box 2 248 [.d (kL (kR f_api_Tok)) [], .d (kI .i64) 0, .d (kL (kI .i64)) [], .d (kI .i64) 0, .d (kI .i64) 0], .box 1 248 [.d (kL (kR f_api_Tok)) a0.L, .d (kI .i64) a0.I, .d (kL (kI .i64)) a0.Out, .d (kI .i64) a0.Deep, .d (kI .i64) a0.E]]) (R' := [.box 2 248 [.d (kL (kR f_api_Tok)) [], .d (kI .i64) 0, .d (kL (kI .i64)) [], .d (kI .i64) 0, .d (kI .i64) 0], .box 1 248 [.d (kL (kR f_api_Tok)) a0.L, .d (kI .i64) a0.I, .d (kL (kI .i64)) a0.Out, .d (kI .i64) a0.Deep, .d (kI .i64) a0.E]]) (out' := .d ((kR f_reticentref04_P).sig y11)) [] [] [] [0, 1] [0, 1] rfl (reticentref04_inside.ok hrc218 hy11) b274 (oE1 tm (oE1 (cI (by decide)) (oE1 (cS (by decide)) oE0))) rfl rfl rfl rfl rfl rfl rfl rfl) (s1 rfl) <| cwn (oStA (n := 0) (fs := f_reticentref04_P) rfl rfl z248 tm tm) (s2 rfl rfl) <| .nil) (by kernel_rfl) ?_
        refine pSeq ?_
        refine wRet ?_
        refine pThenR ?_
        obtain rfl := so h
        exact pS1 [] rfl rfl (.inl rfl) rfl (.box (n := 0) (fs := f_reticentref04_P) (u := ⟨y11.L, y11.I, y11.Out, y11.Deep, y11.E⟩) rfl rfl ⟨rfl, rfl, rfl, rfl, rfl, trivial⟩ t248 <| .nil)
      · refine wBF hp10 tm (s1 rfl) ?_
        refine wSkip ?_
        refine pSeq ?_
        refine wSeq ?_
        obtain ⟨y12, hy12, h⟩ := bd h
        obtain ⟨y13, hy13, h⟩ := bd h
        refine rg (cr (oLdA (n := 1) (fs := f_reticentref04_P) (u := ⟨a0.L, a0.I, a0.Out, a0.Deep, a0.E⟩) rfl ⟨rfl, rfl, rfl, rfl, rfl, trivial⟩ t248 tm) (s1 rfl) <| cm (oCallS (rest := [.box 2 248 [.d (kL (kR f_api_Tok)) [], .d (kI .i64) 0, .d (kL (kI .i64)) [], .d (kI .i64) 0, .d (kI .i64) 0], .box 1 248 [.d (kL (kR f_api_Tok)) a0.L, .d (kI .i64) a0.I, .d (kL (kI .i64)) a0.Out, .d (kI .i64) a0.Deep, .d (kI .i64) a0.E]]) (R' := [.box 2 248 [.d (kL (kR f_api_Tok)) [], .d (kI .i64) 0, .d (kL (kI .i64)) [], .d (kI .i64) 0, .d (kI .i64) 0], .box 1 248 [.d (kL (kR f_api_Tok)) a0.L, .d (kI .i64) a0.I, .d (kL (kI .i64)) a0.Out, .d (kI .i64) a0.Deep, .d (kI .i64) a0.E]]) (out' := .d ((kR f_reticentref04_P).sig y12)) [] [] [] [0, 1] [0, 1] rfl (hrc218 hy12) b218 (oE1 tm (oE1 (cI (by decide)) oE0)) rfl rfl rfl rfl rfl rfl rfl rfl) (s1 rfl) <| cp (oCall rfl (reticentref04_must.ok hy13) b275 (opds_cons tm (opds_cons (cS (by decide)) opds_nil))) (s1 rfl) <| cwn (oStA (n := 1) (fs := f_reticentref04_P) rfl rfl z248 tm tm) (s2 rfl rfl) <| .nil) (by kernel_rfl) ?_
        refine pSeq ?_
        refine wSeq ?_
        obtain ⟨y14, hy14, h⟩ := bd h
        obtain ⟨y15, hy15, h⟩ := bd h
        refine rg (cr (oLdA (n := 1) (fs := f_reticentref04_P) (u := ⟨y13.L, y13.I, y13.Out, y13.Deep, y13.E⟩) rfl ⟨rfl, rfl, rfl, rfl, rfl, trivial⟩ t248 tm) (s1 rfl) <| cm (oCallS (rest := [.box 2 248 [.d (kL (kR f_api_Tok)) [], .d (kI .i64) 0, .d (kL (kI .i64)) [], .d (kI .i64) 0, .d (kI .i64) 0], .box 1 248 [.d (kL (kR f_api_Tok)) y13.L, .d (kI .i64) y13.I, .d (kL (kI .i64)) y13.Out, .d (kI .i64) y13.Deep, .d (kI .i64) y13.E]]) (R' := [.box 2 248 [.d (kL (kR f_api_Tok)) [], .d (kI .i64) 0, .d (kL (kI .i64)) [], .d (kI .i64) 0, .d (kI .i64) 0], .box 1 248 [.d (kL (kR f_api_Tok)) y13.L, .d (kI .i64) y13.I, .d (kL (kI .i64)) y13.Out, .d (kI .i64) y13.Deep, .d (kI .i64) y13.E]]) (out' := .d ((kR f_reticentref04_P).sig y14)) [] [] [] [0, 1] [0, 1] rfl (hrc218 hy14) b218 (oE1 tm (oE1 (cI (by decide)) oE0)) rfl rfl rfl rfl rfl rfl rfl rfl) (s1 rfl) <| cp (oCall rfl (reticentref04_put.ok hy15) b247 (opds_cons tm (opds_cons (cI (by decide)) opds_nil))) (s1 rfl) <| cwn (oStA (n := 0) (fs := f_reticentref04_P) rfl rfl z248 tm tm) (s2 rfl rfl) <| .nil) (by kernel_rfl) ?_
        refine pSeq ?_
        refine wRet ?_
        obtain rfl := so h
        exact pS1 [] rfl rfl (.inl rfl) rfl (.box (n := 0) (fs := f_reticentref04_P) (u := ⟨y15.L, y15.I, y15.Out, y15.Deep, y15.E⟩) rfl rfl ⟨rfl, rfl, rfl, rfl, rfl, trivial⟩ t248 <| .nil)

theorem reticentref04_atom.ok {rc218 : reticentref04_P → Int → Option reticentref04_P} (hrc218 : ∀ {a0 : reticentref04_P} {a1 : Int} {r : reticentref04_P}, rc218 a0 a1 = some r → FnS Tryd.prog 218 [.d ((kR f_reticentref04_P).sig a0), .d ((kI .i64).sig a1)] [] [] (.d ((kR f_reticentref04_P).sig r)) []) {a0 : reticentref04_P} {r : reticentref04_P} (h : reticentref04_atom.f rc218 a0 = some r) : FnS Tryd.prog 265 [.d ((kR f_reticentref04_P).sig a0)] [] [] (.d ((kR f_reticentref04_P).sig r)) [] := by
  refine fnIntroS Tryd.func265 rfl (by kernel_rfl) fun X H0 w0 pv => ?_
  unfold reticentref04_atom.f at h
  refine wSeq ?_
  refine rg (cp (oBox tm) (s1 rfl) <| cw (oAlloc (id := 2) (ls := [.d (kL (kR f_api_Tok)) [], .d (kI .i64) 0, .d (kL (kI .i64)) [], .d (kI .i64) 0, .d (kI .i64) 0]) ze248 (fun g => ⟨[(.slice none 0 0)], _, rfl, zL g.H, ⟨[(.int .i64 0)], _, rfl, zI_i64 g.H, ⟨[(.slice none 0 0)], _, rfl, zL g.H, ⟨[(.int .i64 0)], _, rfl, zI_i64 g.H, ⟨[(.int .i64 0)], _, rfl, zI_i64 g.H, rfl⟩⟩⟩⟩⟩)) trivial <| .nil) (by kernel_rfl) ?_
  refine pSeq ?_
  refine wSeq ?_
  refine wSeq ?_
  refine rg (cp (oFld (fs := f_reticentref04_P) (k := 4) rfl o248_4 tm) (s1 rfl) <| cp (oLd t26 tm) (s1 rfl) <| cp (oNe rfl tm (cI (by decide))) (s1 rfl) <| .nil) (by kernel_rfl) ?_
  refine pSeq ?_
  rcases ic h with ⟨hp1, h⟩ | ⟨hp1, h⟩
  · refine wNT hp1 tm (s1 rfl) ?_
    refine wSkip ?_
    refine pSeq ?_
    refine wSeq ?_
    refine wSeq ?_
    refine rg (cp (oLit (d := kS) el56 (by decide) rfl rfl rfl (e1 (cS (by decide)) (e1 (cS (by decide)) (e1 (cS (by decide)) (e1 (cS (by decide)) (e1 (cS (by decide)) (e1 (cS (by decide)) e0))))))) trivial <| cp (oLenL u56 tm) (s1 rfl) <| cp (oMv (cI (by decide))) trivial <| .nil) (by kernel_rfl) ?_
    refine pSeq ?_
    obtain ⟨o1, h, hk1⟩ := bd h
    refine wK0 (.inr () = o1) ([(1, .d (sP (kR f_reticentref04_P) a0)), (2, .p 2 0)]) ([.box 2 248 [.d (kL (kR f_api_Tok)) [], .d (kI .i64) 0, .d (kL (kI .i64)) [], .d (kI .i64) 0, .d (kI .i64) 0]]) ?_ ?_
    · refine wBlock (wLoop ?_)
      refine lW (pc1 o1 (fun v26 => [(1, .d (sP (kR f_reticentref04_P) a0)), (2, .p 2 0), (9, .d ((kL kS).sig ([([98, 111, 116] : Str), ([116, 111, 112] : Str), ([112, 99] : Str), ([111, 110, 101] : Str), ([116, 119, 111] : Str), ([116, 104, 114, 101, 101] : Str)] : List Str))), (10, .d ((kI .i64).sig (([([98, 111, 116] : Str), ([116, 111, 112] : Str), ([112, 99] : Str), ([111, 110, 101] : Str), ([116, 119, 111] : Str), ([116, 104, 114, 101, 101] : Str)] : List Str).length : Int))), (11, .d ((kI .i64).sig v26))]) (fun v26 => [.box 2 248 [.d (kL (kR f_api_Tok)) [], .d (kI .i64) 0, .d (kL (kI .i64)) [], .d (kI .i64) 0, .d (kI .i64) 0]]) (reticentref04_atom.l0.partial_correctness a0) ?_ _ h) ⟨rfl, rfl, rfl, rfl, rfl, trivial⟩ rfl
      clear h
      intro f' ih v26 h
      refine wSeq ?_
      refine rg (cp (oLt rfl tm tm) (s2 rfl rfl) <| .nil) (by kernel_rfl) ?_
      refine pSeq ?_
      refine wSeq ?_
      rcases ic h with ⟨hp27, h⟩ | ⟨hp27, h⟩
      · refine wCT hp27 tm (s1 rfl) ?_
        refine wSkip ?_
        refine pSeq ?_
        refine wSeq ?_
        refine wBlock ?_
        refine wSeq ?_
        obtain ⟨y28, hy28, h⟩ := bd h
        refine rg (cp (oMv tm) (s1 rfl) <| cp (oIdx u56 z9 hy28 tm tm) (s2 rfl rfl) <| cp (oLd t9 tm) (s1 rfl) <| cp (oAs tm) (s1 rfl) <| cp (oAs tm) (s1 rfl) <| .nil) (by kernel_rfl) ?_
        refine pSeq ?_
        obtain ⟨o2, h, hk2⟩ := bd h
        refine wJ1 (fun x32 => x32 = o2) (fun x32 => [(1, .d (sP (kR f_reticentref04_P) a0)), (2, .p 2 0), (3, .d ((kI .i64).sig v26)), (9, .d ((kL kS).sig ([([98, 111, 116] : Str), ([116, 111, 112] : Str), ([112, 99] : Str), ([111, 110, 101] : Str), ([116, 119, 111] : Str), ([116, 104, 114, 101, 101] : Str)] : List Str))), (10, .d ((kI .i64).sig (([([98, 111, 116] : Str), ([116, 111, 112] : Str), ([112, 99] : Str), ([111, 110, 101] : Str), ([116, 119, 111] : Str), ([116, 104, 114, 101, 101] : Str)] : List Str).length : Int))), (11, .d ((kI .i64).sig v26)), (34, .d (kB.sig x32))]) (fun x32 => [.box 2 248 [.d (kL (kR f_api_Tok)) [], .d (kI .i64) 0, .d (kL (kI .i64)) [], .d (kI .i64) 0, .d (kI .i64) 0]]) ?_ ?_
        · obtain ⟨y33, hy33, h⟩ := bd h
          rcases ic h with ⟨hp34, h⟩ | ⟨hp34, h⟩
          · obtain ⟨y35, hy35, h⟩ := bd h
            refine rg (cp (oFld (fs := f_reticentref04_P) (k := 0) rfl o248_0 tm) (s1 rfl) <| cp (oLd t71 tm) (s1 rfl) <| cp (oFld (fs := f_reticentref04_P) (k := 1) rfl o248_1 tm) (s1 rfl) <| cp (oLd t3 tm) (s1 rfl) <| cp (oIdx u71 z123 hy33 tm tm) (s2 rfl rfl) <| cp (oFld (fs := f_api_Tok) (k := 0) rfl o123_0 tm) (s1 rfl) <| cp (oLd t3 tm) (s1 rfl) <| cp (oEq rfl tm (cI (by decide))) (s1 rfl) <| cp (oMv tm) (s1 rfl) <| cgB (decide_eq_true hp34) rfl rfl (oFld (fs := f_reticentref04_P) (k := 0) rfl o248_0 tm) (s1 rfl) <| cgB (decide_eq_true hp34) rfl rfl (oLd t71 tm) (s1 rfl) <| cgB (decide_eq_true hp34) rfl rfl (oFld (fs := f_reticentref04_P) (k := 1) rfl o248_1 tm) (s1 rfl) <| cgB (decide_eq_true hp34) rfl rfl (oLd t3 tm) (s1 rfl) <| cgB (decide_eq_true hp34) rfl rfl (oIdx u71 z123 hy35 tm tm) (s2 rfl rfl) <| cgB (decide_eq_true hp34) rfl rfl (oFld (fs := f_api_Tok) (k := 1) rfl o123_1 tm) (s1 rfl) <| cgB (decide_eq_true hp34) rfl rfl (oLd t9 tm) (s1 rfl) <| cgB (decide_eq_true hp34) rfl rfl (oMv tm) (s1 rfl) <| cgB (decide_eq_true hp34) rfl rfl (oSEq rfl tm tm) (s2 rfl rfl) <| cp (oPkT (decide_eq_true hp34) tm tm) (s2 rfl rfl) <| .nil) (by kernel_rfl) ?_
            exact pJ1 _ (so h) ⟨rfl, rfl, rfl, rfl, rfl, rfl, rfl, trivial⟩ rfl
          · refine rg (cp (oFld (fs := f_reticentref04_P) (k := 0) rfl o248_0 tm) (s1 rfl) <| cp (oLd t71 tm) (s1 rfl) <| cp (oFld (fs := f_reticentref04_P) (k := 1) rfl o248_1 tm) (s1 rfl) <| cp (oLd t3 tm) (s1 rfl) <| cp (oIdx u71 z123 hy33 tm tm) (s2 rfl rfl) <| cp (oFld (fs := f_api_Tok) (k := 0) rfl o123_0 tm) (s1 rfl) <| cp (oLd t3 tm) (s1 rfl) <| cp (oEq rfl tm (cI (by decide))) (s1 rfl) <| cp (oMv tm) (s1 rfl) <| csB (decide_eq_false hp34) rfl rfl <| csB (decide_eq_false hp34) rfl rfl <| csB (decide_eq_false hp34) rfl rfl <| csB (decide_eq_false hp34) rfl rfl <| csB (decide_eq_false hp34) rfl rfl <| csB (decide_eq_false hp34) rfl rfl <| csB (decide_eq_false hp34) rfl rfl <| csB (decide_eq_false hp34) rfl rfl <| csB (decide_eq_false hp34) rfl rfl <| cp (oPkF (decide_eq_false hp34) tm cB) (s1 rfl) <| .nil) (by kernel_rfl) ?_
            exact pJ1 _ (so h) ⟨rfl, rfl, rfl, rfl, rfl, rfl, rfl, trivial⟩ rfl
        · rintro x32 rfl
          replace h := hk2
          rcases ic h with ⟨hp36, h⟩ | ⟨hp36, h⟩
          · refine wBT hp36 tm (s1 rfl) ?_
            refine wSeq ?_
            obtain ⟨y37, hy37, h⟩ := bd h
            obtain ⟨y38, hy38, h⟩ := bd h
            refine rg (cp (oLd t248 tm) (s1 rfl) <| cp (oCall rfl (reticentref04_next.ok hy37) b246 (opds_cons tm opds_nil)) (s1 rfl) <| cp (oMv tm) (s1 rfl) <| cp (oAdd (cI (by decide)) tm) (s1 rfl) <| cp (oCall rfl (reticentref04_put.ok hy38) b247 (opds_cons tm (opds_cons tm opds_nil))) (s2 rfl rfl) <| cwn (oStA (n := 0) (fs := f_reticentref04_P) rfl rfl z248 tm tm) (s2 rfl rfl) <| .nil) (by kernel_rfl) ?_
            refine pSeq ?_
            refine wRet ?_
            refine pBlkR ?_
            refine pThenR ?_
            refine pThenR ?_
            refine pBlkR ?_
            refine pThenR ?_
            obtain rfl := so h
            replace h := hk1
            refine pThenR ?_
            obtain rfl := so h
            exact pS1 [] rfl rfl (.inl rfl) rfl (.box (n := 0) (fs := f_reticentref04_P) (u := ⟨y38.L, y38.I, y38.Out, y38.Deep, y38.E⟩) rfl rfl ⟨rfl, rfl, rfl, rfl, rfl, trivial⟩ t248 <| .nil)
          · refine wBF hp36 tm (s1 rfl) ?_
            refine wSkip ?_
            refine pBlkN ?_
            refine pSeq ?_
            refine rg (cp (oAdd tm (cI (by decide))) (s1 rfl) <| cp (oMv tm) (s1 rfl) <| .nil) (by kernel_rfl) ?_
            exact pLoop (lW (ih _ h) ⟨rfl, rfl, rfl, rfl, rfl, trivial⟩ rfl)
      · refine wCF hp27 tm (s1 rfl) ?_
        refine wExit ?_
        refine pThenX ?_
        refine pThenX ?_
        refine pBlkX ?_
        exact pJ0 (so h) ⟨rfl, rfl, trivial⟩ rfl
    · rintro rfl
      replace h := hk1
      refine pSeq ?_
      refine wSeq ?_
      refine wSeq ?_
      obtain ⟨y39, hy39, h⟩ := bd h
      refine rg (cp (oLd t248 tm) (s1 rfl) <| cp (oCall rfl (reticentref04_here.ok hy39) b245 (opds_cons tm (opds_cons (cS (by decide)) opds_nil))) (s1 rfl) <| .nil) (by kernel_rfl) ?_
      refine pSeq ?_
      rcases ic h with ⟨hp40, h⟩ | ⟨hp40, h⟩
      · refine wBT hp40 tm (s1 rfl) ?_
        refine wSeq ?_
        obtain ⟨y41, hy41, h⟩ := bd h
        refine rg (cp (oLd t248 tm) (s1 rfl) <| cm (oCallS (rest := [.box 2 248 [.d (kL (kR f_api_Tok)) [], .d (kI .i64) 0, .d (kL (kI .i64)) [], .d (kI .i64) 0, .d (kI .i64) 0]]) (R' := [.box 2 248 [.d (kL (kR f_api_Tok)) [], .d (kI .i64) 0, .d (kL (kI .i64)) [], .d (kI .i64) 0, .d (kI .i64) 0]]) (out' := .d ((kR f_reticentref04_P).sig y41)) [] [] [] [0] [0] rfl (reticentref04_inside.ok hrc218 hy41) b274 (oE1 tm (oE1 (cI (by decide)) (oE1 (cS (by decide)) oE0))) rfl rfl rfl rfl rfl rfl rfl rfl) (s1 rfl) <| cwn (oStA (n := 0) (fs := f_reticentref04_P) rfl rfl z248 tm tm) (s2 rfl rfl) <| .nil) (by kernel_rfl) ?_
        refine pSeq ?_
        refine wRet ?_
        refine pThenR ?_
        obtain rfl := so h
        exact pS1 [] rfl rfl (.inl rfl) rfl (.box (n := 0) (fs := f_reticentref04_P) (u := ⟨y41.L, y41.I, y41.Out, y41.Deep, y41.E⟩) rfl rfl ⟨rfl, rfl, rfl, rfl, rfl, trivial⟩ t248 <| .nil)
      · refine wBF hp40 tm (s1 rfl) ?_
        refine wSkip ?_
        refine pSeq ?_
        refine wSeq ?_
        obtain ⟨y42, hy42, h⟩ := bd h
        refine rg (cp (oLd t248 tm) (s1 rfl) <| cp (oCall rfl (reticentref04_fail.ok hy42) b266 (opds_cons tm (opds_cons (cI (by decide)) opds_nil))) (s1 rfl) <| cwn (oStA (n := 0) (fs := f_reticentref04_P) rfl rfl z248 tm tm) (s2 rfl rfl) <| .nil) (by kernel_rfl) ?_
        refine pSeq ?_
        refine wRet ?_
        obtain rfl := so h
        exact pS1 [] rfl rfl (.inl rfl) rfl (.box (n := 0) (fs := f_reticentref04_P) (u := ⟨y42.L, y42.I, y42.Out, y42.Deep, y42.E⟩) rfl rfl ⟨rfl, rfl, rfl, rfl, rfl, trivial⟩ t248 <| .nil)
  · refine wNF hp1 tm (s1 rfl) ?_
    refine wSeq ?_
    refine rg (cp (oLd t248 tm) (s1 rfl) <| cwn (oStA (n := 0) (fs := f_reticentref04_P) rfl rfl z248 tm tm) (s2 rfl rfl) <| .nil) (by kernel_rfl) ?_
    refine pSeq ?_
    refine wRet ?_
    refine pThenR ?_
    obtain rfl := so h
    exact pS1 [] rfl rfl (.inl rfl) rfl (.box (n := 0) (fs := f_reticentref04_P) (u := ⟨a0.L, a0.I, a0.Out, a0.Deep, a0.E⟩) rfl rfl ⟨rfl, rfl, rfl, rfl, rfl, trivial⟩ t248 <| .nil)

theorem reticentref04_one.ok {rc218 : reticentref04_P → Int → Option reticentref04_P} (hrc218 : ∀ {a0 : reticentref04_P} {a1 : Int} {r : reticentref04_P}, rc218 a0 a1 = some r → FnS Tryd.prog 218 [.d ((kR f_reticentref04_P).sig a0), .d ((kI .i64).sig a1)] [] [] (.d ((kR f_reticentref04_P).sig r)) []) {a0 : reticentref04_P} {a1 : Int} {r : reticentref04_P} (h : reticentref04_one.f rc218 a0 a1 = some r) : FnS Tryd.prog 244 [.d ((kR f_reticentref04_P).sig a0), .d ((kI .i64).sig a1)] [] [] (.d ((kR f_reticentref04_P).sig r)) [] := by
  refine fnIntroS Tryd.func244 rfl (by kernel_rfl) fun X H0 w0 pv => ?_
  unfold reticentref04_one.f at h
  refine wSeq ?_
  refine rg (cp (oBox tm) (s1 rfl) <| cw (oAlloc (id := 4) (ls := [.d (kL (kR f_api_Tok)) [], .d (kI .i64) 0, .d (kL (kI .i64)) [], .d (kI .i64) 0, .d (kI .i64) 0]) ze248 (fun g => ⟨[(.slice none 0 0)], _, rfl, zL g.H, ⟨[(.int .i64 0)], _, rfl, zI_i64 g.H, ⟨[(.slice none 0 0)], _, rfl, zL g.H, ⟨[(.int .i64 0)], _, rfl, zI_i64 g.H, ⟨[(.int .i64 0)], _, rfl, zI_i64 g.H, rfl⟩⟩⟩⟩⟩)) trivial <| .nil) (by kernel_rfl) ?_
  refine pSeq ?_
  refine wSeq ?_
  refine wSeq ?_
  refine rg (cp (oMv tm) (s1 rfl) <| cp (oEq rfl tm (cI (by decide))) (s1 rfl) <| .nil) (by kernel_rfl) ?_
  refine pSeq ?_
  rcases ic h with ⟨hp1, h⟩ | ⟨hp1, h⟩
  · refine wCT hp1 tm (s1 rfl) ?_
    refine wSeq ?_
    obtain ⟨y2, hy2, h⟩ := bd h
    refine rg (cp (oLd t248 tm) (s1 rfl) <| cm (oCallS (rest := [.box 4 248 [.d (kL (kR f_api_Tok)) [], .d (kI .i64) 0, .d (kL (kI .i64)) [], .d (kI .i64) 0, .d (kI .i64) 0]]) (R' := [.box 4 248 [.d (kL (kR f_api_Tok)) [], .d (kI .i64) 0, .d (kL (kI .i64)) [], .d (kI .i64) 0, .d (kI .i64) 0]]) (out' := .d ((kR f_reticentref04_P).sig y2)) [] [] [] [0] [0] rfl (hrc218 hy2) b218 (oE1 tm (oE1 (cI (by decide)) oE0)) rfl rfl rfl rfl rfl rfl rfl rfl) (s1 rfl) <| cwn (oStA (n := 0) (fs := f_reticentref04_P) rfl rfl z248 tm tm) (s2 rfl rfl) <| .nil) (by kernel_rfl) ?_
    refine pSeq ?_
    refine wRet ?_
    refine pThenR ?_
    obtain rfl := so h
    exact pS1 [] rfl rfl (.inl rfl) rfl (.box (n := 0) (fs := f_reticentref04_P) (u := ⟨y2.L, y2.I, y2.Out, y2.Deep, y2.E⟩) rfl rfl ⟨rfl, rfl, rfl, rfl, rfl, trivial⟩ t248 <| .nil)
  · refine wCF hp1 tm (s1 rfl) ?_
    refine wSkip ?_
    refine pSeq ?_
    refine wSeq ?_
    refine wSeq ?_
    refine rg (cp (oMv tm) (s1 rfl) <| cp (oEq rfl tm (cI (by decide))) (s1 rfl) <| .nil) (by kernel_rfl) ?_
    refine pSeq ?_
    rcases ic h with ⟨hp3, h⟩ | ⟨hp3, h⟩
    · refine wCT hp3 tm (s1 rfl) ?_
      refine wSeq ?_
      obtain ⟨y4, hy4, h⟩ := bd h
      refine rg (cp (oLd t248 tm) (s1 rfl) <| cm (oCallS (rest := [.box 4 248 [.d (kL (kR f_api_Tok)) [], .d (kI .i64) 0, .d (kL (kI .i64)) [], .d (kI .i64) 0, .d (kI .i64) 0]]) (R' := [.box 4 248 [.d (kL (kR f_api_Tok)) [], .d (kI .i64) 0, .d (kL (kI .i64)) [], .d (kI .i64) 0, .d (kI .i64) 0]]) (out' := .d ((kR f_reticentref04_P).sig y4)) [] [] [] [0] [0] rfl (reticentref04_prim.ok hrc218 hy4) b264 (oE1 tm oE0) rfl rfl rfl rfl rfl rfl rfl rfl) (s1 rfl) <| cwn (oStA (n := 0) (fs := f_reticentref04_P) rfl rfl z248 tm tm) (s2 rfl rfl) <| .nil) (by kernel_rfl) ?_
      refine pSeq ?_
      refine wRet ?_
      refine pThenR ?_
      obtain rfl := so h
      exact pS1 [] rfl rfl (.inl rfl) rfl (.box (n := 0) (fs := f_reticentref04_P) (u := ⟨y4.L, y4.I, y4.Out, y4.Deep, y4.E⟩) rfl rfl ⟨rfl, rfl, rfl, rfl, rfl, trivial⟩ t248 <| .nil)
    · refine wCF hp3 tm (s1 rfl) ?_
      refine wSkip ?_
      refine pSeq ?_
      refine wSeq ?_
      refine wSeq ?_
      refine rg (cp (oMv tm) (s1 rfl) <| cp (oEq rfl tm (cI (by decide))) (s1 rfl) <| .nil) (by kernel_rfl) ?_
      refine pSeq ?_
      rcases ic h with ⟨hp5, h⟩ | ⟨hp5, h⟩
      · refine wCT hp5 tm (s1 rfl) ?_
        refine wSeq ?_
        obtain ⟨y6, hy6, h⟩ := bd h
        refine rg (cp (oLd t248 tm) (s1 rfl) <| cm (oCallS (rest := [.box 4 248 [.d (kL (kR f_api_Tok)) [], .d (kI .i64) 0, .d (kL (kI .i64)) [], .d (kI .i64) 0, .d (kI .i64) 0]]) (R' := [.box 4 248 [.d (kL (kR f_api_Tok)) [], .d (kI .i64) 0, .d (kL (kI .i64)) [], .d (kI .i64) 0, .d (kI .i64) 0]]) (out' := .d ((kR f_reticentref04_P).sig y6)) [] [] [] [0] [0] rfl (hrc218 hy6) b218 (oE1 tm (oE1 (cI (by decide)) oE0)) rfl rfl rfl rfl rfl rfl rfl rfl) (s1 rfl) <| cwn (oStA (n := 0) (fs := f_reticentref04_P) rfl rfl z248 tm tm) (s2 rfl rfl) <| .nil) (by kernel_rfl) ?_
        refine pSeq ?_
        refine wRet ?_
        refine pThenR ?_
        obtain rfl := so h
        exact pS1 [] rfl rfl (.inl rfl) rfl (.box (n := 0) (fs := f_reticentref04_P) (u := ⟨y6.L, y6.I, y6.Out, y6.Deep, y6.E⟩) rfl rfl ⟨rfl, rfl, rfl, rfl, rfl, trivial⟩ t248 <| .nil)
      · refine wCF hp5 tm (s1 rfl) ?_
        refine wSkip ?_
        refine pSeq ?_
        refine wSeq ?_
        obtain ⟨y7, hy7, h⟩ := bd h
        refine rg (cp (oLd t248 tm) (s1 rfl) <| cm (oCallS (rest := [.box 4 248 [.d (kL (kR f_api_Tok)) [], .d (kI .i64) 0, .d (kL (kI .i64)) [], .d (kI .i64) 0, .d (kI .i64) 0]]) (R' := [.box 4 248 [.d (kL (kR f_api_Tok)) [], .d (kI .i64) 0, .d (kL (kI .i64)) [], .d (kI .i64) 0, .d (kI .i64) 0]]) (out' := .d ((kR f_reticentref04_P).sig y7)) [] [] [] [0] [0] rfl (reticentref04_atom.ok hrc218 hy7) b265 (oE1 tm oE0) rfl rfl rfl rfl rfl rfl rfl rfl) (s1 rfl) <| cwn (oStA (n := 0) (fs := f_reticentref04_P) rfl rfl z248 tm tm) (s2 rfl rfl) <| .nil) (by kernel_rfl) ?_
        refine pSeq ?_
        refine wRet ?_
        obtain rfl := so h
        exact pS1 [] rfl rfl (.inl rfl) rfl (.box (n := 0) (fs := f_reticentref04_P) (u := ⟨y7.L, y7.I, y7.Out, y7.Deep, y7.E⟩) rfl rfl ⟨rfl, rfl, rfl, rfl, rfl, trivial⟩ t248 <| .nil)

theorem reticentref04_row.okB {rc218 : reticentref04_P → Int → Option reticentref04_P} (hrc218 : ∀ {a0 : reticentref04_P} {a1 : Int} {r : reticentref04_P}, rc218 a0 a1 = some r → FnS Tryd.prog 218 [.d ((kR f_reticentref04_P).sig a0), .d ((kI .i64).sig a1)] [] [] (.d ((kR f_reticentref04_P).sig r)) []) {a0 : reticentref04_P} {a1 : Int} {r : reticentref04_P} (h : reticentref04_row.B rc218 a0 a1 = some r) : FnS Tryd.prog 218 [.d ((kR f_reticentref04_P).sig a0), .d ((kI .i64).sig a1)] [] [] (.d ((kR f_reticentref04_P).sig r)) [] := by
  refine fnIntroS Tryd.func218 rfl (by kernel_rfl) fun X H0 w0 pv => ?_
  unfold reticentref04_row.B at h
  refine wSeq ?_
  refine rg (cw (oBoxS (id := 2) (fs := f_reticentref04_P) tm) (s1 rfl) <| cw (oAlloc (id := 4) (ls := [.d (kL (kR f_api_Tok)) [], .d (kI .i64) 0, .d (kL (kI .i64)) [], .d (kI .i64) 0, .d (kI .i64) 0]) ze248 (fun g => ⟨[(.slice none 0 0)], _, rfl, zL g.H, ⟨[(.int .i64 0)], _, rfl, zI_i64 g.H, ⟨[(.slice none 0 0)], _, rfl, zL g.H, ⟨[(.int .i64 0)], _, rfl, zI_i64 g.H, ⟨[(.int .i64 0)], _, rfl, zI_i64 g.H, rfl⟩⟩⟩⟩⟩)) trivial <| .nil) (by kernel_rfl) ?_
  refine pSeq ?_
  refine wSeq ?_
  obtain ⟨y1, hy1, h⟩ := bd h
  refine rg (cp (oLit (d := kS) el56 (by decide) rfl rfl rfl (e1 (cS (by decide)) (e1 (cS (by decide)) (e1 (cS (by decide)) (e1 (cS (by decide)) e0))))) trivial <| cp (oMv tm) (s1 rfl) <| cp (oIdx u56 z9 hy1 tm tm) (s2 rfl rfl) <| cp (oLd t9 tm) (s1 rfl) <| cp (oAs tm) (s1 rfl) <| .nil) (by kernel_rfl) ?_
  refine pSeq ?_
  refine wSeq ?_
  obtain ⟨y2, hy2, h⟩ := bd h
  refine rg (cp (oLit (d := (kI .i64)) el85 (by decide) rfl rfl rfl (e1 (cI (by decide)) (e1 (cI (by decide)) (e1 (cI (by decide)) (e1 (cI (by decide)) e0))))) trivial <| cp (oMv tm) (s1 rfl) <| cp (oIdx u85 z3 hy2 tm tm) (s2 rfl rfl) <| cp (oLd t3 tm) (s1 rfl) <| cp (oAs tm) (s1 rfl) <| .nil) (by kernel_rfl) ?_
  refine pSeq ?_
  refine wSeq ?_
  obtain ⟨y3, hy3, h⟩ := bd h
  refine rg (cr (oLdA (n := 1) (fs := f_reticentref04_P) (u := ⟨a0.L, a0.I, a0.Out, a0.Deep, a0.E⟩) rfl ⟨rfl, rfl, rfl, rfl, rfl, trivial⟩ t248 tm) (s1 rfl) <| cp (oMv tm) (s1 rfl) <| cm (oCallS (rest := [.box 4 248 [.d (kL (kR f_api_Tok)) [], .d (kI .i64) 0, .d (kL (kI .i64)) [], .d (kI .i64) 0, .d (kI .i64) 0], .box 2 248 [.d (kL (kR f_api_Tok)) a0.L, .d (kI .i64) a0.I, .d (kL (kI .i64)) a0.Out, .d (kI .i64) a0.Deep, .d (kI .i64) a0.E]]) (R' := [.box 4 248 [.d (kL (kR f_api_Tok)) [], .d (kI .i64) 0, .d (kL (kI .i64)) [], .d (kI .i64) 0, .d (kI .i64) 0], .box 2 248 [.d (kL (kR f_api_Tok)) a0.L, .d (kI .i64) a0.I, .d (kL (kI .i64)) a0.Out, .d (kI .i64) a0.Deep, .d (kI .i64) a0.E]]) (out' := .d ((kR f_reticentref04_P).sig y3)) [] [] [] [0, 1] [0, 1] rfl (reticentref04_one.ok hrc218 hy3) b244 (oE1 tm (oE1 tm oE0)) rfl rfl rfl rfl rfl rfl rfl rfl) (s2 rfl rfl) <| cwn (oStA (n := 1) (fs := f_reticentref04_P) rfl rfl z248 tm tm) (s2 rfl rfl) <| .nil) (by kernel_rfl) ?_
  refine pSeq ?_
  obtain ⟨o1, h, hk1⟩ := bd h
  refine wJ5 (fun x19 x20 x21 x22 x23 => (x19, x20, x21, x22, x23) = o1) (fun x19 x20 x21 x22 x23 => [(2, .p 2 0), (4, .p 4 0)]) (fun x19 x20 x21 x22 x23 => [.box 4 248 [.d (kL (kR f_api_Tok)) [], .d (kI .i64) 0, .d (kL (kI .i64)) [], .d (kI .i64) 0, .d (kI .i64) 0], .box 2 248 [.d (kL (kR f_api_Tok)) x19, .d (kI .i64) x20, .d (kL (kI .i64)) x21, .d (kI .i64) x22, .d (kI .i64) x23]]) ?_ ?_
  · refine wBlock (wLoop ?_)
    refine lW (pc5 o1 (fun v14 v15 v16 v17 v18 => [(1, .d ((kI .i64).sig a1)), (2, .p 2 0), (4, .p 4 0), (5, .d (kS.sig y1)), (6, .d ((kI .i64).sig y2))]) (fun v14 v15 v16 v17 v18 => [.box 4 248 [.d (kL (kR f_api_Tok)) [], .d (kI .i64) 0, .d (kL (kI .i64)) [], .d (kI .i64) 0, .d (kI .i64) 0], .box 2 248 [.d (kL (kR f_api_Tok)) v14, .d (kI .i64) v15, .d (kL (kI .i64)) v16, .d (kI .i64) v17, .d (kI .i64) v18]]) (reticentref04_row.l0.partial_correctness a1 y1 y2 rc218) ?_ _ _ _ _ _ h) ⟨rfl, rfl, rfl, rfl, rfl, trivial⟩ rfl
    clear h
    intro f' ih v14 v15 v16 v17 v18 h
    refine wSeq ?_
    refine wSeq ?_
    obtain ⟨y24, hy24, h⟩ := bd h
    refine rg (cr (oLdA (n := 1) (fs := f_reticentref04_P) (u := ⟨v14, v15, v16, v17, v18⟩) rfl ⟨rfl, rfl, rfl, rfl, rfl, trivial⟩ t248 tm) (s1 rfl) <| cp (oMv tm) (s1 rfl) <| cp (oCall rfl (reticentref04_here.ok hy24) b245 (opds_cons tm (opds_cons tm opds_nil))) (s2 rfl rfl) <| .nil) (by kernel_rfl) ?_
    refine pSeq ?_
    rcases ic h with ⟨hp25, h⟩ | ⟨hp25, h⟩
    · refine wBT hp25 tm (s1 rfl) ?_
      refine wSkip ?_
      refine pSeq ?_
      refine wBlock ?_
      refine wSeq ?_
      obtain ⟨y26, hy26, h⟩ := bd h
      obtain ⟨y27, hy27, h⟩ := bd h
      refine rg (cr (oLdA (n := 1) (fs := f_reticentref04_P) (u := ⟨v14, v15, v16, v17, v18⟩) rfl ⟨rfl, rfl, rfl, rfl, rfl, trivial⟩ t248 tm) (s1 rfl) <| cp (oCall rfl (reticentref04_next.ok hy26) b246 (opds_cons tm opds_nil)) (s1 rfl) <| cp (oMv tm) (s1 rfl) <| cm (oCallS (rest := [.box 4 248 [.d (kL (kR f_api_Tok)) [], .d (kI .i64) 0, .d (kL (kI .i64)) [], .d (kI .i64) 0, .d (kI .i64) 0], .box 2 248 [.d (kL (kR f_api_Tok)) v14, .d (kI .i64) v15, .d (kL (kI .i64)) v16, .d (kI .i64) v17, .d (kI .i64) v18]]) (R' := [.box 4 248 [.d (kL (kR f_api_Tok)) [], .d (kI .i64) 0, .d (kL (kI .i64)) [], .d (kI .i64) 0, .d (kI .i64) 0], .box 2 248 [.d (kL (kR f_api_Tok)) v14, .d (kI .i64) v15, .d (kL (kI .i64)) v16, .d (kI .i64) v17, .d (kI .i64) v18]]) (out' := .d ((kR f_reticentref04_P).sig y27)) [] [] [] [0, 1] [0, 1] rfl (reticentref04_one.ok hrc218 hy27) b244 (oE1 tm (oE1 tm oE0)) rfl rfl rfl rfl rfl rfl rfl rfl) (s2 rfl rfl) <| cwn (oStA (n := 1) (fs := f_reticentref04_P) rfl rfl z248 tm tm) (s2 rfl rfl) <| .nil) (by kernel_rfl) ?_
      refine pSeq ?_
      obtain ⟨y28, hy28, h⟩ := bd h
      refine rg (cr (oLdA (n := 1) (fs := f_reticentref04_P) (u := ⟨y27.L, y27.I, y27.Out, y27.Deep, y27.E⟩) rfl ⟨rfl, rfl, rfl, rfl, rfl, trivial⟩ t248 tm) (s1 rfl) <| cp (oMv tm) (s1 rfl) <| cp (oCall rfl (reticentref04_put.ok hy28) b247 (opds_cons tm (opds_cons tm opds_nil))) (s2 rfl rfl) <| cwn (oStA (n := 1) (fs := f_reticentref04_P) rfl rfl z248 tm tm) (s2 rfl rfl) <| .nil) (by kernel_rfl) ?_
      refine pBlkN ?_
      exact pLoop (lW (ih _ _ _ _ _ h) ⟨rfl, rfl, rfl, rfl, rfl, trivial⟩ rfl)
    · refine wBF hp25 tm (s1 rfl) ?_
      refine wExit ?_
      refine pThenX ?_
      refine pThenX ?_
      refine pBlkX ?_
      exact pJ5 _ _ _ _ _ (so h) ⟨rfl, rfl, trivial⟩ rfl
  · rintro x19 x20 x21 x22 x23 rfl
    replace h := hk1
    refine wSeq ?_
    refine rg (cr (oLdA (n := 1) (fs := f_reticentref04_P) (u := ⟨x19, x20, x21, x22, x23⟩) rfl ⟨rfl, rfl, rfl, rfl, rfl, trivial⟩ t248 tm) (s1 rfl) <| cwn (oStA (n := 0) (fs := f_reticentref04_P) rfl rfl z248 tm tm) (s2 rfl rfl) <| .nil) (by kernel_rfl) ?_
    refine pSeq ?_
    refine wRet ?_
    obtain rfl := so h
    exact pS1 [] rfl rfl (.inl rfl) rfl (.box (n := 0) (fs := f_reticentref04_P) (u := ⟨x19, x20, x21, x22, x23⟩) rfl rfl ⟨rfl, rfl, rfl, rfl, rfl, trivial⟩ t248 <| .nil)
theorem reticentref04_row.okF : ∀ (k : Nat) {a0 : reticentref04_P} {a1 : Int} {r : reticentref04_P}, reticentref04_row.F k a0 a1 = some r → FnS Tryd.prog 218 [.d ((kR f_reticentref04_P).sig a0), .d ((kI .i64).sig a1)] [] [] (.d ((kR f_reticentref04_P).sig r)) []
  | 0, _, _, _, h => by cases h
  | k + 1, _, _, _, h => reticentref04_row.okB (fun h => reticentref04_row.okF k h) h
theorem reticentref04_row.ok {a0 : reticentref04_P} {a1 : Int} {r : reticentref04_P} (h : reticentref04_row.f a0 a1 = some r) : FnS Tryd.prog 218 [.d ((kR f_reticentref04_P).sig a0), .d ((kI .i64).sig a1)] [] [] (.d ((kR f_reticentref04_P).sig r)) [] := reticentref04_row.okF 1000 h

theorem reticentref04_From.ok {a0 : List api_Tok} {a1 : Int} {a2 : Bool} {r : reticentref04_P} (h : reticentref04_From.f a0 a1 a2 = some r) : FnA Tryd.prog 165 [(kL (kR f_api_Tok)).sig a0, (kI .i64).sig a1, kB.sig a2] ((kR f_reticentref04_P).sig r) := by
  refine fnIntro Tryd.func165 rfl (by kernel_rfl) fun H0 w0 => ?_
  unfold reticentref04_From.f at h
  refine wSeq ?_
  refine rg (cw (oAlloc (id := 6) (ls := [.d (kL (kR f_api_Tok)) [], .d (kI .i64) 0, .d (kL (kI .i64)) [], .d (kI .i64) 0, .d (kI .i64) 0]) ze248 (fun g => ⟨[(.slice none 0 0)], _, rfl, zL g.H, ⟨[(.int .i64 0)], _, rfl, zI_i64 g.H, ⟨[(.slice none 0 0)], _, rfl, zL g.H, ⟨[(.int .i64 0)], _, rfl, zI_i64 g.H, ⟨[(.int .i64 0)], _, rfl, zI_i64 g.H, rfl⟩⟩⟩⟩⟩)) trivial <| .nil) (by kernel_rfl) ?_
  refine pSeq ?_
  refine wSeq ?_
  refine rg (cp (oMv tm) (s1 rfl) <| cp (oMv tm) (s1 rfl) <| cp (oBuild (fs := f_reticentref04_P) (u := ⟨a0, a1, [], 0, 0⟩) rfl ze248 pl248 po248 (.op (zc := [(.slice none 0 0)]) tm rfl (.op (zc := [(.int .i64 0)]) tm rfl (.ze (zc := [(.slice none 0 0)]) zL (.ze (zc := [(.int .i64 0)]) zI_i64 (.ze (zc := [(.int .i64 0)]) zI_i64 .nil)))))) (s2 rfl rfl) <| cw (oAlloc (id := 7) (ls := [.d (kL (kR f_api_Tok)) [], .d (kI .i64) 0, .d (kL (kI .i64)) [], .d (kI .i64) 0, .d (kI .i64) 0]) ze248 (fun g => ⟨[(.slice none 0 0)], _, rfl, zL g.H, ⟨[(.int .i64 0)], _, rfl, zI_i64 g.H, ⟨[(.slice none 0 0)], _, rfl, zL g.H, ⟨[(.int .i64 0)], _, rfl, zI_i64 g.H, ⟨[(.int .i64 0)], _, rfl, zI_i64 g.H, rfl⟩⟩⟩⟩⟩)) trivial <| cwn (oStA (n := 0) (fs := f_reticentref04_P) rfl rfl z248 tm tm) (s2 rfl rfl) <| .nil) (by kernel_rfl) ?_
  refine pSeq ?_
  refine wSeq ?_
  refine wSeq ?_
  refine rg (cp (oMv tm) (s1 rfl) <| .nil) (by kernel_rfl) ?_
  refine pSeq ?_
  rcases ic h with ⟨hp1, h⟩ | ⟨hp1, h⟩
  · refine wBT hp1 tm (s1 rfl) ?_
    refine wSeq ?_
    obtain ⟨y2, hy2, h⟩ := bd h
    refine rg (cr (oLdA (n := 0) (fs := f_reticentref04_P) (u := ⟨a0, a1, [], 0, 0⟩) rfl ⟨rfl, rfl, rfl, rfl, rfl, trivial⟩ t248 tm) (s1 rfl) <| cm (oCallS (rest := [.box 7 248 [.d (kL (kR f_api_Tok)) a0, .d (kI .i64) a1, .d (kL (kI .i64)) [], .d (kI .i64) 0, .d (kI .i64) 0], .box 6 248 [.d (kL (kR f_api_Tok)) [], .d (kI .i64) 0, .d (kL (kI .i64)) [], .d (kI .i64) 0, .d (kI .i64) 0]]) (R' := [.box 7 248 [.d (kL (kR f_api_Tok)) a0, .d (kI .i64) a1, .d (kL (kI .i64)) [], .d (kI .i64) 0, .d (kI .i64) 0], .box 6 248 [.d (kL (kR f_api_Tok)) [], .d (kI .i64) 0, .d (kL (kI .i64)) [], .d (kI .i64) 0, .d (kI .i64) 0]]) (out' := .d ((kR f_reticentref04_P).sig y2)) [] [] [] [0, 1] [0, 1] rfl (reticentref04_row.ok hy2) b218 (oE1 tm (oE1 (cI (by decide)) oE0)) rfl rfl rfl rfl rfl rfl rfl rfl) (s1 rfl) <| cwn (oStA (n := 1) (fs := f_reticentref04_P) rfl rfl z248 tm tm) (s2 rfl rfl) <| .nil) (by kernel_rfl) ?_
    refine pSeq ?_
    refine wRet ?_
    refine pThenR ?_
    obtain rfl := so h
    exact pR1 (.inl rfl) rfl (.box (n := 1) (fs := f_reticentref04_P) (u := ⟨y2.L, y2.I, y2.Out, y2.Deep, y2.E⟩) rfl rfl ⟨rfl, rfl, rfl, rfl, rfl, trivial⟩ t248 <| .nil)
  · refine wBF hp1 tm (s1 rfl) ?_
    refine wSkip ?_
    refine pSeq ?_
    refine wSeq ?_
    obtain ⟨y3, hy3, h⟩ := bd h
    refine rg (cr (oLdA (n := 0) (fs := f_reticentref04_P) (u := ⟨a0, a1, [], 0, 0⟩) rfl ⟨rfl, rfl, rfl, rfl, rfl, trivial⟩ t248 tm) (s1 rfl) <| cm (oCallS (rest := [.box 7 248 [.d (kL (kR f_api_Tok)) a0, .d (kI .i64) a1, .d (kL (kI .i64)) [], .d (kI .i64) 0, .d (kI .i64) 0], .box 6 248 [.d (kL (kR f_api_Tok)) [], .d (kI .i64) 0, .d (kL (kI .i64)) [], .d (kI .i64) 0, .d (kI .i64) 0]]) (R' := [.box 7 248 [.d (kL (kR f_api_Tok)) a0, .d (kI .i64) a1, .d (kL (kI .i64)) [], .d (kI .i64) 0, .d (kI .i64) 0], .box 6 248 [.d (kL (kR f_api_Tok)) [], .d (kI .i64) 0, .d (kL (kI .i64)) [], .d (kI .i64) 0, .d (kI .i64) 0]]) (out' := .d ((kR f_reticentref04_P).sig y3)) [] [] [] [0, 1] [0, 1] rfl (reticentref04_row.ok hy3) b218 (oE1 tm (oE1 (cI (by decide)) oE0)) rfl rfl rfl rfl rfl rfl rfl rfl) (s1 rfl) <| cwn (oStA (n := 1) (fs := f_reticentref04_P) rfl rfl z248 tm tm) (s2 rfl rfl) <| .nil) (by kernel_rfl) ?_
    refine pSeq ?_
    refine wRet ?_
    obtain rfl := so h
    exact pR1 (.inl rfl) rfl (.box (n := 1) (fs := f_reticentref04_P) (u := ⟨y3.L, y3.I, y3.Out, y3.Deep, y3.E⟩) rfl rfl ⟨rfl, rfl, rfl, rfl, rfl, trivial⟩ t248 <| .nil)

theorem reticentref06_part.ok {a0 : List api_Tok} {a1 : reticentref06_P} {a2 : Int} {r : reticentref06_P} (h : reticentref06_part.f a0 a1 a2 = some r) : FnA Tryd.prog 108 [(kL (kR f_api_Tok)).sig a0, (kR f_reticentref06_P).sig a1, (kI .i64).sig a2] ((kR f_reticentref06_P).sig r) := by
  refine fnIntro Tryd.func108 rfl (by kernel_rfl) fun H0 w0 => ?_
  unfold reticentref06_part.f at h
  refine wSeq ?_
  refine rg (cw (oBoxP (id := 4) (d := (kR f_reticentref06_P)) (ls := [.d (kI .i64) a1.I, .d (kL (kI .i64)) a1.R.May, .d (kL (kI .i64)) a1.R.Res, .d (kL (kI .i64)) a1.R.Pc, .d (kI .i64) a1.E]) (lfS (lfC lf1 (lfC (lfS (lfC lf1 (lfC lf1 (lfC lf1 lfN)))) (lfC lf1 lfN)))) rfl tm) (s1 rfl) <| cw (oAlloc (id := 6) (ls := [.d (kI .i64) 0, .d (kL (kI .i64)) [], .d (kL (kI .i64)) [], .d (kL (kI .i64)) [], .d (kI .i64) 0]) ze126 (fun g => ⟨[(.int .i64 0)], _, rfl, zI_i64 g.H, ⟨[(.slice none 0 0)], _, rfl, zL g.H, ⟨[(.slice none 0 0)], _, rfl, zL g.H, ⟨[(.slice none 0 0)], _, rfl, zL g.H, ⟨[(.int .i64 0)], _, rfl, zI_i64 g.H, rfl⟩⟩⟩⟩⟩)) trivial <| .nil) (by kernel_rfl) ?_
  refine pSeq ?_
  refine wSeq ?_
  refine wSeq ?_
  refine rg (cp (oFldP o126_2 tm) (s1 rfl) <| cr (oLdB (n := 1) (k := 4) rfl rfl rfl t26 tm) (s1 rfl) <| cp (oNe rfl tm (cI (by decide))) (s1 rfl) <| .nil) (by kernel_rfl) ?_
  refine pSeq ?_
  rcases ic h with ⟨hp1, h⟩ | ⟨hp1, h⟩
  · refine wNT hp1 tm (s1 rfl) ?_
    refine wSkip ?_
    refine pSeq ?_
    refine wSeq ?_
    obtain ⟨y2, hy2, h⟩ := bd h
    refine rg (cp (oMv tm) (s1 rfl) <| cp (oFldP o126_0 tm) (s1 rfl) <| cr (oLdB (n := 1) (k := 0) rfl rfl rfl t3 tm) (s1 rfl) <| cp (oMv tm) (s1 rfl) <| cp (oGt rfl tm (cI (by decide))) (s1 rfl) <| cp (oCall rfl (reticentref04_From.ok hy2) b165 (opds_cons tm (opds_cons tm (opds_cons tm opds_nil)))) (s3 rfl rfl rfl) <| cw (oAlloc (id := 7) (ls := [.d (kL (kR f_api_Tok)) [], .d (kI .i64) 0, .d (kL (kI .i64)) [], .d (kI .i64) 0, .d (kI .i64) 0]) ze248 (fun g => ⟨[(.slice none 0 0)], _, rfl, zL g.H, ⟨[(.int .i64 0)], _, rfl, zI_i64 g.H, ⟨[(.slice none 0 0)], _, rfl, zL g.H, ⟨[(.int .i64 0)], _, rfl, zI_i64 g.H, ⟨[(.int .i64 0)], _, rfl, zI_i64 g.H, rfl⟩⟩⟩⟩⟩)) trivial <| cwn (oStA (n := 0) (fs := f_reticentref04_P) rfl rfl z248 tm tm) (s2 rfl rfl) <| .nil) (by kernel_rfl) ?_
    refine pSeq ?_
    refine wSeq ?_
    refine rg (cp (oFldP o248_1 tm) (s1 rfl) <| cr (oLdB (n := 0) (k := 1) rfl rfl rfl t3 tm) (s1 rfl) <| cp (oFldP o126_0 tm) (s1 rfl) <| cwn (oSt (n := 2) (k := 0) rfl rfl rfl rfl z3 tm tm) (s2 rfl rfl) <| .nil) (by kernel_rfl) ?_
    refine pSeq ?_
    refine wSeq ?_
    refine rg (cp (oFldP o248_4 tm) (s1 rfl) <| cr (oLdB (n := 0) (k := 4) rfl rfl rfl t26 tm) (s1 rfl) <| cp (oFldP o126_2 tm) (s1 rfl) <| cwn (oSt (n := 2) (k := 4) rfl rfl rfl rfl z26 tm tm) (s2 rfl rfl) <| .nil) (by kernel_rfl) ?_
    refine pSeq ?_
    refine wSeq ?_
    refine wSeq ?_
    refine rg (cp (oMv tm) (s1 rfl) <| cp (oEq rfl tm (cI (by decide))) (s1 rfl) <| .nil) (by kernel_rfl) ?_
    refine pSeq ?_
    rcases ic h with ⟨hp3, h⟩ | ⟨hp3, h⟩
    · refine wCT hp3 tm (s1 rfl) ?_
      refine rg (cp (oFldP o248_2 tm) (s1 rfl) <| cr (oLdB (n := 0) (k := 2) rfl rfl rfl t85 tm) (s1 rfl) <| cp (oFldP o126_1 tm) (s1 rfl) <| cp (oFldP o87_0 tm) (s1 rfl) <| cwn (oSt (n := 2) (k := 1) rfl rfl rfl rfl z85 tm tm) (s2 rfl rfl) <| .nil) (by kernel_rfl) ?_
      refine pSeq ?_
      refine wSeq ?_
      obtain ⟨y4, hy4, h⟩ := bd h
      refine rg (cp (oMv tm) (s1 rfl) <| cr (oLdP (n := 2) (k := 0) (m := 5) (d := (kR f_reticentref06_P)) (u := (⟨y2.I, ⟨y2.Out, a1.R.Res, a1.R.Pc⟩, y2.E⟩ : reticentref06_P)) (lfS (lfC lf1 (lfC (lfS (lfC lf1 (lfC lf1 (lfC lf1 lfN)))) (lfC lf1 lfN)))) rfl rfl rfl t126 tm) (s1 rfl) <| cp (oCall rfl (reticentref06_mark.ok hy4) b107 (opds_cons tm (opds_cons tm (opds_cons (cS (by decide)) opds_nil)))) (s2 rfl rfl) <| cwn (oStP (n := 1) (k := 0) (m := 5) (d := (kR f_reticentref06_P)) (u := y4) (lfS (lfC lf1 (lfC (lfS (lfC lf1 (lfC lf1 (lfC lf1 lfN)))) (lfC lf1 lfN)))) rfl rfl rfl z126 tm tm) (s2 rfl rfl) <| .nil) (by kernel_rfl) ?_
      refine pSeq ?_
      refine wRet ?_
      obtain rfl := so h
      exact pR1 (.inl rfl) rfl (.boxP (n := 1) (d := (kR f_reticentref06_P)) (u := y4) rfl rfl (lfS (lfC lf1 (lfC (lfS (lfC lf1 (lfC lf1 (lfC lf1 lfN)))) (lfC lf1 lfN)))) rfl t126 <| .nil)
    · refine wCF hp3 tm (s1 rfl) ?_
      refine wSeq ?_
      refine rg (cp (oMv tm) (s1 rfl) <| cp (oEq rfl tm (cI (by decide))) (s1 rfl) <| .nil) (by kernel_rfl) ?_
      refine pSeq ?_
      rcases ic h with ⟨hp5, h⟩ | ⟨hp5, h⟩
      · refine wCT hp5 tm (s1 rfl) ?_
        refine rg (cp (oFldP o248_2 tm) (s1 rfl) <| cr (oLdB (n := 0) (k := 2) rfl rfl rfl t85 tm) (s1 rfl) <| cp (oFldP o126_1 tm) (s1 rfl) <| cp (oFldP o87_1 tm) (s1 rfl) <| cwn (oSt (n := 2) (k := 2) rfl rfl rfl rfl z85 tm tm) (s2 rfl rfl) <| .nil) (by kernel_rfl) ?_
        refine pSeq ?_
        refine wSeq ?_
        obtain ⟨y6, hy6, h⟩ := bd h
        refine rg (cp (oMv tm) (s1 rfl) <| cr (oLdP (n := 2) (k := 0) (m := 5) (d := (kR f_reticentref06_P)) (u := (⟨y2.I, ⟨a1.R.May, y2.Out, a1.R.Pc⟩, y2.E⟩ : reticentref06_P)) (lfS (lfC lf1 (lfC (lfS (lfC lf1 (lfC lf1 (lfC lf1 lfN)))) (lfC lf1 lfN)))) rfl rfl rfl t126 tm) (s1 rfl) <| cp (oCall rfl (reticentref06_mark.ok hy6) b107 (opds_cons tm (opds_cons tm (opds_cons (cS (by decide)) opds_nil)))) (s2 rfl rfl) <| cwn (oStP (n := 1) (k := 0) (m := 5) (d := (kR f_reticentref06_P)) (u := y6) (lfS (lfC lf1 (lfC (lfS (lfC lf1 (lfC lf1 (lfC lf1 lfN)))) (lfC lf1 lfN)))) rfl rfl rfl z126 tm tm) (s2 rfl rfl) <| .nil) (by kernel_rfl) ?_
        refine pSeq ?_
        refine wRet ?_
        obtain rfl := so h
        exact pR1 (.inl rfl) rfl (.boxP (n := 1) (d := (kR f_reticentref06_P)) (u := y6) rfl rfl (lfS (lfC lf1 (lfC (lfS (lfC lf1 (lfC lf1 (lfC lf1 lfN)))) (lfC lf1 lfN)))) rfl t126 <| .nil)
      · refine wCF hp5 tm (s1 rfl) ?_
        refine rg (cp (oFldP o248_2 tm) (s1 rfl) <| cr (oLdB (n := 0) (k := 2) rfl rfl rfl t85 tm) (s1 rfl) <| cp (oFldP o126_1 tm) (s1 rfl) <| cp (oFldP o87_2 tm) (s1 rfl) <| cwn (oSt (n := 2) (k := 3) rfl rfl rfl rfl z85 tm tm) (s2 rfl rfl) <| .nil) (by kernel_rfl) ?_
        refine pSeq ?_
        refine wSeq ?_
        obtain ⟨y7, hy7, h⟩ := bd h
        refine rg (cp (oMv tm) (s1 rfl) <| cr (oLdP (n := 2) (k := 0) (m := 5) (d := (kR f_reticentref06_P)) (u := (⟨y2.I, ⟨a1.R.May, a1.R.Res, y2.Out⟩, y2.E⟩ : reticentref06_P)) (lfS (lfC lf1 (lfC (lfS (lfC lf1 (lfC lf1 (lfC lf1 lfN)))) (lfC lf1 lfN)))) rfl rfl rfl t126 tm) (s1 rfl) <| cp (oCall rfl (reticentref06_mark.ok hy7) b107 (opds_cons tm (opds_cons tm (opds_cons (cS (by decide)) opds_nil)))) (s2 rfl rfl) <| cwn (oStP (n := 1) (k := 0) (m := 5) (d := (kR f_reticentref06_P)) (u := y7) (lfS (lfC lf1 (lfC (lfS (lfC lf1 (lfC lf1 (lfC lf1 lfN)))) (lfC lf1 lfN)))) rfl rfl rfl z126 tm tm) (s2 rfl rfl) <| .nil) (by kernel_rfl) ?_
        refine pSeq ?_
        refine wRet ?_
        obtain rfl := so h
        exact pR1 (.inl rfl) rfl (.boxP (n := 1) (d := (kR f_reticentref06_P)) (u := y7) rfl rfl (lfS (lfC lf1 (lfC (lfS (lfC lf1 (lfC lf1 (lfC lf1 lfN)))) (lfC lf1 lfN)))) rfl t126 <| .nil)
  · refine wNF hp1 tm (s1 rfl) ?_
    refine wSeq ?_
    refine rg (cr (oLdP (n := 1) (k := 0) (m := 5) (d := (kR f_reticentref06_P)) (u := a1) (lfS (lfC lf1 (lfC (lfS (lfC lf1 (lfC lf1 (lfC lf1 lfN)))) (lfC lf1 lfN)))) rfl rfl rfl t126 tm) (s1 rfl) <| cwn (oStP (n := 0) (k := 0) (m := 5) (d := (kR f_reticentref06_P)) (u := a1) (lfS (lfC lf1 (lfC (lfS (lfC lf1 (lfC lf1 (lfC lf1 lfN)))) (lfC lf1 lfN)))) rfl rfl rfl z126 tm tm) (s2 rfl rfl) <| .nil) (by kernel_rfl) ?_
    refine pSeq ?_
    refine wRet ?_
    refine pThenR ?_
    obtain rfl := so h
    exact pR1 (.inl rfl) rfl (.boxP (n := 0) (d := (kR f_reticentref06_P)) (u := a1) rfl rfl (lfS (lfC lf1 (lfC (lfS (lfC lf1 (lfC lf1 (lfC lf1 lfN)))) (lfC lf1 lfN)))) rfl t126 <| .nil)

theorem reticentref06_row.ok {a0 : List api_Tok} {a1 : Int} {r : reticentref06_P} (h : reticentref06_row.f a0 a1 = some r) : FnA Tryd.prog 65 [(kL (kR f_api_Tok)).sig a0, (kI .i64).sig a1] ((kR f_reticentref06_P).sig r) := by
  refine fnIntro Tryd.func65 rfl (by kernel_rfl) fun H0 w0 => ?_
  unfold reticentref06_row.f at h
  refine wSeq ?_
  refine rg (cw (oAlloc (id := 4) (ls := [.d (kI .i64) 0, .d (kL (kI .i64)) [], .d (kL (kI .i64)) [], .d (kL (kI .i64)) [], .d (kI .i64) 0]) ze126 (fun g => ⟨[(.int .i64 0)], _, rfl, zI_i64 g.H, ⟨[(.slice none 0 0)], _, rfl, zL g.H, ⟨[(.slice none 0 0)], _, rfl, zL g.H, ⟨[(.slice none 0 0)], _, rfl, zL g.H, ⟨[(.int .i64 0)], _, rfl, zI_i64 g.H, rfl⟩⟩⟩⟩⟩)) trivial <| .nil) (by kernel_rfl) ?_
  refine pSeq ?_
  refine wSeq ?_
  obtain ⟨y1, hy1, h⟩ := bd h
  refine rg (cp (oMv tm) (s1 rfl) <| cp (oMv tm) (s1 rfl) <| cp (oBuild (fs := f_reticentref06_P) (u := ⟨a1, (⟨[], [], []⟩ : api_Row), 0⟩) rfl ze126 pl126 po126 (.op (zc := [(.int .i64 0)]) tm rfl (.ze (zc := [(.slice none 0 0), (.slice none 0 0), (.slice none 0 0)]) zR_api_Row (.ze (zc := [(.int .i64 0)]) zI_i64 .nil)))) (s1 rfl) <| cp (oCall rfl (reticentref06_mark.ok hy1) b107 (opds_cons tm (opds_cons tm (opds_cons (cS (by decide)) opds_nil)))) (s2 rfl rfl) <| cw (oAlloc (id := 5) (ls := [.d (kI .i64) 0, .d (kL (kI .i64)) [], .d (kL (kI .i64)) [], .d (kL (kI .i64)) [], .d (kI .i64) 0]) ze126 (fun g => ⟨[(.int .i64 0)], _, rfl, zI_i64 g.H, ⟨[(.slice none 0 0)], _, rfl, zL g.H, ⟨[(.slice none 0 0)], _, rfl, zL g.H, ⟨[(.slice none 0 0)], _, rfl, zL g.H, ⟨[(.int .i64 0)], _, rfl, zI_i64 g.H, rfl⟩⟩⟩⟩⟩)) trivial <| cwn (oStP (n := 0) (k := 0) (m := 5) (d := (kR f_reticentref06_P)) (u := y1) (lfS (lfC lf1 (lfC (lfS (lfC lf1 (lfC lf1 (lfC lf1 lfN)))) (lfC lf1 lfN)))) rfl rfl rfl z126 tm tm) (s2 rfl rfl) <| .nil) (by kernel_rfl) ?_
  refine pSeq ?_
  refine wSeq ?_
  refine wSeq ?_
  refine rg (cp (oAs (cI (by decide))) trivial <| .nil) (by kernel_rfl) ?_
  refine pSeq ?_
  obtain ⟨o1, h, hk1⟩ := bd h
  refine wK5 (fun x12 x13 x14 x15 x16 => (x12, x13, x14, x15, x16) = o1) (fun x12 x13 x14 x15 x16 => [(4, .p 4 0), (5, .p 5 0)]) (fun x12 x13 x14 x15 x16 => [.box 5 126 [.d (kI .i64) x12, .d (kL (kI .i64)) x13, .d (kL (kI .i64)) x14, .d (kL (kI .i64)) x15, .d (kI .i64) x16], .box 4 126 [.d (kI .i64) 0, .d (kL (kI .i64)) [], .d (kL (kI .i64)) [], .d (kL (kI .i64)) [], .d (kI .i64) 0]]) ?_ ?_
  · refine wBlock (wLoop ?_)
    refine lW (pc6 o1 (fun v6 v7 v8 v9 v10 v11 => [(0, .d ((kL (kR f_api_Tok)).sig a0)), (4, .p 4 0), (5, .p 5 0), (6, .d ((kI .i64).sig v11))]) (fun v6 v7 v8 v9 v10 v11 => [.box 5 126 [.d (kI .i64) v6, .d (kL (kI .i64)) v7, .d (kL (kI .i64)) v8, .d (kL (kI .i64)) v9, .d (kI .i64) v10], .box 4 126 [.d (kI .i64) 0, .d (kL (kI .i64)) [], .d (kL (kI .i64)) [], .d (kL (kI .i64)) [], .d (kI .i64) 0]]) (reticentref06_row.l0.partial_correctness a0) ?_ _ _ _ _ _ _ h) ⟨rfl, rfl, rfl, rfl, trivial⟩ rfl
    clear h
    intro f' ih v6 v7 v8 v9 v10 v11 h
    refine wSeq ?_
    refine wSeq ?_
    refine rg (cp (oMv tm) (s1 rfl) <| cp (oLt rfl tm (cI (by decide))) (s1 rfl) <| .nil) (by kernel_rfl) ?_
    refine pSeq ?_
    rcases ic h with ⟨hp17, h⟩ | ⟨hp17, h⟩
    · refine wCT hp17 tm (s1 rfl) ?_
      refine wSkip ?_
      refine pSeq ?_
      refine wSeq ?_
      refine wBlock ?_
      obtain ⟨y18, hy18, h⟩ := bd h
      refine rg (cp (oMv tm) (s1 rfl) <| cr (oLdP (n := 0) (k := 0) (m := 5) (d := (kR f_reticentref06_P)) (u := (⟨v6, ⟨v7, v8, v9⟩, v10⟩ : reticentref06_P)) (lfS (lfC lf1 (lfC (lfS (lfC lf1 (lfC lf1 (lfC lf1 lfN)))) (lfC lf1 lfN)))) rfl rfl rfl t126 tm) (s1 rfl) <| cp (oMv tm) (s1 rfl) <| cp (oCall rfl (reticentref06_part.ok hy18) b108 (opds_cons tm (opds_cons tm (opds_cons tm opds_nil)))) (s3 rfl rfl rfl) <| cwn (oStP (n := 0) (k := 0) (m := 5) (d := (kR f_reticentref06_P)) (u := y18) (lfS (lfC lf1 (lfC (lfS (lfC lf1 (lfC lf1 (lfC lf1 lfN)))) (lfC lf1 lfN)))) rfl rfl rfl z126 tm tm) (s2 rfl rfl) <| .nil) (by kernel_rfl) ?_
      refine pBlkN ?_
      refine pSeq ?_
      refine rg (cp (oMv tm) (s1 rfl) <| cp (oAdd tm (cI (by decide))) (s1 rfl) <| cp (oAs tm) (s1 rfl) <| .nil) (by kernel_rfl) ?_
      exact pLoop (lW (ih _ _ _ _ _ _ h) ⟨rfl, rfl, rfl, rfl, trivial⟩ rfl)
    · refine wCF hp17 tm (s1 rfl) ?_
      refine wExit ?_
      refine pThenX ?_
      refine pThenX ?_
      refine pBlkX ?_
      exact pJ5 _ _ _ _ _ (so h) ⟨rfl, rfl, trivial⟩ rfl
  · rintro x12 x13 x14 x15 x16 rfl
    replace h := hk1
    refine pSeq ?_
    refine wSeq ?_
    refine rg (cr (oLdP (n := 0) (k := 0) (m := 5) (d := (kR f_reticentref06_P)) (u := (⟨x12, ⟨x13, x14, x15⟩, x16⟩ : reticentref06_P)) (lfS (lfC lf1 (lfC (lfS (lfC lf1 (lfC lf1 (lfC lf1 lfN)))) (lfC lf1 lfN)))) rfl rfl rfl t126 tm) (s1 rfl) <| cwn (oStP (n := 1) (k := 0) (m := 5) (d := (kR f_reticentref06_P)) (u := (⟨x12, ⟨x13, x14, x15⟩, x16⟩ : reticentref06_P)) (lfS (lfC lf1 (lfC (lfS (lfC lf1 (lfC lf1 (lfC lf1 lfN)))) (lfC lf1 lfN)))) rfl rfl rfl z126 tm tm) (s2 rfl rfl) <| .nil) (by kernel_rfl) ?_
    refine pSeq ?_
    refine wRet ?_
    obtain rfl := so h
    exact pR1 (.inl rfl) rfl (.boxP (n := 1) (d := (kR f_reticentref06_P)) (u := (⟨x12, ⟨x13, x14, x15⟩, x16⟩ : reticentref06_P)) rfl rfl (lfS (lfC lf1 (lfC (lfS (lfC lf1 (lfC lf1 (lfC lf1 lfN)))) (lfC lf1 lfN)))) rfl t126 <| .nil)

theorem reticentref04_two.ok {a0 : List Int} {a1 : Int} {r : Bool} (h : reticentref04_two.f a0 a1 = some r) : FnA Tryd.prog 168 [(kL (kI .i64)).sig a0, (kI .i64).sig a1] (kB.sig r) := by
  refine fnIntro Tryd.func168 rfl (by kernel_rfl) fun H0 w0 => ?_
  unfold reticentref04_two.f at h
  refine wSeq ?_
  refine rg (cp (oAs cB) trivial <| .nil) (by kernel_rfl) ?_
  refine pSeq ?_
  refine wSeq ?_
  refine rg (cp (oMv tm) (s1 rfl) <| cp (oLenL u85 tm) (s1 rfl) <| cp (oAs tm) (s1 rfl) <| .nil) (by kernel_rfl) ?_
  refine pSeq ?_
  obtain ⟨o1, h, hk1⟩ := bd h
  refine wJ1 (fun x5 => x5 = o1) (fun x5 => [(4, .d (kB.sig x5))]) (fun x5 => []) ?_ ?_
  · rcases ic h with ⟨hp6, h⟩ | ⟨hp6, h⟩
    · obtain ⟨y7, hy7, h⟩ := bd h
      rcases ic h with ⟨hp8, h⟩ | ⟨hp8, h⟩
      · obtain ⟨y9, hy9, h⟩ := bd h
        refine rg (cp (oMv tm) (s1 rfl) <| cp (oGe rfl tm (cI (by decide))) (s1 rfl) <| cp (oMv tm) (s1 rfl) <| cgB (decide_eq_true hp6) rfl rfl (oMv tm) (s1 rfl) <| cgB (decide_eq_true hp6) rfl rfl (oMv tm) (s1 rfl) <| cgB (decide_eq_true hp6) rfl rfl (oSub tm (cI (by decide))) (s1 rfl) <| cgB (decide_eq_true hp6) rfl rfl (oIdx u85 z3 hy7 tm tm) (s2 rfl rfl) <| cgB (decide_eq_true hp6) rfl rfl (oLd t3 tm) (s1 rfl) <| cgB (decide_eq_true hp6) rfl rfl (oMv tm) (s1 rfl) <| cgB (decide_eq_true hp6) rfl rfl (oEq rfl tm tm) (s2 rfl rfl) <| cp (oPkT (decide_eq_true hp6) tm tm) (s2 rfl rfl) <| cp (oMv tm) (s1 rfl) <| cgB (decide_eq_true hp8) rfl rfl (oMv tm) (s1 rfl) <| cgB (decide_eq_true hp8) rfl rfl (oMv tm) (s1 rfl) <| cgB (decide_eq_true hp8) rfl rfl (oSub tm (cI (by decide))) (s1 rfl) <| cgB (decide_eq_true hp8) rfl rfl (oIdx u85 z3 hy9 tm tm) (s2 rfl rfl) <| cgB (decide_eq_true hp8) rfl rfl (oLd t3 tm) (s1 rfl) <| cgB (decide_eq_true hp8) rfl rfl (oMv tm) (s1 rfl) <| cgB (decide_eq_true hp8) rfl rfl (oEq rfl tm tm) (s2 rfl rfl) <| cp (oPkT (decide_eq_true hp8) tm tm) (s2 rfl rfl) <| cp (oAs tm) (s1 rfl) <| .nil) (by kernel_rfl) ?_
        exact pJ1 _ (so h) ⟨rfl, trivial⟩ rfl
      · refine rg (cp (oMv tm) (s1 rfl) <| cp (oGe rfl tm (cI (by decide))) (s1 rfl) <| cp (oMv tm) (s1 rfl) <| cgB (decide_eq_true hp6) rfl rfl (oMv tm) (s1 rfl) <| cgB (decide_eq_true hp6) rfl rfl (oMv tm) (s1 rfl) <| cgB (decide_eq_true hp6) rfl rfl (oSub tm (cI (by decide))) (s1 rfl) <| cgB (decide_eq_true hp6) rfl rfl (oIdx u85 z3 hy7 tm tm) (s2 rfl rfl) <| cgB (decide_eq_true hp6) rfl rfl (oLd t3 tm) (s1 rfl) <| cgB (decide_eq_true hp6) rfl rfl (oMv tm) (s1 rfl) <| cgB (decide_eq_true hp6) rfl rfl (oEq rfl tm tm) (s2 rfl rfl) <| cp (oPkT (decide_eq_true hp6) tm tm) (s2 rfl rfl) <| cp (oMv tm) (s1 rfl) <| csB (decide_eq_false hp8) rfl rfl <| csB (decide_eq_false hp8) rfl rfl <| csB (decide_eq_false hp8) rfl rfl <| csB (decide_eq_false hp8) rfl rfl <| csB (decide_eq_false hp8) rfl rfl <| csB (decide_eq_false hp8) rfl rfl <| csB (decide_eq_false hp8) rfl rfl <| cp (oPkF (decide_eq_false hp8) tm cB) (s1 rfl) <| cp (oAs tm) (s1 rfl) <| .nil) (by kernel_rfl) ?_
        exact pJ1 _ (so h) ⟨rfl, trivial⟩ rfl
    · refine rg (cp (oMv tm) (s1 rfl) <| cp (oGe rfl tm (cI (by decide))) (s1 rfl) <| cp (oMv tm) (s1 rfl) <| csB (decide_eq_false hp6) rfl rfl <| csB (decide_eq_false hp6) rfl rfl <| csB (decide_eq_false hp6) rfl rfl <| csB (decide_eq_false hp6) rfl rfl <| csB (decide_eq_false hp6) rfl rfl <| csB (decide_eq_false hp6) rfl rfl <| csB (decide_eq_false hp6) rfl rfl <| cp (oPkF (decide_eq_false hp6) tm cB) (s1 rfl) <| cp (oMv tm) (s1 rfl) <| csB rfl rfl rfl <| csB rfl rfl rfl <| csB rfl rfl rfl <| csB rfl rfl rfl <| csB rfl rfl rfl <| csB rfl rfl rfl <| csB rfl rfl rfl <| cp (oPkF rfl tm cB) (s1 rfl) <| cp (oAs tm) (s1 rfl) <| .nil) (by kernel_rfl) ?_
      exact pJ1 _ (so h) ⟨rfl, trivial⟩ rfl
  · rintro x5 rfl
    replace h := hk1
    refine wRet ?_
    obtain rfl := so h
    exact pR1 (.inl rfl) rfl (.tmp rfl <| .nil)

theorem reticentref04_Made.ok {a0 : List Int} {r : Int} (h : reticentref04_Made.f a0 = some r) : FnA Tryd.prog 113 [(kL (kI .i64)).sig a0] ((kI .i64).sig r) := by
  refine fnIntro Tryd.func113 rfl (by kernel_rfl) fun H0 w0 => ?_
  unfold reticentref04_Made.f at h
  refine wSeq ?_
  refine rg (cp (oAs (cI (by decide))) trivial <| .nil) (by kernel_rfl) ?_
  refine pSeq ?_
  refine wSeq ?_
  refine rg (cw (oLitR (id := 7) (d := (kI .i64)) el85 (by decide) rfl rfl rfl e0) trivial <| cp (oAs tm) (s1 rfl) <| .nil) (by kernel_rfl) ?_
  refine pSeq ?_
  refine wSeq ?_
  refine wSeq ?_
  refine rg (cp (oMv tm) (s1 rfl) <| cp (oLenL u85 tm) (s1 rfl) <| cp (oMv (cI (by decide))) trivial <| .nil) (by kernel_rfl) ?_
  refine pSeq ?_
  refine wWeak (Γ' := [(0, .d ((kL (kI .i64)).sig a0)), (3, .v 7), (8, .d ((kL (kI .i64)).sig a0)), (9, .d ((kI .i64).sig (a0.length : Int))), (10, .d ((kI .i64).sig 0))]) ⟨rfl, rfl, rfl, rfl, rfl, trivial⟩ ?_
  refine wRen 7 1003 rfl ?_
  obtain ⟨o1, h, hk1⟩ := bd h
  refine wK1 (fun x171 => .inr x171 = o1) (fun x171 => [(0, .d ((kL (kI .i64)).sig a0)), (3, .v 1003)]) (fun x171 => [.row 1003 3 (kI .i64) x171]) ?_ ?_
  · refine wBlock (wLoop ?_)
    refine lW (pc2 o1 (fun v169 v170 => [(0, .d ((kL (kI .i64)).sig a0)), (3, .v 1003), (8, .d ((kL (kI .i64)).sig a0)), (9, .d ((kI .i64).sig (a0.length : Int))), (10, .d ((kI .i64).sig v170))]) (fun v169 v170 => [.row 1003 3 (kI .i64) v169]) (reticentref04_Made.l0.partial_correctness a0) ?_ _ _ h) ⟨rfl, rfl, rfl, rfl, rfl, trivial⟩ rfl
    clear h
    intro f' ih v169 v170 h
    refine wSeq ?_
    refine rg (cp (oLt rfl tm tm) (s2 rfl rfl) <| .nil) (by kernel_rfl) ?_
    refine pSeq ?_
    refine wSeq ?_
    rcases ic h with ⟨hp172, h⟩ | ⟨hp172, h⟩
    · refine wCT hp172 tm (s1 rfl) ?_
      refine wSkip ?_
      refine pSeq ?_
      obtain ⟨o2, h, hk2⟩ := bd h
      refine wJ1 (fun x214 => .inr x214 = o2) (fun x214 => [(0, .d ((kL (kI .i64)).sig a0)), (3, .v 1003), (8, .d ((kL (kI .i64)).sig a0)), (9, .d ((kI .i64).sig (a0.length : Int))), (10, .d ((kI .i64).sig v170))]) (fun x214 => [.row 1003 3 (kI .i64) x214]) ?_ ?_
      · refine wBlock ?_
        refine wSeq ?_
        obtain ⟨y215, hy215, h⟩ := bd h
        refine rg (cp (oIdx u85 z3 hy215 tm tm) (s2 rfl rfl) <| cp (oLd t3 tm) (s1 rfl) <| cp (oAs tm) (s1 rfl) <| .nil) (by kernel_rfl) ?_
        refine pSeq ?_
        refine wSeq ?_
        refine rg (cp (oMv tm) (s1 rfl) <| cr (oLenR (n := 0) u85 rfl tm) (s1 rfl) <| cp (oAs tm) (s1 rfl) <| .nil) (by kernel_rfl) ?_
        refine pSeq ?_
        obtain ⟨o3, h, hk3⟩ := bd h
        refine wJ1 (fun x217 => x217 = o3) (fun x217 => [(0, .d ((kL (kI .i64)).sig a0)), (3, .v 1003), (5, .d ((kI .i64).sig y215)), (6, .d ((kI .i64).sig (v169.length : Int))), (8, .d ((kL (kI .i64)).sig a0)), (9, .d ((kI .i64).sig (a0.length : Int))), (10, .d ((kI .i64).sig v170)), (21, .d (kB.sig x217))]) (fun x217 => [.row 1003 3 (kI .i64) v169]) ?_ ?_
        · rcases ic h with ⟨hp218, h⟩ | ⟨hp218, h⟩
          · refine rg (cp (oMv tm) (s1 rfl) <| cp (oEq rfl tm (cI (by decide))) (s1 rfl) <| cp (oMv tm) (s1 rfl) <| csB (decide_eq_true hp218) rfl rfl <| csB (decide_eq_true hp218) rfl rfl <| cp (oPkT (decide_eq_true hp218) tm cB) (s1 rfl) <| .nil) (by kernel_rfl) ?_
            exact pJ1 _ (so h) ⟨rfl, rfl, rfl, rfl, rfl, rfl, rfl, rfl, trivial⟩ rfl
          · refine rg (cp (oMv tm) (s1 rfl) <| cp (oEq rfl tm (cI (by decide))) (s1 rfl) <| cp (oMv tm) (s1 rfl) <| cgB (decide_eq_false hp218) rfl rfl (oMv tm) (s1 rfl) <| cgB (decide_eq_false hp218) rfl rfl (oEq rfl tm (cI (by decide))) (s1 rfl) <| cp (oPkF (decide_eq_false hp218) tm tm) (s2 rfl rfl) <| .nil) (by kernel_rfl) ?_
            exact pJ1 _ (so h) ⟨rfl, rfl, rfl, rfl, rfl, rfl, rfl, rfl, trivial⟩ rfl
        · rintro x217 rfl
          replace h := hk3
          rcases ic h with ⟨hp219, h⟩ | ⟨hp219, h⟩
          · refine wBT hp219 tm (s1 rfl) ?_
            obtain ⟨hc220, h⟩ := ib h
            refine rg (cp (oMv tm) (s1 rfl) <| cp (oLit (d := (kI .i64)) el85 (by decide) rfl rfl rfl (e1 (cI (by decide)) e0)) trivial <| cw (oApp (n := 0) (id' := 24) el85 (by decide) rfl (by decide) hc220 tm tm) (s2 rfl rfl) <| cp (oAs tm) (s1 rfl) <| .nil) (by kernel_rfl) ?_
            refine pBlkN ?_
            refine pSub (Γ' := [(0, .d ((kL (kI .i64)).sig a0)), (3, .v 24), (8, .d ((kL (kI .i64)).sig a0)), (9, .d ((kI .i64).sig (a0.length : Int))), (10, .d ((kI .i64).sig v170))]) ⟨rfl, rfl, rfl, rfl, rfl, trivial⟩ ?_
            refine pRen 24 1003 rfl ?_
            exact pJ1 _ (so h) ⟨rfl, rfl, rfl, rfl, rfl, trivial⟩ rfl
          · refine wBF hp219 tm (s1 rfl) ?_
            obtain ⟨o3, h, hk3⟩ := bd h
            refine wJ1 (fun x222 => x222 = o3) (fun x222 => [(0, .d ((kL (kI .i64)).sig a0)), (3, .v 1003), (5, .d ((kI .i64).sig y215)), (6, .d ((kI .i64).sig (v169.length : Int))), (8, .d ((kL (kI .i64)).sig a0)), (9, .d ((kI .i64).sig (a0.length : Int))), (10, .d ((kI .i64).sig v170)), (30, .d (kB.sig x222))]) (fun x222 => [.row 1003 3 (kI .i64) v169]) ?_ ?_
            · rcases ic h with ⟨hp223, h⟩ | ⟨hp223, h⟩
              · refine rg (cp (oMv tm) (s1 rfl) <| cp (oGe rfl tm (cI (by decide))) (s1 rfl) <| cp (oMv tm) (s1 rfl) <| cgB (decide_eq_true hp223) rfl rfl (oMv tm) (s1 rfl) <| cgB (decide_eq_true hp223) rfl rfl (oLe rfl tm (cI (by decide))) (s1 rfl) <| cp (oPkT (decide_eq_true hp223) tm tm) (s2 rfl rfl) <| .nil) (by kernel_rfl) ?_
                exact pJ1 _ (so h) ⟨rfl, rfl, rfl, rfl, rfl, rfl, rfl, rfl, trivial⟩ rfl
              · refine rg (cp (oMv tm) (s1 rfl) <| cp (oGe rfl tm (cI (by decide))) (s1 rfl) <| cp (oMv tm) (s1 rfl) <| csB (decide_eq_false hp223) rfl rfl <| csB (decide_eq_false hp223) rfl rfl <| cp (oPkF (decide_eq_false hp223) tm cB) (s1 rfl) <| .nil) (by kernel_rfl) ?_
                exact pJ1 _ (so h) ⟨rfl, rfl, rfl, rfl, rfl, rfl, rfl, rfl, trivial⟩ rfl
            · rintro x222 rfl
              replace h := hk3
              rcases ic h with ⟨hp224, h⟩ | ⟨hp224, h⟩
              · refine wBT hp224 tm (s1 rfl) ?_
                obtain ⟨hc225, h⟩ := ib h
                refine rg (cp (oMv tm) (s1 rfl) <| cp (oLit (d := (kI .i64)) el85 (by decide) rfl rfl rfl (e1 (cI (by decide)) e0)) trivial <| cw (oApp (n := 0) (id' := 33) el85 (by decide) rfl (by decide) hc225 tm tm) (s2 rfl rfl) <| cp (oAs tm) (s1 rfl) <| .nil) (by kernel_rfl) ?_
                refine pBlkN ?_
                refine pSub (Γ' := [(0, .d ((kL (kI .i64)).sig a0)), (3, .v 33), (8, .d ((kL (kI .i64)).sig a0)), (9, .d ((kI .i64).sig (a0.length : Int))), (10, .d ((kI .i64).sig v170))]) ⟨rfl, rfl, rfl, rfl, rfl, trivial⟩ ?_
                refine pRen 33 1003 rfl ?_
                exact pJ1 _ (so h) ⟨rfl, rfl, rfl, rfl, rfl, trivial⟩ rfl
              · refine wBF hp224 tm (s1 rfl) ?_
                obtain ⟨o3, h, hk3⟩ := bd h
                refine wJ1 (fun x230 => x230 = o3) (fun x230 => [(0, .d ((kL (kI .i64)).sig a0)), (3, .v 1003), (5, .d ((kI .i64).sig y215)), (6, .d ((kI .i64).sig (v169.length : Int))), (8, .d ((kL (kI .i64)).sig a0)), (9, .d ((kI .i64).sig (a0.length : Int))), (10, .d ((kI .i64).sig v170)), (43, .d (kB.sig x230))]) (fun x230 => [.row 1003 3 (kI .i64) v169]) ?_ ?_
                · rcases ic h with ⟨hp231, h⟩ | ⟨hp231, h⟩
                  · obtain ⟨y232, hy232, h⟩ := bd h
                    refine rg (cp (oMv tm) (s1 rfl) <| cp (oEq rfl tm (cI (by decide))) (s1 rfl) <| cp (oMv tm) (s1 rfl) <| csB (decide_eq_true hp231) rfl rfl <| csB (decide_eq_true hp231) rfl rfl <| cp (oPkT (decide_eq_true hp231) tm cB) (s1 rfl) <| cp (oMv tm) (s1 rfl) <| cgB rfl rfl rfl (oMv tm) (s1 rfl) <| crgB rfl rfl rfl (oCallB rfl (reticentref04_two.ok hy232) (fK fB) b168 (rc1 (rR (n := 0) rfl) (rc1 (rD (cI (by decide))) rn0))) (s1 rfl) <| cp (oPkT rfl tm tm) (s2 rfl rfl) <| .nil) (by kernel_rfl) ?_
                    exact pJ1 _ (so h) ⟨rfl, rfl, rfl, rfl, rfl, rfl, rfl, rfl, trivial⟩ rfl
                  · rcases ic h with ⟨hp233, h⟩ | ⟨hp233, h⟩
                    · obtain ⟨y234, hy234, h⟩ := bd h
                      refine rg (cp (oMv tm) (s1 rfl) <| cp (oEq rfl tm (cI (by decide))) (s1 rfl) <| cp (oMv tm) (s1 rfl) <| cgB (decide_eq_false hp231) rfl rfl (oMv tm) (s1 rfl) <| cgB (decide_eq_false hp231) rfl rfl (oEq rfl tm (cI (by decide))) (s1 rfl) <| cp (oPkF (decide_eq_false hp231) tm tm) (s2 rfl rfl) <| cp (oMv tm) (s1 rfl) <| cgB (decide_eq_true hp233) rfl rfl (oMv tm) (s1 rfl) <| crgB (decide_eq_true hp233) rfl rfl (oCallB rfl (reticentref04_two.ok hy234) (fK fB) b168 (rc1 (rR (n := 0) rfl) (rc1 (rD (cI (by decide))) rn0))) (s1 rfl) <| cp (oPkT (decide_eq_true hp233) tm tm) (s2 rfl rfl) <| .nil) (by kernel_rfl) ?_
                      exact pJ1 _ (so h) ⟨rfl, rfl, rfl, rfl, rfl, rfl, rfl, rfl, trivial⟩ rfl
                    · refine rg (cp (oMv tm) (s1 rfl) <| cp (oEq rfl tm (cI (by decide))) (s1 rfl) <| cp (oMv tm) (s1 rfl) <| cgB (decide_eq_false hp231) rfl rfl (oMv tm) (s1 rfl) <| cgB (decide_eq_false hp231) rfl rfl (oEq rfl tm (cI (by decide))) (s1 rfl) <| cp (oPkF (decide_eq_false hp231) tm tm) (s2 rfl rfl) <| cp (oMv tm) (s1 rfl) <| csB (decide_eq_false hp233) rfl rfl <| csB (decide_eq_false hp233) rfl rfl <| cp (oPkF (decide_eq_false hp233) tm cB) (s1 rfl) <| .nil) (by kernel_rfl) ?_
                      exact pJ1 _ (so h) ⟨rfl, rfl, rfl, rfl, rfl, rfl, rfl, rfl, trivial⟩ rfl
                · rintro x230 rfl
                  replace h := hk3
                  rcases ic h with ⟨hp235, h⟩ | ⟨hp235, h⟩
                  · refine wBT hp235 tm (s1 rfl) ?_
                    obtain ⟨hc236, h⟩ := ib h
                    refine rg (cp (oMv tm) (s1 rfl) <| cp (oMv tm) (s1 rfl) <| cp (oSub tm (cI (by decide))) (s1 rfl) <| cw (oCutR (n := 0) (id' := 47) u85 z3 rfl hc236.1 hc236.2 tm tm) (s2 rfl rfl) <| cp (oAs tm) (s1 rfl) <| .nil) (by kernel_rfl) ?_
                    refine pBlkN ?_
                    refine pSub (Γ' := [(0, .d ((kL (kI .i64)).sig a0)), (3, .v 47), (8, .d ((kL (kI .i64)).sig a0)), (9, .d ((kI .i64).sig (a0.length : Int))), (10, .d ((kI .i64).sig v170))]) ⟨rfl, rfl, rfl, rfl, rfl, trivial⟩ ?_
                    refine pRen 47 1003 rfl ?_
                    exact pJ1 _ (so h) ⟨rfl, rfl, rfl, rfl, rfl, trivial⟩ rfl
                  · refine wBF hp235 tm (s1 rfl) ?_
                    obtain ⟨o3, h, hk3⟩ := bd h
                    refine wJ1 (fun x239 => x239 = o3) (fun x239 => [(0, .d ((kL (kI .i64)).sig a0)), (3, .v 1003), (5, .d ((kI .i64).sig y215)), (6, .d ((kI .i64).sig (v169.length : Int))), (8, .d ((kL (kI .i64)).sig a0)), (9, .d ((kI .i64).sig (a0.length : Int))), (10, .d ((kI .i64).sig v170)), (53, .d (kB.sig x239))]) (fun x239 => [.row 1003 3 (kI .i64) v169]) ?_ ?_
                    · rcases ic h with ⟨hp240, h⟩ | ⟨hp240, h⟩
                      · obtain ⟨y241, hy241, h⟩ := bd h
                        refine rg (cp (oMv tm) (s1 rfl) <| cp (oEq rfl tm (cI (by decide))) (s1 rfl) <| cp (oMv tm) (s1 rfl) <| cgB (decide_eq_true hp240) rfl rfl (oMv tm) (s1 rfl) <| crgB (decide_eq_true hp240) rfl rfl (oCallB rfl (reticentref04_two.ok hy241) (fK fB) b168 (rc1 (rR (n := 0) rfl) (rc1 (rD (cI (by decide))) rn0))) (s1 rfl) <| cp (oPkT (decide_eq_true hp240) tm tm) (s2 rfl rfl) <| .nil) (by kernel_rfl) ?_
                        exact pJ1 _ (so h) ⟨rfl, rfl, rfl, rfl, rfl, rfl, rfl, rfl, trivial⟩ rfl
                      · refine rg (cp (oMv tm) (s1 rfl) <| cp (oEq rfl tm (cI (by decide))) (s1 rfl) <| cp (oMv tm) (s1 rfl) <| csB (decide_eq_false hp240) rfl rfl <| csB (decide_eq_false hp240) rfl rfl <| cp (oPkF (decide_eq_false hp240) tm cB) (s1 rfl) <| .nil) (by kernel_rfl) ?_
                        exact pJ1 _ (so h) ⟨rfl, rfl, rfl, rfl, rfl, rfl, rfl, rfl, trivial⟩ rfl
                    · rintro x239 rfl
                      replace h := hk3
                      rcases ic h with ⟨hp242, h⟩ | ⟨hp242, h⟩
                      · refine wBT hp242 tm (s1 rfl) ?_
                        refine wSeq ?_
                        obtain ⟨hc243, h⟩ := ib h
                        refine rg (cp (oMv tm) (s1 rfl) <| cp (oMv tm) (s1 rfl) <| cp (oSub tm (cI (by decide))) (s1 rfl) <| cw (oCutR (n := 0) (id' := 57) u85 z3 rfl hc243.1 hc243.2 tm tm) (s2 rfl rfl) <| cp (oAs tm) (s1 rfl) <| .nil) (by kernel_rfl) ?_
                        refine pSeq ?_
                        obtain ⟨hc244, h⟩ := ib h
                        refine rg (cp (oMv tm) (s1 rfl) <| cp (oLit (d := (kI .i64)) el85 (by decide) rfl rfl rfl (e1 (cI (by decide)) e0)) trivial <| cw (oApp (n := 0) (id' := 60) el85 (by decide) rfl (by decide) hc244 tm tm) (s2 rfl rfl) <| cp (oAs tm) (s1 rfl) <| .nil) (by kernel_rfl) ?_
                        refine pBlkN ?_
                        refine pSub (Γ' := [(0, .d ((kL (kI .i64)).sig a0)), (3, .v 60), (8, .d ((kL (kI .i64)).sig a0)), (9, .d ((kI .i64).sig (a0.length : Int))), (10, .d ((kI .i64).sig v170))]) ⟨rfl, rfl, rfl, rfl, rfl, trivial⟩ ?_
                        refine pRen 60 1003 rfl ?_
                        exact pJ1 _ (so h) ⟨rfl, rfl, rfl, rfl, rfl, trivial⟩ rfl
                      · refine wBF hp242 tm (s1 rfl) ?_
                        obtain ⟨o3, h, hk3⟩ := bd h
                        refine wJ1 (fun x249 => x249 = o3) (fun x249 => [(0, .d ((kL (kI .i64)).sig a0)), (3, .v 1003), (6, .d ((kI .i64).sig (v169.length : Int))), (8, .d ((kL (kI .i64)).sig a0)), (9, .d ((kI .i64).sig (a0.length : Int))), (10, .d ((kI .i64).sig v170)), (70, .d (kB.sig x249))]) (fun x249 => [.row 1003 3 (kI .i64) v169]) ?_ ?_
                        · rcases ic h with ⟨hp250, h⟩ | ⟨hp250, h⟩
                          · obtain ⟨y251, hy251, h⟩ := bd h
                            refine rg (cp (oMv tm) (s1 rfl) <| cp (oEq rfl tm (cI (by decide))) (s1 rfl) <| cp (oMv tm) (s1 rfl) <| csB (decide_eq_true hp250) rfl rfl <| csB (decide_eq_true hp250) rfl rfl <| cp (oPkT (decide_eq_true hp250) tm cB) (s1 rfl) <| cp (oMv tm) (s1 rfl) <| cgB rfl rfl rfl (oMv tm) (s1 rfl) <| crgB rfl rfl rfl (oCallB rfl (reticentref04_two.ok hy251) (fK fB) b168 (rc1 (rR (n := 0) rfl) (rc1 (rD (cI (by decide))) rn0))) (s1 rfl) <| cp (oPkT rfl tm tm) (s2 rfl rfl) <| .nil) (by kernel_rfl) ?_
                            exact pJ1 _ (so h) ⟨rfl, rfl, rfl, rfl, rfl, rfl, rfl, trivial⟩ rfl
                          · rcases ic h with ⟨hp252, h⟩ | ⟨hp252, h⟩
                            · obtain ⟨y253, hy253, h⟩ := bd h
                              refine rg (cp (oMv tm) (s1 rfl) <| cp (oEq rfl tm (cI (by decide))) (s1 rfl) <| cp (oMv tm) (s1 rfl) <| cgB (decide_eq_false hp250) rfl rfl (oMv tm) (s1 rfl) <| cgB (decide_eq_false hp250) rfl rfl (oEq rfl tm (cI (by decide))) (s1 rfl) <| cp (oPkF (decide_eq_false hp250) tm tm) (s2 rfl rfl) <| cp (oMv tm) (s1 rfl) <| cgB (decide_eq_true hp252) rfl rfl (oMv tm) (s1 rfl) <| crgB (decide_eq_true hp252) rfl rfl (oCallB rfl (reticentref04_two.ok hy253) (fK fB) b168 (rc1 (rR (n := 0) rfl) (rc1 (rD (cI (by decide))) rn0))) (s1 rfl) <| cp (oPkT (decide_eq_true hp252) tm tm) (s2 rfl rfl) <| .nil) (by kernel_rfl) ?_
                              exact pJ1 _ (so h) ⟨rfl, rfl, rfl, rfl, rfl, rfl, rfl, trivial⟩ rfl
                            · refine rg (cp (oMv tm) (s1 rfl) <| cp (oEq rfl tm (cI (by decide))) (s1 rfl) <| cp (oMv tm) (s1 rfl) <| cgB (decide_eq_false hp250) rfl rfl (oMv tm) (s1 rfl) <| cgB (decide_eq_false hp250) rfl rfl (oEq rfl tm (cI (by decide))) (s1 rfl) <| cp (oPkF (decide_eq_false hp250) tm tm) (s2 rfl rfl) <| cp (oMv tm) (s1 rfl) <| csB (decide_eq_false hp252) rfl rfl <| csB (decide_eq_false hp252) rfl rfl <| cp (oPkF (decide_eq_false hp252) tm cB) (s1 rfl) <| .nil) (by kernel_rfl) ?_
                              exact pJ1 _ (so h) ⟨rfl, rfl, rfl, rfl, rfl, rfl, rfl, trivial⟩ rfl
                        · rintro x249 rfl
                          replace h := hk3
                          rcases ic h with ⟨hp254, h⟩ | ⟨hp254, h⟩
                          · refine wBT hp254 tm (s1 rfl) ?_
                            obtain ⟨hc255, h⟩ := ib h
                            refine rg (cp (oMv tm) (s1 rfl) <| cp (oMv tm) (s1 rfl) <| cp (oSub tm (cI (by decide))) (s1 rfl) <| cw (oCutR (n := 0) (id' := 74) u85 z3 rfl hc255.1 hc255.2 tm tm) (s2 rfl rfl) <| cp (oAs tm) (s1 rfl) <| .nil) (by kernel_rfl) ?_
                            refine pBlkN ?_
                            refine pSub (Γ' := [(0, .d ((kL (kI .i64)).sig a0)), (3, .v 74), (8, .d ((kL (kI .i64)).sig a0)), (9, .d ((kI .i64).sig (a0.length : Int))), (10, .d ((kI .i64).sig v170))]) ⟨rfl, rfl, rfl, rfl, rfl, trivial⟩ ?_
                            refine pRen 74 1003 rfl ?_
                            exact pJ1 _ (so h) ⟨rfl, rfl, rfl, rfl, rfl, trivial⟩ rfl
                          · refine wBF hp254 tm (s1 rfl) ?_
                            refine wSeq ?_
                            refine rg (cp (oAs (cI (by decide))) trivial <| .nil) (by kernel_rfl) ?_
                            refine pSeq ?_
                            refine wRet ?_
                            refine pBlkR ?_
                            refine pThenR ?_
                            obtain rfl := so h
                            replace h := hk2
                            refine pThenR ?_
                            refine pBlkR ?_
                            refine pThenR ?_
                            obtain rfl := so h
                            replace h := hk1
                            refine pThenR ?_
                            obtain rfl := so h
                            exact pR1 (.inl rfl) rfl (.tmp rfl <| .nil)
      · rintro x214 rfl
        replace h := hk2
        refine rg (cp (oAdd tm (cI (by decide))) (s1 rfl) <| cp (oMv tm) (s1 rfl) <| .nil) (by kernel_rfl) ?_
        exact pLoop (lW (ih _ _ h) ⟨rfl, rfl, rfl, rfl, rfl, trivial⟩ rfl)
    · refine wCF hp172 tm (s1 rfl) ?_
      refine wExit ?_
      refine pThenX ?_
      refine pThenX ?_
      refine pBlkX ?_
      exact pJ1 _ (so h) ⟨rfl, rfl, trivial⟩ rfl
  · rintro x171 rfl
    replace h := hk1
    refine pSeq ?_
    refine wSeq ?_
    obtain ⟨o1, h, hk1⟩ := bd h
    refine wJ1 (fun x257 => x257 = o1) (fun x257 => [(3, .v 1003), (83, .d (kB.sig x257))]) (fun x257 => [.row 1003 3 (kI .i64) x171]) ?_ ?_
    · rcases ic h with ⟨hp258, h⟩ | ⟨hp258, h⟩
      · refine rg (cp (oMv tm) (s1 rfl) <| cr (oLenR (n := 0) u85 rfl tm) (s1 rfl) <| cp (oNe rfl tm (cI (by decide))) (s1 rfl) <| cp (oMv tm) (s1 rfl) <| cgB (nf hp258) rfl rfl (oMv tm) (s1 rfl) <| cgB (nf hp258) rfl rfl (oLenL u85 tm) (s1 rfl) <| cgB (nf hp258) rfl rfl (oGt rfl tm (cI (by decide))) (s1 rfl) <| cp (oPkF (nf hp258) tm tm) (s2 rfl rfl) <| .nil) (by kernel_rfl) ?_
        exact pJ1 _ (so h) ⟨rfl, rfl, trivial⟩ rfl
      · refine rg (cp (oMv tm) (s1 rfl) <| cr (oLenR (n := 0) u85 rfl tm) (s1 rfl) <| cp (oNe rfl tm (cI (by decide))) (s1 rfl) <| cp (oMv tm) (s1 rfl) <| csB (nt hp258) rfl rfl <| csB (nt hp258) rfl rfl <| csB (nt hp258) rfl rfl <| cp (oPkT (nt hp258) tm cB) (s1 rfl) <| .nil) (by kernel_rfl) ?_
        exact pJ1 _ (so h) ⟨rfl, rfl, trivial⟩ rfl
    · rintro x257 rfl
      replace h := hk1
      rcases ic h with ⟨hp259, h⟩ | ⟨hp259, h⟩
      · refine wBT hp259 tm (s1 rfl) ?_
        refine wSeq ?_
        refine rg (cp (oAs (cI (by decide))) trivial <| .nil) (by kernel_rfl) ?_
        refine pSeq ?_
        refine wRet ?_
        refine pThenR ?_
        obtain rfl := so h
        exact pR1 (.inl rfl) rfl (.tmp rfl <| .nil)
      · refine wBF hp259 tm (s1 rfl) ?_
        refine wSkip ?_
        refine pSeq ?_
        refine wSeq ?_
        obtain ⟨y260, hy260, h⟩ := bd h
        refine rg (cp (oMv tm) (s1 rfl) <| cr (oIdxR (n := 0) u85 z3 rfl hy260 tm (cI (by decide))) (s1 rfl) <| cr (oLdE (n := 0) rfl hy260 rfl t3 tm) (s1 rfl) <| cp (oAs tm) (s1 rfl) <| .nil) (by kernel_rfl) ?_
        refine pSeq ?_
        refine wRet ?_
        obtain rfl := so h
        exact pR1 (.inl rfl) rfl (.tmp rfl <| .nil)

theorem reticentref04_Right.ok {a0 : List Int} {a1 : Bool} {r : Bool} (h : reticentref04_Right.f a0 a1 = some r) : FnA Tryd.prog 100 [(kL (kI .i64)).sig a0, kB.sig a1] (kB.sig r) := by
  refine fnIntro Tryd.func100 rfl (by kernel_rfl) fun H0 w0 => ?_
  unfold reticentref04_Right.f at h
  refine wSeq ?_
  refine rg (cp (oAs cB) trivial <| .nil) (by kernel_rfl) ?_
  refine pSeq ?_
  refine wSeq ?_
  refine wSeq ?_
  refine rg (cp (oMv tm) (s1 rfl) <| .nil) (by kernel_rfl) ?_
  refine pSeq ?_
  rcases ic h with ⟨hp1, h⟩ | ⟨hp1, h⟩
  · refine wBT hp1 tm (s1 rfl) ?_
    refine wSeq ?_
    obtain ⟨y2, hy2, h⟩ := bd h
    refine rg (cp (oMv tm) (s1 rfl) <| cp (oCall rfl (reticentref04_Made.ok hy2) b113 (opds_cons tm opds_nil)) (s1 rfl) <| cp (oEq rfl tm (cI (by decide))) (s1 rfl) <| cp (oAs tm) (s1 rfl) <| .nil) (by kernel_rfl) ?_
    refine pSeq ?_
    refine wRet ?_
    refine pThenR ?_
    obtain rfl := so h
    exact pR1 (.inl rfl) rfl (.tmp rfl <| .nil)
  · refine wBF hp1 tm (s1 rfl) ?_
    refine wSkip ?_
    refine pSeq ?_
    refine wSeq ?_
    obtain ⟨y3, hy3, h⟩ := bd h
    refine rg (cp (oMv tm) (s1 rfl) <| cp (oCall rfl (reticentref04_Made.ok hy3) b113 (opds_cons tm opds_nil)) (s1 rfl) <| cp (oEq rfl tm (cI (by decide))) (s1 rfl) <| cp (oAs tm) (s1 rfl) <| .nil) (by kernel_rfl) ?_
    refine pSeq ?_
    refine wRet ?_
    obtain rfl := so h
    exact pR1 (.inl rfl) rfl (.tmp rfl <| .nil)

theorem reticentref06_Arity.ok {a0 : Int} {r : Int} (h : reticentref06_Arity.f a0 = some r) : FnA Tryd.prog 25 [(kI .i64).sig a0] ((kI .i64).sig r) := by
  refine fnIntro Tryd.func25 rfl (by kernel_rfl) fun H0 w0 => ?_
  unfold reticentref06_Arity.f at h
  refine wSeq ?_
  refine rg (cp (oAs (cI (by decide))) trivial <| .nil) (by kernel_rfl) ?_
  refine pSeq ?_
  refine wSeq ?_
  obtain ⟨y1, hy1, h⟩ := bd h
  refine rg (cp (oLit (d := (kI .i64)) el85 (by decide) rfl rfl rfl (e1 (cI (by decide)) (e1 (cI (by decide)) (e1 (cI (by decide)) (e1 (cI (by decide)) (e1 (cI (by decide)) (e1 (cI (by decide)) (e1 (cI (by decide)) (e1 (cI (by decide)) (e1 (cI (by decide)) (e1 (cI (by decide)) (e1 (cI (by decide)) (e1 (cI (by decide)) (e1 (cI (by decide)) e0)))))))))))))) trivial <| cp (oMv tm) (s1 rfl) <| cp (oIdx u85 z3 hy1 tm tm) (s2 rfl rfl) <| cp (oLd t3 tm) (s1 rfl) <| cp (oAs tm) (s1 rfl) <| .nil) (by kernel_rfl) ?_
  refine pSeq ?_
  refine wRet ?_
  obtain rfl := so h
  exact pR1 (.inl rfl) rfl (.tmp rfl <| .nil)

theorem reticentref04_Has.ok {a0 : List Int} {a1 : Int} {r : Bool} (h : reticentref04_Has.f a0 a1 = some r) : FnA Tryd.prog 156 [(kL (kI .i64)).sig a0, (kI .i64).sig a1] (kB.sig r) := by
  refine fnIntro Tryd.func156 rfl (by kernel_rfl) fun H0 w0 => ?_
  unfold reticentref04_Has.f at h
  refine wSeq ?_
  refine rg (cp (oAs cB) trivial <| .nil) (by kernel_rfl) ?_
  refine pSeq ?_
  refine wSeq ?_
  refine wSeq ?_
  refine rg (cp (oMv tm) (s1 rfl) <| cp (oLenL u85 tm) (s1 rfl) <| cp (oMv (cI (by decide))) trivial <| .nil) (by kernel_rfl) ?_
  refine pSeq ?_
  obtain ⟨o1, h, hk1⟩ := bd h
  refine wK0 (.inr () = o1) ([]) ([]) ?_ ?_
  · refine wBlock (wLoop ?_)
    refine lW (pc1 o1 (fun v7 => [(1, .d ((kI .i64).sig a1)), (7, .d ((kL (kI .i64)).sig a0)), (8, .d ((kI .i64).sig (a0.length : Int))), (9, .d ((kI .i64).sig v7))]) (fun v7 => []) (reticentref04_Has.l0.partial_correctness a0 a1) ?_ _ h) ⟨rfl, rfl, rfl, rfl, trivial⟩ rfl
    clear h
    intro f' ih v7 h
    refine wSeq ?_
    refine rg (cp (oLt rfl tm tm) (s2 rfl rfl) <| .nil) (by kernel_rfl) ?_
    refine pSeq ?_
    refine wSeq ?_
    rcases ic h with ⟨hp8, h⟩ | ⟨hp8, h⟩
    · refine wCT hp8 tm (s1 rfl) ?_
      refine wSkip ?_
      refine pSeq ?_
      refine wSeq ?_
      refine wBlock ?_
      refine wSeq ?_
      obtain ⟨y9, hy9, h⟩ := bd h
      refine rg (cp (oIdx u85 z3 hy9 tm tm) (s2 rfl rfl) <| cp (oLd t3 tm) (s1 rfl) <| cp (oAs tm) (s1 rfl) <| .nil) (by kernel_rfl) ?_
      refine pSeq ?_
      refine wSeq ?_
      refine rg (cp (oMv tm) (s1 rfl) <| cp (oMv tm) (s1 rfl) <| cp (oAdd (cI (by decide)) tm) (s1 rfl) <| cp (oEq rfl tm tm) (s2 rfl rfl) <| .nil) (by kernel_rfl) ?_
      refine pSeq ?_
      rcases ic h with ⟨hp10, h⟩ | ⟨hp10, h⟩
      · refine wCT hp10 tm (s1 rfl) ?_
        refine wSeq ?_
        refine rg (cp (oAs cB) trivial <| .nil) (by kernel_rfl) ?_
        refine pSeq ?_
        refine wRet ?_
        refine pBlkR ?_
        refine pThenR ?_
        refine pThenR ?_
        refine pBlkR ?_
        refine pThenR ?_
        obtain rfl := so h
        replace h := hk1
        refine pThenR ?_
        obtain rfl := so h
        exact pR1 (.inl rfl) rfl (.tmp rfl <| .nil)
      · refine wCF hp10 tm (s1 rfl) ?_
        refine wSkip ?_
        refine pBlkN ?_
        refine pSeq ?_
        refine rg (cp (oAdd tm (cI (by decide))) (s1 rfl) <| cp (oMv tm) (s1 rfl) <| .nil) (by kernel_rfl) ?_
        exact pLoop (lW (ih _ h) ⟨rfl, rfl, rfl, rfl, trivial⟩ rfl)
    · refine wCF hp8 tm (s1 rfl) ?_
      refine wExit ?_
      refine pThenX ?_
      refine pThenX ?_
      refine pBlkX ?_
      exact pJ0 (so h) trivial rfl
  · rintro rfl
    replace h := hk1
    refine pSeq ?_
    refine wSeq ?_
    refine rg (cp (oAs cB) trivial <| .nil) (by kernel_rfl) ?_
    refine pSeq ?_
    refine wRet ?_
    obtain rfl := so h
    exact pR1 (.inl rfl) rfl (.tmp rfl <| .nil)

theorem reticentref06_has.ok {a0 : Int} {a1 : List Int} {r : Bool} (h : reticentref06_has.f a0 a1 = some r) : FnA Tryd.prog 101 [(kI .i64).sig a0, (kL (kI .i64)).sig a1] (kB.sig r) := by
  refine fnIntro Tryd.func101 rfl (by kernel_rfl) fun H0 w0 => ?_
  unfold reticentref06_has.f at h
  refine wSeq ?_
  refine rg (cp (oAs cB) trivial <| .nil) (by kernel_rfl) ?_
  refine pSeq ?_
  refine wSeq ?_
  refine wSeq ?_
  obtain ⟨y1, hy1, h⟩ := bd h
  refine rg (cp (oMv tm) (s1 rfl) <| cp (oCall rfl (reticentref06_Arity.ok hy1) b25 (opds_cons tm opds_nil)) (s1 rfl) <| cp (oAdd tm (cI (by decide))) (s1 rfl) <| cp (oAs tm) (s1 rfl) <| .nil) (by kernel_rfl) ?_
  refine pSeq ?_
  obtain ⟨o1, h, hk1⟩ := bd h
  refine wK0 (.inr () = o1) ([]) ([]) ?_ ?_
  · refine wBlock (wLoop ?_)
    refine lW (pc1 o1 (fun v8 => [(1, .d ((kL (kI .i64)).sig a1)), (5, .d ((kI .i64).sig v8))]) (fun v8 => []) (reticentref06_has.l0.partial_correctness a1) ?_ _ h) ⟨rfl, rfl, trivial⟩ rfl
    clear h
    intro f' ih v8 h
    refine wSeq ?_
    refine wSeq ?_
    refine rg (cp (oMv tm) (s1 rfl) <| cp (oLt rfl tm (cI (by decide))) (s1 rfl) <| .nil) (by kernel_rfl) ?_
    refine pSeq ?_
    rcases ic h with ⟨hp9, h⟩ | ⟨hp9, h⟩
    · refine wCT hp9 tm (s1 rfl) ?_
      refine wSkip ?_
      refine pSeq ?_
      refine wSeq ?_
      refine wBlock ?_
      refine wSeq ?_
      obtain ⟨y10, hy10, h⟩ := bd h
      refine rg (cp (oMv tm) (s1 rfl) <| cp (oMv tm) (s1 rfl) <| cp (oCall rfl (reticentref04_Has.ok hy10) b156 (opds_cons tm (opds_cons tm opds_nil))) (s2 rfl rfl) <| .nil) (by kernel_rfl) ?_
      refine pSeq ?_
      rcases ic h with ⟨hp11, h⟩ | ⟨hp11, h⟩
      · refine wBT hp11 tm (s1 rfl) ?_
        refine wSeq ?_
        refine rg (cp (oAs cB) trivial <| .nil) (by kernel_rfl) ?_
        refine pSeq ?_
        refine wRet ?_
        refine pBlkR ?_
        refine pThenR ?_
        refine pThenR ?_
        refine pBlkR ?_
        refine pThenR ?_
        obtain rfl := so h
        replace h := hk1
        refine pThenR ?_
        obtain rfl := so h
        exact pR1 (.inl rfl) rfl (.tmp rfl <| .nil)
      · refine wBF hp11 tm (s1 rfl) ?_
        refine wSkip ?_
        refine pBlkN ?_
        refine pSeq ?_
        refine rg (cp (oMv tm) (s1 rfl) <| cp (oAdd tm (cI (by decide))) (s1 rfl) <| cp (oAs tm) (s1 rfl) <| .nil) (by kernel_rfl) ?_
        exact pLoop (lW (ih _ h) ⟨rfl, rfl, trivial⟩ rfl)
    · refine wCF hp9 tm (s1 rfl) ?_
      refine wExit ?_
      refine pThenX ?_
      refine pThenX ?_
      refine pBlkX ?_
      exact pJ0 (so h) trivial rfl
  · rintro rfl
    replace h := hk1
    refine pSeq ?_
    refine wSeq ?_
    refine rg (cp (oAs cB) trivial <| .nil) (by kernel_rfl) ?_
    refine pSeq ?_
    refine wRet ?_
    obtain rfl := so h
    exact pR1 (.inl rfl) rfl (.tmp rfl <| .nil)

theorem reticentref06_Row.ok {a0 : Int} {a1 : api_Row} {r : Int} (h : reticentref06_Row.f a0 a1 = some r) : FnA Tryd.prog 58 [(kI .i64).sig a0, (kR f_api_Row).sig a1] ((kI .i64).sig r) := by
  refine fnIntro Tryd.func58 rfl (by kernel_rfl) fun H0 w0 => ?_
  unfold reticentref06_Row.f at h
  refine wSeq ?_
  refine rg (cp (oBox tm) (s1 rfl) <| cp (oAs (cI (by decide))) trivial <| .nil) (by kernel_rfl) ?_
  refine pSeq ?_
  refine wSeq ?_
  obtain ⟨o1, h, hk1⟩ := bd h
  refine wJ1 (fun x6 => x6 = o1) (fun x6 => [(0, .d ((kI .i64).sig a0)), (3, .d (sP (kR f_api_Row) a1)), (20, .d (kB.sig x6))]) (fun x6 => []) ?_ ?_
  · obtain ⟨y7, hy7, h⟩ := bd h
    rcases ic h with ⟨hp8, h⟩ | ⟨hp8, h⟩
    · refine rg (cp (oFld (fs := f_api_Row) (k := 0) rfl o87_0 tm) (s1 rfl) <| cp (oLd t85 tm) (s1 rfl) <| cp (oCall rfl (reticentref04_Right.ok hy7) b100 (opds_cons tm (opds_cons cB opds_nil))) (s1 rfl) <| cp (oNot tm) (s1 rfl) <| cp (oMv tm) (s1 rfl) <| csB hp8 rfl rfl <| csB hp8 rfl rfl <| csB hp8 rfl rfl <| csB hp8 rfl rfl <| cp (oPkT hp8 tm cB) (s1 rfl) <| cp (oMv tm) (s1 rfl) <| csB rfl rfl rfl <| csB rfl rfl rfl <| csB rfl rfl rfl <| csB rfl rfl rfl <| cp (oPkT rfl tm cB) (s1 rfl) <| .nil) (by kernel_rfl) ?_
      exact pJ1 _ (so h) ⟨rfl, rfl, rfl, trivial⟩ rfl
    · obtain ⟨y9, hy9, h⟩ := bd h
      rcases ic h with ⟨hp10, h⟩ | ⟨hp10, h⟩
      · refine rg (cp (oFld (fs := f_api_Row) (k := 0) rfl o87_0 tm) (s1 rfl) <| cp (oLd t85 tm) (s1 rfl) <| cp (oCall rfl (reticentref04_Right.ok hy7) b100 (opds_cons tm (opds_cons cB opds_nil))) (s1 rfl) <| cp (oNot tm) (s1 rfl) <| cp (oMv tm) (s1 rfl) <| cgB (nb hp8) rfl rfl (oFld (fs := f_api_Row) (k := 1) rfl o87_1 tm) (s1 rfl) <| cgB (nb hp8) rfl rfl (oLd t85 tm) (s1 rfl) <| cgB (nb hp8) rfl rfl (oCall rfl (reticentref04_Right.ok hy9) b100 (opds_cons tm (opds_cons cB opds_nil))) (s1 rfl) <| cgB (nb hp8) rfl rfl (oNot tm) (s1 rfl) <| cp (oPkF (nb hp8) tm tm) (s2 rfl rfl) <| cp (oMv tm) (s1 rfl) <| csB hp10 rfl rfl <| csB hp10 rfl rfl <| csB hp10 rfl rfl <| csB hp10 rfl rfl <| cp (oPkT hp10 tm cB) (s1 rfl) <| .nil) (by kernel_rfl) ?_
        exact pJ1 _ (so h) ⟨rfl, rfl, rfl, trivial⟩ rfl
      · obtain ⟨y11, hy11, h⟩ := bd h
        refine rg (cp (oFld (fs := f_api_Row) (k := 0) rfl o87_0 tm) (s1 rfl) <| cp (oLd t85 tm) (s1 rfl) <| cp (oCall rfl (reticentref04_Right.ok hy7) b100 (opds_cons tm (opds_cons cB opds_nil))) (s1 rfl) <| cp (oNot tm) (s1 rfl) <| cp (oMv tm) (s1 rfl) <| cgB (nb hp8) rfl rfl (oFld (fs := f_api_Row) (k := 1) rfl o87_1 tm) (s1 rfl) <| cgB (nb hp8) rfl rfl (oLd t85 tm) (s1 rfl) <| cgB (nb hp8) rfl rfl (oCall rfl (reticentref04_Right.ok hy9) b100 (opds_cons tm (opds_cons cB opds_nil))) (s1 rfl) <| cgB (nb hp8) rfl rfl (oNot tm) (s1 rfl) <| cp (oPkF (nb hp8) tm tm) (s2 rfl rfl) <| cp (oMv tm) (s1 rfl) <| cgB (nb hp10) rfl rfl (oFld (fs := f_api_Row) (k := 2) rfl o87_2 tm) (s1 rfl) <| cgB (nb hp10) rfl rfl (oLd t85 tm) (s1 rfl) <| cgB (nb hp10) rfl rfl (oCall rfl (reticentref04_Right.ok hy11) b100 (opds_cons tm (opds_cons cB opds_nil))) (s1 rfl) <| cgB (nb hp10) rfl rfl (oNot tm) (s1 rfl) <| cp (oPkF (nb hp10) tm tm) (s2 rfl rfl) <| .nil) (by kernel_rfl) ?_
        exact pJ1 _ (so h) ⟨rfl, rfl, rfl, trivial⟩ rfl
  · rintro x6 rfl
    replace h := hk1
    rcases ic h with ⟨hp12, h⟩ | ⟨hp12, h⟩
    · refine wBT hp12 tm (s1 rfl) ?_
      refine wSeq ?_
      refine rg (cp (oAs (cI (by decide))) trivial <| .nil) (by kernel_rfl) ?_
      refine pSeq ?_
      refine wRet ?_
      refine pThenR ?_
      obtain rfl := so h
      exact pR1 (.inl rfl) rfl (.tmp rfl <| .nil)
    · refine wBF hp12 tm (s1 rfl) ?_
      refine wSkip ?_
      refine pSeq ?_
      refine wSeq ?_
      obtain ⟨o1, h, hk1⟩ := bd h
      refine wJ1 (fun x18 => x18 = o1) (fun x18 => [(39, .d (kB.sig x18))]) (fun x18 => []) ?_ ?_
      · obtain ⟨y19, hy19, h⟩ := bd h
        rcases ic h with ⟨hp20, h⟩ | ⟨hp20, h⟩
        · refine rg (cp (oMv tm) (s1 rfl) <| cp (oFld (fs := f_api_Row) (k := 0) rfl o87_0 tm) (s1 rfl) <| cp (oLd t85 tm) (s1 rfl) <| cp (oCall rfl (reticentref06_has.ok hy19) b101 (opds_cons tm (opds_cons tm opds_nil))) (s2 rfl rfl) <| cp (oNot tm) (s1 rfl) <| cp (oMv tm) (s1 rfl) <| csB hp20 rfl rfl <| csB hp20 rfl rfl <| csB hp20 rfl rfl <| csB hp20 rfl rfl <| csB hp20 rfl rfl <| cp (oPkT hp20 tm cB) (s1 rfl) <| cp (oMv tm) (s1 rfl) <| csB rfl rfl rfl <| csB rfl rfl rfl <| csB rfl rfl rfl <| csB rfl rfl rfl <| csB rfl rfl rfl <| cp (oPkT rfl tm cB) (s1 rfl) <| .nil) (by kernel_rfl) ?_
          exact pJ1 _ (so h) ⟨rfl, trivial⟩ rfl
        · obtain ⟨y21, hy21, h⟩ := bd h
          rcases ic h with ⟨hp22, h⟩ | ⟨hp22, h⟩
          · refine rg (cp (oMv tm) (s1 rfl) <| cp (oFld (fs := f_api_Row) (k := 0) rfl o87_0 tm) (s1 rfl) <| cp (oLd t85 tm) (s1 rfl) <| cp (oCall rfl (reticentref06_has.ok hy19) b101 (opds_cons tm (opds_cons tm opds_nil))) (s2 rfl rfl) <| cp (oNot tm) (s1 rfl) <| cp (oMv tm) (s1 rfl) <| cgB (nb hp20) rfl rfl (oMv tm) (s1 rfl) <| cgB (nb hp20) rfl rfl (oFld (fs := f_api_Row) (k := 1) rfl o87_1 tm) (s1 rfl) <| cgB (nb hp20) rfl rfl (oLd t85 tm) (s1 rfl) <| cgB (nb hp20) rfl rfl (oCall rfl (reticentref06_has.ok hy21) b101 (opds_cons tm (opds_cons tm opds_nil))) (s2 rfl rfl) <| cgB (nb hp20) rfl rfl (oNot tm) (s1 rfl) <| cp (oPkF (nb hp20) tm tm) (s2 rfl rfl) <| cp (oMv tm) (s1 rfl) <| csB hp22 rfl rfl <| csB hp22 rfl rfl <| csB hp22 rfl rfl <| csB hp22 rfl rfl <| csB hp22 rfl rfl <| cp (oPkT hp22 tm cB) (s1 rfl) <| .nil) (by kernel_rfl) ?_
            exact pJ1 _ (so h) ⟨rfl, trivial⟩ rfl
          · obtain ⟨y23, hy23, h⟩ := bd h
            refine rg (cp (oMv tm) (s1 rfl) <| cp (oFld (fs := f_api_Row) (k := 0) rfl o87_0 tm) (s1 rfl) <| cp (oLd t85 tm) (s1 rfl) <| cp (oCall rfl (reticentref06_has.ok hy19) b101 (opds_cons tm (opds_cons tm opds_nil))) (s2 rfl rfl) <| cp (oNot tm) (s1 rfl) <| cp (oMv tm) (s1 rfl) <| cgB (nb hp20) rfl rfl (oMv tm) (s1 rfl) <| cgB (nb hp20) rfl rfl (oFld (fs := f_api_Row) (k := 1) rfl o87_1 tm) (s1 rfl) <| cgB (nb hp20) rfl rfl (oLd t85 tm) (s1 rfl) <| cgB (nb hp20) rfl rfl (oCall rfl (reticentref06_has.ok hy21) b101 (opds_cons tm (opds_cons tm opds_nil))) (s2 rfl rfl) <| cgB (nb hp20) rfl rfl (oNot tm) (s1 rfl) <| cp (oPkF (nb hp20) tm tm) (s2 rfl rfl) <| cp (oMv tm) (s1 rfl) <| cgB (nb hp22) rfl rfl (oMv tm) (s1 rfl) <| cgB (nb hp22) rfl rfl (oFld (fs := f_api_Row) (k := 2) rfl o87_2 tm) (s1 rfl) <| cgB (nb hp22) rfl rfl (oLd t85 tm) (s1 rfl) <| cgB (nb hp22) rfl rfl (oCall rfl (reticentref06_has.ok hy23) b101 (opds_cons tm (opds_cons tm opds_nil))) (s2 rfl rfl) <| cgB (nb hp22) rfl rfl (oNot tm) (s1 rfl) <| cp (oPkF (nb hp22) tm tm) (s2 rfl rfl) <| .nil) (by kernel_rfl) ?_
            exact pJ1 _ (so h) ⟨rfl, trivial⟩ rfl
      · rintro x18 rfl
        replace h := hk1
        rcases ic h with ⟨hp24, h⟩ | ⟨hp24, h⟩
        · refine wBT hp24 tm (s1 rfl) ?_
          refine wSeq ?_
          refine rg (cp (oAs (cI (by decide))) trivial <| .nil) (by kernel_rfl) ?_
          refine pSeq ?_
          refine wRet ?_
          refine pThenR ?_
          obtain rfl := so h
          exact pR1 (.inl rfl) rfl (.tmp rfl <| .nil)
        · refine wBF hp24 tm (s1 rfl) ?_
          refine wSkip ?_
          refine pSeq ?_
          refine wSeq ?_
          refine rg (cp (oAs (cI (by decide))) trivial <| .nil) (by kernel_rfl) ?_
          refine pSeq ?_
          refine wRet ?_
          obtain rfl := so h
          exact pR1 (.inl rfl) rfl (.tmp rfl <| .nil)

end Go.Proofs.YtjkijjhjffodcaaDoor.TN
