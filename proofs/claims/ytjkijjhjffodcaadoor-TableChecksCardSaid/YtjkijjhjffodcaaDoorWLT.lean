import Derived.Test.YtjkijjhjffodcaaDoorShelf
import Derived.Test.YtjkijjhjffodcaaDoorBld
import Derived.Test.YtjkijjhjffodcaaDoorWLTp1
import Derived.Test.YtjkijjhjffodcaaDoorProg
set_option linter.unusedVariables false
set_option maxRecDepth 10000
set_option maxHeartbeats 2000000
namespace Go.Proofs.YtjkijjhjffodcaaDoor.LT
open Go Go.Proofs.YtjkijjhjffodcaaDoor.Ab

theorem reticentref05_Thing.okB {rc : (List Int) → Int → Option reticentref05_T} (hrc : ∀ {a0 : List Int} {a1 : Int} {r : reticentref05_T}, rc a0 a1 = some r → FnA Tryd.prog 103 [(kL (kI .i64)).sig a0, (kI .i64).sig a1] ((kR f_reticentref05_T).sig r)) {a0 : List Int} {a1 : Int} {r : reticentref05_T} (h : reticentref05_Thing.B rc a0 a1 = some r) : FnA Tryd.prog 103 [(kL (kI .i64)).sig a0, (kI .i64).sig a1] ((kR f_reticentref05_T).sig r) := by
  refine fnIntro Tryd.func103 rfl (by kernel_rfl) fun H0 w0 => ?_
  unfold reticentref05_Thing.B at h
  refine wSeq ?_
  refine rg (cw (oAlloc (id := 4) (ls := [.d kS [], .d (kI .i64) 0, .d (kI .i64) 0]) ze182 (fun g => ⟨[(.string ⟨⟨[]⟩⟩)], _, rfl, zS g.H, ⟨[(.int .i64 0)], _, rfl, zI_i64 g.H, ⟨[(.int .i64 0)], _, rfl, zI_i64 g.H, rfl⟩⟩⟩)) trivial <| .nil) (by kernel_rfl) ?_
  refine pSeq ?_
  refine wSeq ?_
  obtain ⟨y1, hy1, h⟩ := bd h
  refine rg (cp (oMv tm) (s1 rfl) <| cp (oMv tm) (s1 rfl) <| cp (oIdx u85 z3 hy1 tm tm) (s2 rfl rfl) <| cp (oLd t3 tm) (s1 rfl) <| cp (oAs tm) (s1 rfl) <| .nil) (by kernel_rfl) ?_
  refine pSeq ?_
  refine wSeq ?_
  refine wSeq ?_
  obtain ⟨y2, hy2, h⟩ := bd h
  refine rg (cp (oMv tm) (s1 rfl) <| cp (oCall rfl (reticentref05_two.ok hy2) b158 (opds_cons tm opds_nil)) (s1 rfl) <| cp (oNot tm) (s1 rfl) <| .nil) (by kernel_rfl) ?_
  refine pSeq ?_
  rcases ic h with ⟨hp3, h⟩ | ⟨hp3, h⟩
  · refine wBT hp3 tm (s1 rfl) ?_
    refine wSeq ?_
    obtain ⟨y4, hy4, h⟩ := bd h
    refine rg (cp (oMv tm) (s1 rfl) <| cp (oCall rfl (reticentref05_word.ok hy4) b159 (opds_cons tm opds_nil)) (s1 rfl) <| cp (oMv tm) (s1 rfl) <| cp (oBuild (fs := f_reticentref05_T) (u := ⟨y4, 0, a1⟩) rfl ze182 pl182 po182 (.op (zc := [(.string ⟨⟨[]⟩⟩)]) tm rfl (.ze (zc := [(.int .i64 0)]) zI_i64 (.op (zc := [(.int .i64 0)]) tm rfl .nil)))) (s2 rfl rfl) <| cwn (oStA (n := 0) (fs := f_reticentref05_T) rfl rfl z182 tm tm) (s2 rfl rfl) <| .nil) (by kernel_rfl) ?_
    refine pSeq ?_
    refine wRet ?_
    refine pThenR ?_
    obtain rfl := so h
    exact pR1 (.inl rfl) rfl (.box (n := 0) (fs := f_reticentref05_T) (u := ⟨y4, 0, a1⟩) rfl rfl ⟨rfl, rfl, rfl, trivial⟩ t182 <| .nil)
  · refine wBF hp3 tm (s1 rfl) ?_
    refine wSkip ?_
    refine pSeq ?_
    refine wSeq ?_
    obtain ⟨y5, hy5, h⟩ := bd h
    refine rg (cp (oMv tm) (s1 rfl) <| cp (oMv tm) (s1 rfl) <| cp (oSub tm (cI (by decide))) (s1 rfl) <| cp (oCall rfl (hrc hy5) b103 (opds_cons tm (opds_cons tm opds_nil))) (s2 rfl rfl) <| cw (oAlloc (id := 6) (ls := [.d kS [], .d (kI .i64) 0, .d (kI .i64) 0]) ze182 (fun g => ⟨[(.string ⟨⟨[]⟩⟩)], _, rfl, zS g.H, ⟨[(.int .i64 0)], _, rfl, zI_i64 g.H, ⟨[(.int .i64 0)], _, rfl, zI_i64 g.H, rfl⟩⟩⟩)) trivial <| cwn (oStA (n := 0) (fs := f_reticentref05_T) rfl rfl z182 tm tm) (s2 rfl rfl) <| .nil) (by kernel_rfl) ?_
    refine pSeq ?_
    refine wSeq ?_
    refine rg (cp (oFldP o182_2 tm) (s1 rfl) <| cr (oLdB (n := 0) (k := 2) rfl rfl rfl t3 tm) (s1 rfl) <| cp (oSub tm (cI (by decide))) (s1 rfl) <| cp (oAs tm) (s1 rfl) <| .nil) (by kernel_rfl) ?_
    refine pSeq ?_
    refine wSeq ?_
    obtain ⟨y6, hy6, h⟩ := bd h
    refine rg (cp (oMv tm) (s1 rfl) <| cp (oMv tm) (s1 rfl) <| cp (oCall rfl (hrc hy6) b103 (opds_cons tm (opds_cons tm opds_nil))) (s2 rfl rfl) <| cw (oAlloc (id := 8) (ls := [.d kS [], .d (kI .i64) 0, .d (kI .i64) 0]) ze182 (fun g => ⟨[(.string ⟨⟨[]⟩⟩)], _, rfl, zS g.H, ⟨[(.int .i64 0)], _, rfl, zI_i64 g.H, ⟨[(.int .i64 0)], _, rfl, zI_i64 g.H, rfl⟩⟩⟩)) trivial <| cwn (oStA (n := 0) (fs := f_reticentref05_T) rfl rfl z182 tm tm) (s2 rfl rfl) <| .nil) (by kernel_rfl) ?_
    refine pSeq ?_
    refine wSeq ?_
    refine rg (cp (oFldP o182_2 tm) (s1 rfl) <| cr (oLdB (n := 0) (k := 2) rfl rfl rfl t3 tm) (s1 rfl) <| cp (oAs tm) (s1 rfl) <| .nil) (by kernel_rfl) ?_
    refine pSeq ?_
    refine wSeq ?_
    refine wSeq ?_
    refine rg (cp (oMv tm) (s1 rfl) <| cp (oNe rfl tm (cI (by decide))) (s1 rfl) <| .nil) (by kernel_rfl) ?_
    refine pSeq ?_
    rcases ic h with ⟨hp7, h⟩ | ⟨hp7, h⟩
    · refine wNT hp7 tm (s1 rfl) ?_
      refine wSkip ?_
      refine pSeq ?_
      refine wSeq ?_
      refine rg (cp (oFldP o182_1 tm) (s1 rfl) <| cr (oLdB (n := 0) (k := 1) rfl rfl rfl t3 tm) (s1 rfl) <| cp (oAs tm) (s1 rfl) <| .nil) (by kernel_rfl) ?_
      refine pSeq ?_
      refine wSeq ?_
      refine wSeq ?_
      refine rg (cp (oFldP o182_1 tm) (s1 rfl) <| cr (oLdB (n := 1) (k := 1) rfl rfl rfl t3 tm) (s1 rfl) <| cp (oMv tm) (s1 rfl) <| cp (oGt rfl tm tm) (s2 rfl rfl) <| .nil) (by kernel_rfl) ?_
      refine pSeq ?_
      rcases ic h with ⟨hp8, h⟩ | ⟨hp8, h⟩
      · refine wCT hp8 tm (s1 rfl) ?_
        refine rg (cp (oFldP o182_1 tm) (s1 rfl) <| cr (oLdB (n := 1) (k := 1) rfl rfl rfl t3 tm) (s1 rfl) <| cp (oAs tm) (s1 rfl) <| .nil) (by kernel_rfl) ?_
        refine pSeq ?_
        refine wSeq ?_
        obtain ⟨hc9, h⟩ := ib h
        obtain ⟨y10, hy10, h⟩ := bd h
        obtain ⟨hc11, h⟩ := ib h
        obtain ⟨hc12, h⟩ := ib h
        obtain ⟨hc13, h⟩ := ib h
        refine rgD hm (cp (oFldP o182_0 tm) (s1 rfl) <| cr (oLdB (n := 0) (k := 0) rfl rfl rfl t9 tm) (s1 rfl) <| cp (oSAdd hc9 tm (cS (by decide))) (s1 rfl) <| cp (oMv tm) (s1 rfl) <| cp (oCall rfl (reticentref05_word.ok hy10) b159 (opds_cons tm opds_nil)) (s1 rfl) <| cp (oSAdd hc11 tm tm) (s2 rfl rfl) <| cp (oSAdd hc12 tm (cS (by decide))) (s1 rfl) <| cp (oFldP o182_0 tm) (s1 rfl) <| cr (oLdB (n := 1) (k := 0) rfl rfl rfl t9 tm) (s1 rfl) <| cp (oSAdd hc13 tm tm) (s2 rfl rfl) <| cp (oMv tm) (s1 rfl) <| cp (oMv tm) (s1 rfl) <| cp (oBuild (fs := f_reticentref05_T) (u := ⟨(((y6.S ++ ([32] : Str)) ++ y10) ++ ([32] : Str)) ++ y5.S, y5.Deep, y6.From⟩) rfl ze182 pl182 po182 (.op (zc := [(.string ⟨⟨[]⟩⟩)]) tm rfl (.op (zc := [(.int .i64 0)]) tm rfl (.op (zc := [(.int .i64 0)]) tm rfl .nil)))) (s3 rfl rfl rfl) <| cwn (oStA (n := 2) (fs := f_reticentref05_T) rfl rfl z182 tm tm) (s2 rfl rfl) <| .nil) (by kernel_rfl) (by kernel_rfl) ?_
        refine pSeq ?_
        refine wRet ?_
        obtain rfl := so h
        exact pR1 (.inl rfl) rfl (.box (n := 2) (fs := f_reticentref05_T) (u := ⟨(((y6.S ++ ([32] : Str)) ++ y10) ++ ([32] : Str)) ++ y5.S, y5.Deep, y6.From⟩) rfl rfl ⟨rfl, rfl, rfl, trivial⟩ t182 <| .nil)
      · refine wCF hp8 tm (s1 rfl) ?_
        refine wSkip ?_
        refine pSeq ?_
        refine wSeq ?_
        obtain ⟨hc14, h⟩ := ib h
        obtain ⟨y15, hy15, h⟩ := bd h
        obtain ⟨hc16, h⟩ := ib h
        obtain ⟨hc17, h⟩ := ib h
        obtain ⟨hc18, h⟩ := ib h
        refine rgD hm (cp (oFldP o182_0 tm) (s1 rfl) <| cr (oLdB (n := 0) (k := 0) rfl rfl rfl t9 tm) (s1 rfl) <| cp (oSAdd hc14 tm (cS (by decide))) (s1 rfl) <| cp (oMv tm) (s1 rfl) <| cp (oCall rfl (reticentref05_word.ok hy15) b159 (opds_cons tm opds_nil)) (s1 rfl) <| cp (oSAdd hc16 tm tm) (s2 rfl rfl) <| cp (oSAdd hc17 tm (cS (by decide))) (s1 rfl) <| cp (oFldP o182_0 tm) (s1 rfl) <| cr (oLdB (n := 1) (k := 0) rfl rfl rfl t9 tm) (s1 rfl) <| cp (oSAdd hc18 tm tm) (s2 rfl rfl) <| cp (oMv tm) (s1 rfl) <| cp (oMv tm) (s1 rfl) <| cp (oBuild (fs := f_reticentref05_T) (u := ⟨(((y6.S ++ ([32] : Str)) ++ y15) ++ ([32] : Str)) ++ y5.S, y6.Deep, y6.From⟩) rfl ze182 pl182 po182 (.op (zc := [(.string ⟨⟨[]⟩⟩)]) tm rfl (.op (zc := [(.int .i64 0)]) tm rfl (.op (zc := [(.int .i64 0)]) tm rfl .nil)))) (s3 rfl rfl rfl) <| cwn (oStA (n := 2) (fs := f_reticentref05_T) rfl rfl z182 tm tm) (s2 rfl rfl) <| .nil) (by kernel_rfl) (by kernel_rfl) ?_
        refine pSeq ?_
        refine wRet ?_
        obtain rfl := so h
        exact pR1 (.inl rfl) rfl (.box (n := 2) (fs := f_reticentref05_T) (u := ⟨(((y6.S ++ ([32] : Str)) ++ y15) ++ ([32] : Str)) ++ y5.S, y6.Deep, y6.From⟩) rfl rfl ⟨rfl, rfl, rfl, trivial⟩ t182 <| .nil)
    · refine wNF hp7 tm (s1 rfl) ?_
      refine wSeq ?_
      obtain ⟨y19, hy19, h⟩ := bd h
      obtain ⟨y20, hy20, h⟩ := bd h
      obtain ⟨y21, hy21, h⟩ := bd h
      refine rgD hm (cr (oLdA (n := 0) (fs := f_reticentref05_T) (u := ⟨y6.S, y6.Deep, y6.From⟩) rfl ⟨rfl, rfl, rfl, trivial⟩ t182 tm) (s1 rfl) <| cp (oMv tm) (s1 rfl) <| cp (oMv tm) (s1 rfl) <| cp (oIdx u85 z3 hy19 tm tm) (s2 rfl rfl) <| cp (oLd t3 tm) (s1 rfl) <| cp (oMv tm) (s1 rfl) <| cp (oMv tm) (s1 rfl) <| cp (oCall rfl (reticentref05_binds.ok hy20) b161 (opds_cons tm opds_nil)) (s1 rfl) <| cp (oCall rfl (reticentref05_within.ok hy21) b160 (opds_cons tm (opds_cons tm (opds_cons tm (opds_cons tm opds_nil))))) ⟨rfl, rfl, rfl, rfl, trivial⟩ <| cwn (oStA (n := 0) (fs := f_reticentref05_T) rfl rfl z182 tm tm) (s2 rfl rfl) <| .nil) (by kernel_rfl) (by kernel_rfl) ?_
      refine pSeq ?_
      obtain ⟨y22, hy22, h⟩ := bd h
      obtain ⟨y23, hy23, h⟩ := bd h
      obtain ⟨y24, hy24, h⟩ := bd h
      refine rgD hm (cr (oLdA (n := 1) (fs := f_reticentref05_T) (u := ⟨y5.S, y5.Deep, y5.From⟩) rfl ⟨rfl, rfl, rfl, trivial⟩ t182 tm) (s1 rfl) <| cp (oMv tm) (s1 rfl) <| cp (oMv tm) (s1 rfl) <| cp (oSub tm (cI (by decide))) (s1 rfl) <| cp (oIdx u85 z3 hy22 tm tm) (s2 rfl rfl) <| cp (oLd t3 tm) (s1 rfl) <| cp (oMv tm) (s1 rfl) <| cp (oMv tm) (s1 rfl) <| cp (oCall rfl (reticentref05_binds.ok hy23) b161 (opds_cons tm opds_nil)) (s1 rfl) <| cp (oAdd tm (cI (by decide))) (s1 rfl) <| cp (oCall rfl (reticentref05_within.ok hy24) b160 (opds_cons tm (opds_cons tm (opds_cons tm (opds_cons tm opds_nil))))) ⟨rfl, rfl, rfl, rfl, trivial⟩ <| cwn (oStA (n := 1) (fs := f_reticentref05_T) rfl rfl z182 tm tm) (s2 rfl rfl) <| .nil) (by kernel_rfl) (by kernel_rfl) ?_
      refine pSeq ?_
      refine wSeq ?_
      refine rg (cp (oFldP o182_1 tm) (s1 rfl) <| cr (oLdB (n := 0) (k := 1) rfl rfl rfl t3 tm) (s1 rfl) <| cp (oAs tm) (s1 rfl) <| .nil) (by kernel_rfl) ?_
      refine pSeq ?_
      refine wSeq ?_
      refine wSeq ?_
      refine rg (cp (oFldP o182_1 tm) (s1 rfl) <| cr (oLdB (n := 1) (k := 1) rfl rfl rfl t3 tm) (s1 rfl) <| cp (oMv tm) (s1 rfl) <| cp (oGt rfl tm tm) (s2 rfl rfl) <| .nil) (by kernel_rfl) ?_
      refine pSeq ?_
      rcases ic h with ⟨hp25, h⟩ | ⟨hp25, h⟩
      · refine wCT hp25 tm (s1 rfl) ?_
        refine rg (cp (oFldP o182_1 tm) (s1 rfl) <| cr (oLdB (n := 1) (k := 1) rfl rfl rfl t3 tm) (s1 rfl) <| cp (oAs tm) (s1 rfl) <| .nil) (by kernel_rfl) ?_
        refine pSeq ?_
        refine wSeq ?_
        obtain ⟨hc26, h⟩ := ib h
        obtain ⟨y27, hy27, h⟩ := bd h
        obtain ⟨hc28, h⟩ := ib h
        obtain ⟨hc29, h⟩ := ib h
        obtain ⟨hc30, h⟩ := ib h
        refine rgD hm (cp (oFldP o182_0 tm) (s1 rfl) <| cr (oLdB (n := 0) (k := 0) rfl rfl rfl t9 tm) (s1 rfl) <| cp (oSAdd hc26 tm (cS (by decide))) (s1 rfl) <| cp (oMv tm) (s1 rfl) <| cp (oCall rfl (reticentref05_word.ok hy27) b159 (opds_cons tm opds_nil)) (s1 rfl) <| cp (oSAdd hc28 tm tm) (s2 rfl rfl) <| cp (oSAdd hc29 tm (cS (by decide))) (s1 rfl) <| cp (oFldP o182_0 tm) (s1 rfl) <| cr (oLdB (n := 1) (k := 0) rfl rfl rfl t9 tm) (s1 rfl) <| cp (oSAdd hc30 tm tm) (s2 rfl rfl) <| cp (oMv tm) (s1 rfl) <| cp (oMv tm) (s1 rfl) <| cp (oBuild (fs := f_reticentref05_T) (u := ⟨(((y21.S ++ ([32] : Str)) ++ y27) ++ ([32] : Str)) ++ y24.S, y24.Deep, y6.From⟩) rfl ze182 pl182 po182 (.op (zc := [(.string ⟨⟨[]⟩⟩)]) tm rfl (.op (zc := [(.int .i64 0)]) tm rfl (.op (zc := [(.int .i64 0)]) tm rfl .nil)))) (s3 rfl rfl rfl) <| cwn (oStA (n := 2) (fs := f_reticentref05_T) rfl rfl z182 tm tm) (s2 rfl rfl) <| .nil) (by kernel_rfl) (by kernel_rfl) ?_
        refine pSeq ?_
        refine wRet ?_
        obtain rfl := so h
        exact pR1 (.inl rfl) rfl (.box (n := 2) (fs := f_reticentref05_T) (u := ⟨(((y21.S ++ ([32] : Str)) ++ y27) ++ ([32] : Str)) ++ y24.S, y24.Deep, y6.From⟩) rfl rfl ⟨rfl, rfl, rfl, trivial⟩ t182 <| .nil)
      · refine wCF hp25 tm (s1 rfl) ?_
        refine wSkip ?_
        refine pSeq ?_
        refine wSeq ?_
        obtain ⟨hc31, h⟩ := ib h
        obtain ⟨y32, hy32, h⟩ := bd h
        obtain ⟨hc33, h⟩ := ib h
        obtain ⟨hc34, h⟩ := ib h
        obtain ⟨hc35, h⟩ := ib h
        refine rgD hm (cp (oFldP o182_0 tm) (s1 rfl) <| cr (oLdB (n := 0) (k := 0) rfl rfl rfl t9 tm) (s1 rfl) <| cp (oSAdd hc31 tm (cS (by decide))) (s1 rfl) <| cp (oMv tm) (s1 rfl) <| cp (oCall rfl (reticentref05_word.ok hy32) b159 (opds_cons tm opds_nil)) (s1 rfl) <| cp (oSAdd hc33 tm tm) (s2 rfl rfl) <| cp (oSAdd hc34 tm (cS (by decide))) (s1 rfl) <| cp (oFldP o182_0 tm) (s1 rfl) <| cr (oLdB (n := 1) (k := 0) rfl rfl rfl t9 tm) (s1 rfl) <| cp (oSAdd hc35 tm tm) (s2 rfl rfl) <| cp (oMv tm) (s1 rfl) <| cp (oMv tm) (s1 rfl) <| cp (oBuild (fs := f_reticentref05_T) (u := ⟨(((y21.S ++ ([32] : Str)) ++ y32) ++ ([32] : Str)) ++ y24.S, y21.Deep, y6.From⟩) rfl ze182 pl182 po182 (.op (zc := [(.string ⟨⟨[]⟩⟩)]) tm rfl (.op (zc := [(.int .i64 0)]) tm rfl (.op (zc := [(.int .i64 0)]) tm rfl .nil)))) (s3 rfl rfl rfl) <| cwn (oStA (n := 2) (fs := f_reticentref05_T) rfl rfl z182 tm tm) (s2 rfl rfl) <| .nil) (by kernel_rfl) (by kernel_rfl) ?_
        refine pSeq ?_
        refine wRet ?_
        obtain rfl := so h
        exact pR1 (.inl rfl) rfl (.box (n := 2) (fs := f_reticentref05_T) (u := ⟨(((y21.S ++ ([32] : Str)) ++ y32) ++ ([32] : Str)) ++ y24.S, y21.Deep, y6.From⟩) rfl rfl ⟨rfl, rfl, rfl, trivial⟩ t182 <| .nil)
theorem reticentref05_Thing.okF : ∀ (k : Nat) {a0 : List Int} {a1 : Int} {r : reticentref05_T}, reticentref05_Thing.F k a0 a1 = some r → FnA Tryd.prog 103 [(kL (kI .i64)).sig a0, (kI .i64).sig a1] ((kR f_reticentref05_T).sig r)
  | 0, _, _, _, h => by cases h
  | k + 1, _, _, _, h => reticentref05_Thing.okB (fun h => reticentref05_Thing.okF k h) h
theorem reticentref05_Thing.ok {a0 : List Int} {a1 : Int} {r : reticentref05_T} (h : reticentref05_Thing.f a0 a1 = some r) : FnA Tryd.prog 103 [(kL (kI .i64)).sig a0, (kI .i64).sig a1] ((kR f_reticentref05_T).sig r) := reticentref05_Thing.okF 1000 h

theorem reticentref05_Text.ok {a0 : List Int} {r : Str × Int} (h : reticentref05_Text.f a0 = some r) : FnA Tryd.prog 60 [(kL (kI .i64)).sig a0] (tup [kS.sig r.1, (kI .i64).sig r.2]) := by
  refine fnIntro Tryd.func60 rfl (by kernel_rfl) fun H0 w0 => ?_
  unfold reticentref05_Text.f at h
  refine wSeq ?_
  refine rg (cp (oAs (cS (by decide))) trivial <| cp (oAs (cI (by decide))) trivial <| .nil) (by kernel_rfl) ?_
  refine pSeq ?_
  refine wSeq ?_
  obtain ⟨y1, hy1, h⟩ := bd h
  refine rg (cp (oMv tm) (s1 rfl) <| cp (oMv tm) (s1 rfl) <| cp (oLenL u85 tm) (s1 rfl) <| cp (oSub tm (cI (by decide))) (s1 rfl) <| cp (oCall rfl (reticentref05_Thing.ok hy1) b103 (opds_cons tm (opds_cons tm opds_nil))) (s2 rfl rfl) <| cw (oAlloc (id := 4) (ls := [.d kS [], .d (kI .i64) 0, .d (kI .i64) 0]) ze182 (fun g => ⟨[(.string ⟨⟨[]⟩⟩)], _, rfl, zS g.H, ⟨[(.int .i64 0)], _, rfl, zI_i64 g.H, ⟨[(.int .i64 0)], _, rfl, zI_i64 g.H, rfl⟩⟩⟩)) trivial <| cwn (oStA (n := 0) (fs := f_reticentref05_T) rfl rfl z182 tm tm) (s2 rfl rfl) <| .nil) (by kernel_rfl) ?_
  refine pSeq ?_
  refine wSeq ?_
  refine wSeq ?_
  refine rg (cp (oFldP o182_1 tm) (s1 rfl) <| cr (oLdB (n := 0) (k := 1) rfl rfl rfl t3 tm) (s1 rfl) <| cp (oGt rfl tm (cI (by decide))) (s1 rfl) <| .nil) (by kernel_rfl) ?_
  refine pSeq ?_
  rcases ic h with ⟨hp2, h⟩ | ⟨hp2, h⟩
  · refine wCT hp2 tm (s1 rfl) ?_
    refine wSeq ?_
    refine rg (cp (oAs (cS (by decide))) trivial <| cp (oAs (cI (by decide))) trivial <| .nil) (by kernel_rfl) ?_
    refine pSeq ?_
    refine wRet ?_
    refine pThenR ?_
    obtain rfl := so h
    exact pRn (.inl rfl) rfl rfl (.tmp rfl <| .tmp rfl <| .nil)
  · refine wCF hp2 tm (s1 rfl) ?_
    refine wSkip ?_
    refine pSeq ?_
    refine wSeq ?_
    refine rg (cp (oFldP o182_0 tm) (s1 rfl) <| cr (oLdB (n := 0) (k := 0) rfl rfl rfl t9 tm) (s1 rfl) <| cp (oAs tm) (s1 rfl) <| cp (oAs (cI (by decide))) trivial <| .nil) (by kernel_rfl) ?_
    refine pSeq ?_
    refine wRet ?_
    obtain rfl := so h
    exact pRn (.inl rfl) rfl rfl (.tmp rfl <| .tmp rfl <| .nil)

theorem reticentref06_Word.ok {a0 : Int} {r : Str} (h : reticentref06_Word.f a0 = some r) : FnA Tryd.prog 24 [(kI .i64).sig a0] (kS.sig r) := by
  refine fnIntro Tryd.func24 rfl (by kernel_rfl) fun H0 w0 => ?_
  unfold reticentref06_Word.f at h
  refine wSeq ?_
  refine rg (cp (oAs (cS (by decide))) trivial <| .nil) (by kernel_rfl) ?_
  refine pSeq ?_
  refine wSeq ?_
  obtain ⟨y1, hy1, h⟩ := bd h
  refine rg (cp (oLit (d := kS) el56 (by decide) rfl rfl rfl (e1 (cS (by decide)) (e1 (cS (by decide)) (e1 (cS (by decide)) (e1 (cS (by decide)) (e1 (cS (by decide)) (e1 (cS (by decide)) (e1 (cS (by decide)) (e1 (cS (by decide)) (e1 (cS (by decide)) (e1 (cS (by decide)) (e1 (cS (by decide)) (e1 (cS (by decide)) (e1 (cS (by decide)) e0)))))))))))))) trivial <| cp (oMv tm) (s1 rfl) <| cp (oIdx u56 z9 hy1 tm tm) (s2 rfl rfl) <| cp (oLd t9 tm) (s1 rfl) <| cp (oAs tm) (s1 rfl) <| .nil) (by kernel_rfl) ?_
  refine pSeq ?_
  refine wRet ?_
  obtain rfl := so h
  exact pR1 (.inl rfl) rfl (.tmp rfl <| .nil)

theorem reticentref06_Text.ok {a0 : api_Table} {r : Str × Int} (h : reticentref06_Text.f a0 = some r) : FnA Tryd.prog 16 [(kR f_api_Table).sig a0] (tup [kS.sig r.1, (kI .i64).sig r.2]) := by
  refine fnIntro Tryd.func16 rfl (by kernel_rfl) fun H0 w0 => ?_
  unfold reticentref06_Text.f at h
  refine wSeq ?_
  refine rg (cp (oBox tm) (s1 rfl) <| cp (oAs (cS (by decide))) trivial <| cp (oAs (cI (by decide))) trivial <| .nil) (by kernel_rfl) ?_
  refine pSeq ?_
  refine wSeq ?_
  refine rg (cp (oAs (cS (by decide))) trivial <| .nil) (by kernel_rfl) ?_
  refine pSeq ?_
  refine wSeq ?_
  refine wSeq ?_
  refine rg (cp (oFld (fs := f_api_Table) (k := 0) rfl o24_0 tm) (s1 rfl) <| cp (oLd t22 tm) (s1 rfl) <| cp (oLenL u22 tm) (s1 rfl) <| cp (oMv (cI (by decide))) trivial <| .nil) (by kernel_rfl) ?_
  refine pSeq ?_
  obtain ⟨o1, h, hk1⟩ := bd h
  refine wK1 (fun x43 => .inr x43 = o1) (fun x43 => [(4, .d (kS.sig x43))]) (fun x43 => []) ?_ ?_
  · refine wBlock (wLoop ?_)
    refine lW (pc2 o1 (fun v41 v42 => [(4, .d (kS.sig v42)), (14, .d ((kL (kR f_api_Row)).sig a0.Rows)), (15, .d ((kI .i64).sig (a0.Rows.length : Int))), (16, .d ((kI .i64).sig v41))]) (fun v41 v42 => []) (reticentref06_Text.l0.partial_correctness a0) ?_ _ _ h) ⟨rfl, rfl, rfl, rfl, trivial⟩ rfl
    clear h
    intro f' ih v41 v42 h
    refine wSeq ?_
    refine rg (cp (oLt rfl tm tm) (s2 rfl rfl) <| .nil) (by kernel_rfl) ?_
    refine pSeq ?_
    refine wSeq ?_
    rcases ic h with ⟨hp44, h⟩ | ⟨hp44, h⟩
    · refine wCT hp44 tm (s1 rfl) ?_
      refine wSkip ?_
      refine pSeq ?_
      refine wSeq ?_
      refine wBlock ?_
      refine wSeq ?_
      obtain ⟨y45, hy45, h⟩ := bd h
      refine rg (cp (oMv tm) (s1 rfl) <| cp (oIdx u22 z87 hy45 tm tm) (s2 rfl rfl) <| cp (oLd t87 tm) (s1 rfl) <| cw (oAlloc (id := 6) (ls := [.d (kL (kI .i64)) [], .d (kL (kI .i64)) [], .d (kL (kI .i64)) []]) ze87 (fun g => ⟨[(.slice none 0 0)], _, rfl, zL g.H, ⟨[(.slice none 0 0)], _, rfl, zL g.H, ⟨[(.slice none 0 0)], _, rfl, zL g.H, rfl⟩⟩⟩)) trivial <| cp (oAs tm) (s1 rfl) <| cwn (oStA (n := 0) (fs := f_api_Row) rfl rfl z87 tm tm) (s2 rfl rfl) <| .nil) (by kernel_rfl) ?_
      refine pSeq ?_
      refine wSeq ?_
      obtain ⟨y46, hy46, h⟩ := bd h
      refine rg (cp (oFldP o87_0 tm) (s1 rfl) <| cr (oLdB (n := 0) (k := 0) rfl rfl rfl t85 tm) (s1 rfl) <| cp (oCall rfl (reticentref05_Text.ok hy46) b60 (opds_cons tm opds_nil)) (s1 rfl) <| cp (oMv tm) (s1 rfl) <| cp (oExt (k := 0) rfl tm) (s1 rfl) <| cp (oExt (k := 1) rfl tm) (s1 rfl) <| cp (oAs tm) (s1 rfl) <| cp (oAs tm) (s1 rfl) <| .nil) (by kernel_rfl) ?_
      refine pSeq ?_
      refine wSeq ?_
      obtain ⟨y47, hy47, h⟩ := bd h
      refine rg (cp (oFldP o87_1 tm) (s1 rfl) <| cr (oLdB (n := 0) (k := 1) rfl rfl rfl t85 tm) (s1 rfl) <| cp (oCall rfl (reticentref05_Text.ok hy47) b60 (opds_cons tm opds_nil)) (s1 rfl) <| cp (oMv tm) (s1 rfl) <| cp (oExt (k := 0) rfl tm) (s1 rfl) <| cp (oExt (k := 1) rfl tm) (s1 rfl) <| cp (oAs tm) (s1 rfl) <| cp (oAs tm) (s1 rfl) <| .nil) (by kernel_rfl) ?_
      refine pSeq ?_
      refine wSeq ?_
      obtain ⟨y48, hy48, h⟩ := bd h
      refine rg (cp (oFldP o87_2 tm) (s1 rfl) <| cr (oLdB (n := 0) (k := 2) rfl rfl rfl t85 tm) (s1 rfl) <| cp (oCall rfl (reticentref05_Text.ok hy48) b60 (opds_cons tm opds_nil)) (s1 rfl) <| cp (oMv tm) (s1 rfl) <| cp (oExt (k := 0) rfl tm) (s1 rfl) <| cp (oExt (k := 1) rfl tm) (s1 rfl) <| cp (oAs tm) (s1 rfl) <| cp (oAs tm) (s1 rfl) <| .nil) (by kernel_rfl) ?_
      refine pSeq ?_
      refine wSeq ?_
      obtain ⟨o2, h, hk2⟩ := bd h
      refine wJ1 (fun x51 => x51 = o2) (fun x51 => [(4, .d (kS.sig v42)), (5, .d ((kI .i64).sig v41)), (7, .d (kS.sig y46.1)), (9, .d (kS.sig y47.1)), (11, .d (kS.sig y48.1)), (14, .d ((kL (kR f_api_Row)).sig a0.Rows)), (15, .d ((kI .i64).sig (a0.Rows.length : Int))), (16, .d ((kI .i64).sig v41)), (48, .d (kB.sig x51))]) (fun x51 => [.box 6 87 [.d (kL (kI .i64)) y45.May, .d (kL (kI .i64)) y45.Res, .d (kL (kI .i64)) y45.Pc]]) ?_ ?_
      · rcases ic h with ⟨hp52, h⟩ | ⟨hp52, h⟩
        · rcases ic h with ⟨hp53, h⟩ | ⟨hp53, h⟩
          · refine rg (cp (oMv tm) (s1 rfl) <| cp (oNe rfl tm (cI (by decide))) (s1 rfl) <| cp (oMv tm) (s1 rfl) <| cgB (nf hp52) rfl rfl (oMv tm) (s1 rfl) <| cgB (nf hp52) rfl rfl (oNe rfl tm (cI (by decide))) (s1 rfl) <| cp (oPkF (nf hp52) tm tm) (s2 rfl rfl) <| cp (oMv tm) (s1 rfl) <| cgB (nf hp53) rfl rfl (oMv tm) (s1 rfl) <| cgB (nf hp53) rfl rfl (oNe rfl tm (cI (by decide))) (s1 rfl) <| cp (oPkF (nf hp53) tm tm) (s2 rfl rfl) <| .nil) (by kernel_rfl) ?_
            exact pJ1 _ (so h) ⟨rfl, rfl, rfl, rfl, rfl, rfl, rfl, rfl, rfl, trivial⟩ rfl
          · refine rg (cp (oMv tm) (s1 rfl) <| cp (oNe rfl tm (cI (by decide))) (s1 rfl) <| cp (oMv tm) (s1 rfl) <| cgB (nf hp52) rfl rfl (oMv tm) (s1 rfl) <| cgB (nf hp52) rfl rfl (oNe rfl tm (cI (by decide))) (s1 rfl) <| cp (oPkF (nf hp52) tm tm) (s2 rfl rfl) <| cp (oMv tm) (s1 rfl) <| csB (nt hp53) rfl rfl <| csB (nt hp53) rfl rfl <| cp (oPkT (nt hp53) tm cB) (s1 rfl) <| .nil) (by kernel_rfl) ?_
            exact pJ1 _ (so h) ⟨rfl, rfl, rfl, rfl, rfl, rfl, rfl, rfl, rfl, trivial⟩ rfl
        · refine rg (cp (oMv tm) (s1 rfl) <| cp (oNe rfl tm (cI (by decide))) (s1 rfl) <| cp (oMv tm) (s1 rfl) <| csB (nt hp52) rfl rfl <| csB (nt hp52) rfl rfl <| cp (oPkT (nt hp52) tm cB) (s1 rfl) <| cp (oMv tm) (s1 rfl) <| csB rfl rfl rfl <| csB rfl rfl rfl <| cp (oPkT rfl tm cB) (s1 rfl) <| .nil) (by kernel_rfl) ?_
          exact pJ1 _ (so h) ⟨rfl, rfl, rfl, rfl, rfl, rfl, rfl, rfl, rfl, trivial⟩ rfl
      · rintro x51 rfl
        replace h := hk2
        rcases ic h with ⟨hp54, h⟩ | ⟨hp54, h⟩
        · refine wBT hp54 tm (s1 rfl) ?_
          refine wSeq ?_
          refine rg (cp (oAs (cS (by decide))) trivial <| cp (oAs (cI (by decide))) trivial <| .nil) (by kernel_rfl) ?_
          refine pSeq ?_
          refine wRet ?_
          refine pThenR ?_
          refine pBlkR ?_
          refine pThenR ?_
          refine pThenR ?_
          refine pBlkR ?_
          refine pThenR ?_
          obtain rfl := so h
          replace h := hk1
          refine pThenR ?_
          obtain rfl := so h
          exact pRn (.inl rfl) rfl rfl (.tmp rfl <| .tmp rfl <| .nil)
        · refine wBF hp54 tm (s1 rfl) ?_
          refine wSkip ?_
          refine pSeq ?_
          obtain ⟨y55, hy55, h⟩ := bd h
          obtain ⟨hc56, h⟩ := ib h
          obtain ⟨hc57, h⟩ := ib h
          obtain ⟨hc58, h⟩ := ib h
          obtain ⟨hc59, h⟩ := ib h
          obtain ⟨hc60, h⟩ := ib h
          obtain ⟨hc61, h⟩ := ib h
          obtain ⟨hc62, h⟩ := ib h
          obtain ⟨hc63, h⟩ := ib h
          refine rg (cp (oMv tm) (s1 rfl) <| cp (oMv tm) (s1 rfl) <| cp (oCall rfl (reticentref06_Word.ok hy55) b24 (opds_cons tm opds_nil)) (s1 rfl) <| cp (oSAdd hc56 tm tm) (s2 rfl rfl) <| cp (oSAdd hc57 tm (cS (by decide))) (s1 rfl) <| cp (oMv tm) (s1 rfl) <| cp (oSAdd hc58 tm tm) (s2 rfl rfl) <| cp (oSAdd hc59 tm (cS (by decide))) (s1 rfl) <| cp (oMv tm) (s1 rfl) <| cp (oSAdd hc60 tm tm) (s2 rfl rfl) <| cp (oSAdd hc61 tm (cS (by decide))) (s1 rfl) <| cp (oMv tm) (s1 rfl) <| cp (oSAdd hc62 tm tm) (s2 rfl rfl) <| cp (oSAdd hc63 tm (cS (by decide))) (s1 rfl) <| cp (oAs tm) (s1 rfl) <| .nil) (by kernel_rfl) ?_
          refine pBlkN ?_
          refine pSeq ?_
          refine rg (cp (oAdd tm (cI (by decide))) (s1 rfl) <| cp (oMv tm) (s1 rfl) <| .nil) (by kernel_rfl) ?_
          refine pDrop (.cons _ .slnil) ?_
          exact pLoop (lW (ih _ _ h) ⟨rfl, rfl, rfl, rfl, trivial⟩ rfl)
    · refine wCF hp44 tm (s1 rfl) ?_
      refine wExit ?_
      refine pThenX ?_
      refine pThenX ?_
      refine pBlkX ?_
      exact pJ1 _ (so h) ⟨rfl, trivial⟩ rfl
  · rintro x43 rfl
    replace h := hk1
    refine pSeq ?_
    refine wSeq ?_
    refine rg (cp (oMv tm) (s1 rfl) <| cp (oAs tm) (s1 rfl) <| cp (oAs (cI (by decide))) trivial <| .nil) (by kernel_rfl) ?_
    refine pSeq ?_
    refine wRet ?_
    obtain rfl := so h
    exact pRn (.inl rfl) rfl rfl (.tmp rfl <| .tmp rfl <| .nil)

theorem reticentlaw06_TableChecks.ok {a0 : api_Table} {r : Bool} (h : reticentlaw06_TableChecks.f a0 = some r) : FnA Tryd.prog 3 [(kR f_api_Table).sig a0] (kB.sig r) := by
  refine fnIntro Tryd.func3 rfl (by kernel_rfl) fun H0 w0 => ?_
  unfold reticentlaw06_TableChecks.f at h
  refine wSeq ?_
  refine rg (cw (oBoxS (id := 1) (fs := f_api_Table) tm) (s1 rfl) <| cp (oAs cB) trivial <| .nil) (by kernel_rfl) ?_
  refine pSeq ?_
  refine wSeq ?_
  obtain ⟨y1, hy1, h⟩ := bd h
  refine rg (cr (oLdA (n := 0) (fs := f_api_Table) (u := ⟨a0.Rows⟩) rfl ⟨rfl, trivial⟩ t24 tm) (s1 rfl) <| cp (oCall rfl (reticentlaw06_few.ok hy1) b11 (opds_cons tm opds_nil)) (s1 rfl) <| cwn (oStA (n := 0) (fs := f_api_Table) rfl rfl z24 tm tm) (s2 rfl rfl) <| .nil) (by kernel_rfl) ?_
  refine pSeq ?_
  refine wSeq ?_
  obtain ⟨y2, hy2, h⟩ := bd h
  refine rg (cr (oLdA (n := 0) (fs := f_api_Table) (u := ⟨y1.Rows⟩) rfl ⟨rfl, trivial⟩ t24 tm) (s1 rfl) <| cp (oCall rfl (table_Check.ok hy2) b12 (opds_cons tm opds_nil)) (s1 rfl) <| cp (oMv tm) (s1 rfl) <| cp (oExt (k := 0) rfl tm) (s1 rfl) <| cp (oExt (k := 1) rfl tm) (s1 rfl) <| cp (oAs tm) (s1 rfl) <| cp (oAs tm) (s1 rfl) <| .nil) (by kernel_rfl) ?_
  refine pSeq ?_
  refine wSeq ?_
  obtain ⟨y3, hy3, h⟩ := bd h
  refine rg (cr (oLdA (n := 0) (fs := f_api_Table) (u := ⟨y1.Rows⟩) rfl ⟨rfl, trivial⟩ t24 tm) (s1 rfl) <| cp (oCall rfl (table_Text.ok hy3) b13 (opds_cons tm opds_nil)) (s1 rfl) <| cp (oMv tm) (s1 rfl) <| cp (oExt (k := 0) rfl tm) (s1 rfl) <| cp (oExt (k := 1) rfl tm) (s1 rfl) <| cp (oAs tm) (s1 rfl) <| cp (oAs tm) (s1 rfl) <| .nil) (by kernel_rfl) ?_
  refine pSeq ?_
  refine wSeq ?_
  obtain ⟨y4, hy4, h⟩ := bd h
  refine rg (cr (oLdA (n := 0) (fs := f_api_Table) (u := ⟨y1.Rows⟩) rfl ⟨rfl, trivial⟩ t24 tm) (s1 rfl) <| cp (oCall rfl (reticentref06_Check.ok hy4) b14 (opds_cons tm opds_nil)) (s1 rfl) <| cw (oAlloc (id := 7) (ls := [.d (kI .i64) 0, .d (kI .i64) 0]) ze32 (fun g => ⟨[(.int .i64 0)], _, rfl, zI_i64 g.H, ⟨[(.int .i64 0)], _, rfl, zI_i64 g.H, rfl⟩⟩)) trivial <| cwn (oStA (n := 0) (fs := f_reticentref06_W) rfl rfl z32 tm tm) (s2 rfl rfl) <| .nil) (by kernel_rfl) ?_
  refine pSeq ?_
  refine wSeq ?_
  obtain ⟨o1, h, hk1⟩ := bd h
  refine wJ1 (fun x8 => x8 = o1) (fun x8 => [(1, .p 1 0), (5, .d (kS.sig y3.1)), (6, .d ((kI .i64).sig y3.2)), (7, .p 7 0), (37, .d (kB.sig x8))]) (fun x8 => [.box 7 32 [.d (kI .i64) y4.I, .d (kI .i64) y4.E], .box 1 24 [.d (kL (kR f_api_Row)) y1.Rows]]) ?_ ?_
  · rcases ic h with ⟨hp9, h⟩ | ⟨hp9, h⟩
    · rcases ic h with ⟨hp10, h⟩ | ⟨hp10, h⟩
      · obtain ⟨y11, hy11, h⟩ := bd h
        refine rg (cp (oMv tm) (s1 rfl) <| cp (oFldP o32_1 tm) (s1 rfl) <| cr (oLdB (n := 0) (k := 1) rfl rfl rfl t26 tm) (s1 rfl) <| cp (oNe rfl tm tm) (s2 rfl rfl) <| cp (oMv tm) (s1 rfl) <| cgB (nf hp9) rfl rfl (oMv tm) (s1 rfl) <| cgB (nf hp9) rfl rfl (oFldP o32_0 tm) (s1 rfl) <| crgB (nf hp9) rfl rfl (oLdB (n := 0) (k := 0) rfl rfl rfl t3 tm) (s1 rfl) <| cgB (nf hp9) rfl rfl (oNe rfl tm tm) (s2 rfl rfl) <| cp (oPkF (nf hp9) tm tm) (s2 rfl rfl) <| cp (oMv tm) (s1 rfl) <| cgB (nf hp10) rfl rfl (oCall rfl (reticentlaw06_alive.ok hy11) b15 opds_nil) trivial <| cgB (nf hp10) rfl rfl (oNot tm) (s1 rfl) <| cp (oPkF (nf hp10) tm tm) (s2 rfl rfl) <| .nil) (by kernel_rfl) ?_
        exact pJ1 _ (so h) ⟨rfl, rfl, rfl, rfl, rfl, trivial⟩ rfl
      · refine rg (cp (oMv tm) (s1 rfl) <| cp (oFldP o32_1 tm) (s1 rfl) <| cr (oLdB (n := 0) (k := 1) rfl rfl rfl t26 tm) (s1 rfl) <| cp (oNe rfl tm tm) (s2 rfl rfl) <| cp (oMv tm) (s1 rfl) <| cgB (nf hp9) rfl rfl (oMv tm) (s1 rfl) <| cgB (nf hp9) rfl rfl (oFldP o32_0 tm) (s1 rfl) <| crgB (nf hp9) rfl rfl (oLdB (n := 0) (k := 0) rfl rfl rfl t3 tm) (s1 rfl) <| cgB (nf hp9) rfl rfl (oNe rfl tm tm) (s2 rfl rfl) <| cp (oPkF (nf hp9) tm tm) (s2 rfl rfl) <| cp (oMv tm) (s1 rfl) <| csB (nt hp10) rfl rfl <| csB (nt hp10) rfl rfl <| cp (oPkT (nt hp10) tm cB) (s1 rfl) <| .nil) (by kernel_rfl) ?_
        exact pJ1 _ (so h) ⟨rfl, rfl, rfl, rfl, rfl, trivial⟩ rfl
    · refine rg (cp (oMv tm) (s1 rfl) <| cp (oFldP o32_1 tm) (s1 rfl) <| cr (oLdB (n := 0) (k := 1) rfl rfl rfl t26 tm) (s1 rfl) <| cp (oNe rfl tm tm) (s2 rfl rfl) <| cp (oMv tm) (s1 rfl) <| csB (nt hp9) rfl rfl <| csB (nt hp9) rfl rfl <| csB (nt hp9) rfl rfl <| csB (nt hp9) rfl rfl <| cp (oPkT (nt hp9) tm cB) (s1 rfl) <| cp (oMv tm) (s1 rfl) <| csB rfl rfl rfl <| csB rfl rfl rfl <| cp (oPkT rfl tm cB) (s1 rfl) <| .nil) (by kernel_rfl) ?_
      exact pJ1 _ (so h) ⟨rfl, rfl, rfl, rfl, rfl, trivial⟩ rfl
  · rintro x8 rfl
    replace h := hk1
    rcases ic h with ⟨hp12, h⟩ | ⟨hp12, h⟩
    · refine wBT hp12 tm (s1 rfl) ?_
      refine wSeq ?_
      refine rg (cp (oAs cB) trivial <| .nil) (by kernel_rfl) ?_
      refine pSeq ?_
      refine wRet ?_
      refine pThenR ?_
      obtain rfl := so h
      exact pR1 (.inl rfl) rfl (.tmp rfl <| .nil)
    · refine wBF hp12 tm (s1 rfl) ?_
      refine wSkip ?_
      refine pSeq ?_
      refine wSeq ?_
      refine wSeq ?_
      refine rg (cp (oFldP o32_1 tm) (s1 rfl) <| cr (oLdB (n := 0) (k := 1) rfl rfl rfl t26 tm) (s1 rfl) <| cp (oNe rfl tm (cI (by decide))) (s1 rfl) <| .nil) (by kernel_rfl) ?_
      refine pSeq ?_
      rcases ic h with ⟨hp13, h⟩ | ⟨hp13, h⟩
      · refine wNT hp13 tm (s1 rfl) ?_
        refine wSkip ?_
        refine pSeq ?_
        refine wSeq ?_
        obtain ⟨y14, hy14, h⟩ := bd h
        refine rg (cr (oLdA (n := 1) (fs := f_api_Table) (u := ⟨y1.Rows⟩) rfl ⟨rfl, trivial⟩ t24 tm) (s1 rfl) <| cp (oCall rfl (reticentref06_Text.ok hy14) b16 (opds_cons tm opds_nil)) (s1 rfl) <| cp (oMv tm) (s1 rfl) <| cp (oExt (k := 0) rfl tm) (s1 rfl) <| cp (oExt (k := 1) rfl tm) (s1 rfl) <| cp (oAs tm) (s1 rfl) <| cp (oAs tm) (s1 rfl) <| .nil) (by kernel_rfl) ?_
        refine pSeq ?_
        obtain ⟨o1, h, hk1⟩ := bd h
        refine wJ1 (fun x16 => x16 = o1) (fun x16 => [(2, .d (kB.sig x16))]) (fun x16 => [.box 7 32 [.d (kI .i64) y4.I, .d (kI .i64) y4.E], .box 1 24 [.d (kL (kR f_api_Row)) y1.Rows]]) ?_ ?_
        · rcases ic h with ⟨hp17, h⟩ | ⟨hp17, h⟩
          · refine rg (cp (oMv tm) (s1 rfl) <| cp (oMv tm) (s1 rfl) <| cp (oEq rfl tm tm) (s2 rfl rfl) <| cp (oMv tm) (s1 rfl) <| cgB (decide_eq_true hp17) rfl rfl (oMv tm) (s1 rfl) <| cgB (decide_eq_true hp17) rfl rfl (oMv tm) (s1 rfl) <| cgB (decide_eq_true hp17) rfl rfl (oSEq rfl tm tm) (s2 rfl rfl) <| cp (oPkT (decide_eq_true hp17) tm tm) (s2 rfl rfl) <| cp (oAs tm) (s1 rfl) <| .nil) (by kernel_rfl) ?_
            exact pJ1 _ (so h) ⟨rfl, trivial⟩ rfl
          · refine rg (cp (oMv tm) (s1 rfl) <| cp (oMv tm) (s1 rfl) <| cp (oEq rfl tm tm) (s2 rfl rfl) <| cp (oMv tm) (s1 rfl) <| csB (decide_eq_false hp17) rfl rfl <| csB (decide_eq_false hp17) rfl rfl <| csB (decide_eq_false hp17) rfl rfl <| cp (oPkF (decide_eq_false hp17) tm cB) (s1 rfl) <| cp (oAs tm) (s1 rfl) <| .nil) (by kernel_rfl) ?_
            exact pJ1 _ (so h) ⟨rfl, trivial⟩ rfl
        · rintro x16 rfl
          replace h := hk1
          refine wRet ?_
          obtain rfl := so h
          exact pR1 (.inl rfl) rfl (.tmp rfl <| .nil)
      · refine wNF hp13 tm (s1 rfl) ?_
        obtain ⟨o1, h, hk1⟩ := bd h
        refine wJ1 (fun x19 => x19 = o1) (fun x19 => [(2, .d (kB.sig x19))]) (fun x19 => [.box 7 32 [.d (kI .i64) y4.I, .d (kI .i64) y4.E], .box 1 24 [.d (kL (kR f_api_Row)) y1.Rows]]) ?_ ?_
        · rcases ic h with ⟨hp20, h⟩ | ⟨hp20, h⟩
          · refine rg (cp (oMv tm) (s1 rfl) <| cp (oFldP o32_1 tm) (s1 rfl) <| cr (oLdB (n := 0) (k := 1) rfl rfl rfl t26 tm) (s1 rfl) <| cp (oEq rfl tm tm) (s2 rfl rfl) <| cp (oMv tm) (s1 rfl) <| cgB (decide_eq_true hp20) rfl rfl (oMv tm) (s1 rfl) <| cgB (decide_eq_true hp20) rfl rfl (oSEq rfl tm (cS (by decide))) (s1 rfl) <| cp (oPkT (decide_eq_true hp20) tm tm) (s2 rfl rfl) <| cp (oAs tm) (s1 rfl) <| .nil) (by kernel_rfl) ?_
            exact pJ1 _ (so h) ⟨rfl, trivial⟩ rfl
          · refine rg (cp (oMv tm) (s1 rfl) <| cp (oFldP o32_1 tm) (s1 rfl) <| cr (oLdB (n := 0) (k := 1) rfl rfl rfl t26 tm) (s1 rfl) <| cp (oEq rfl tm tm) (s2 rfl rfl) <| cp (oMv tm) (s1 rfl) <| csB (decide_eq_false hp20) rfl rfl <| csB (decide_eq_false hp20) rfl rfl <| cp (oPkF (decide_eq_false hp20) tm cB) (s1 rfl) <| cp (oAs tm) (s1 rfl) <| .nil) (by kernel_rfl) ?_
            exact pJ1 _ (so h) ⟨rfl, trivial⟩ rfl
        · rintro x19 rfl
          replace h := hk1
          refine wRet ?_
          refine pThenR ?_
          obtain rfl := so h
          exact pR1 (.inl rfl) rfl (.tmp rfl <| .nil)

end Go.Proofs.YtjkijjhjffodcaaDoor.LT
