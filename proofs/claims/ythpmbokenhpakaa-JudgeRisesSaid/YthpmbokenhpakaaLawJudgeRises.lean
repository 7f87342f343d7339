/- The given statement JudgeRisesSaid holds: of every world and every argument that its row lets in, the law answers true. No condition beyond the statement's own. -/
import Derived.Test.YthpmbokenhpakaaRows
import Derived.Test.YthpmbokenhpakaaWLE
import Derived.Test.YthpmbokenhpakaaPureJudgeRises
import Derived.Test.YthpmbokenhpakaaAb17
import Derived.WalkKit
import Derived.ProofKit
import Derived.OpenShut
import Derived.ShutString
import Derived.ChangeOld
import Derived.Below
import Derived.SizedLaws
import Derived.Carry
namespace Go.Proofs.Ythpmbokenhpakaa.judgeRises
open Go.ChangeShapes Go.WideShapes Go.ChangeAt Go.RowKit
open Go.ChangeMaps (open_string shut_string)
open Go.Proofs.Ythpmbokenhpakaa.Ab Go.Proofs.Ythpmbokenhpakaa.LE
set_option linter.unusedVariables false
theorem own : ownKnob Try.prog.godebug = none := by kernel_rfl
theorem laidOut : laidOutB Try.prog = true := by kernel_rfl
theorem open9 : Ab.Open Try.prog 9 kS := openS Try.underlying9
theorem open39 : Ab.Open Try.prog 39 (kL kS) := openL Try.underlying39 (by kernel_rfl) (by decide) (of_decide_eq_true (by kernel_rfl)) open9
theorem open64 : Ab.Open Try.prog 64 (kI .u32) := openI Try.underlying64
theorem open40 : Ab.Open Try.prog 40 (kL (kI .u32)) := openL Try.underlying40 (by kernel_rfl) (by decide) (of_decide_eq_true (by kernel_rfl)) open64
theorem open42 : Ab.Open Try.prog 42 (kR f_api_Lattice) := openR (gs := f_api_Lattice) (fun v => ⟨v.1, v.2.1⟩) (fun H cs v h => h) Try.underlying42 (by kernel_rfl) ⟨rfl, by kernel_rfl, open39, rfl, by kernel_rfl, open40, trivial⟩
theorem open3 : Ab.Open Try.prog 3 (kI .i64) := openI Try.underlying3
theorem open22 : Ab.Open Try.prog 22 (kL (kI .i64)) := openL Try.underlying22 (by kernel_rfl) (by decide) (of_decide_eq_true (by kernel_rfl)) open3
set_option maxRecDepth 100000 in
theorem lifted (os : Os) (started : os.Started) (H : Type) (enc : TypeId × Value → H) :
    ReturnsInHanded {} Try.checked os 13 .any (Rows.judgeRisesSpec.pre6 enc Try.prog Try.f13 Rows.judgeRisesRow.domain false) (Rows.judgeRisesSpec.post enc Try.prog Try.f13 false true false false) := by
  refine returnsInHanded_of_change_sized (C := Try.checked) own started (by kernel_rfl) Try.func13
    (ChangeSpec.witness6 (enc := enc) (C := Try.checked) false ⟨#[], #[.agg #[.slice none 0 0, .slice none 0 0], .slice none 0 0, .slice none 0 0, .int .i64 0, .int .i64 0], []⟩ 8 (by kernel_rfl) (by kernel_rfl) (by kernel_rfl) (by kernel_rfl)) ?_
  intro W base args ds gs before hval0 hW hcnd hsz0 _
  have hsz : (DataW.weightsEach Try.prog (Try.f13.params.toList ++ Rows.judgeRisesSpec.plain.varTypes Try.prog) (ds ++ gs)).all (· ≤ reachBytes) = true := hsz0
  have hval : ∀ (j : Nat) t v, Try.f13.params[j]? = some t → args[j]? = some v → Value.okWide Try.prog W .any base t v := hval0
  have hW' := hW
  obtain ⟨p, q, hA0, hV, rfl, hfz, hnd⟩ := hW
  have hA : DataW.TrodAll enc Try.prog W 0 (fun _ => true) true Try.f13.params.toList args.toList ds p := hA0
  rw [Try.params13] at hA hval hsz
  obtain ⟨v0, vs0, d0, ds0, p0, q0, hargs, rfl, rfl, h0, r0⟩ := trodAll_cons hA
  obtain ⟨v1, vs1, d1, ds1, p1, q1, rfl, rfl, rfl, h1, r1⟩ := trodAll_cons r0
  obtain ⟨v2, vs2, d2, ds2, p2, q2, rfl, rfl, rfl, h2, r2⟩ := trodAll_cons r1
  obtain ⟨v3, vs3, d3, ds3, p3, q3, rfl, rfl, rfl, h3, r3⟩ := trodAll_cons r2
  obtain ⟨v4, vs4, d4, ds4, p4, q4, rfl, rfl, rfl, h4, r4⟩ := trodAll_cons r3
  obtain ⟨rfl, rfl, rfl⟩ := trodAll_nil r4
  obtain rfl : args = #[v0, v1, v2, v3, v4] := by cases args; simp_all
  obtain ⟨rfl, rfl⟩ := trodVars_none hV
  have lt0 : ∀ x ∈ p0, x.block < W.heap.size := by obtain ⟨m, hm⟩ := h0; exact DataW.trod_lt m _ _ _ hm
  obtain ⟨u0, s0⟩ := openArg open42 h0 (fun n hn => by have := List.all_eq_true.1 hsz _ (DataW.weights_mem_each (j := 0) (t := 42) rfl rfl n hn); simpa using this) (hvStruct Try.underlying42 (hval 0 42 v0 rfl rfl))
  have lt1 : ∀ x ∈ p1, x.block < W.heap.size := by obtain ⟨m, hm⟩ := h1; exact DataW.trod_lt m _ _ _ hm
  obtain ⟨u1, s1⟩ := openArg open22 h1 (fun n hn => by have := List.all_eq_true.1 hsz _ (DataW.weights_mem_each (j := 1) (t := 22) rfl rfl n hn); simpa using this) (by obtain ⟨a, l, c, e⟩ := okWide_slice Try.underlying22 (hval 1 22 v1 rfl rfl); rw [e]; exact hvOne rfl)
  have lt2 : ∀ x ∈ p2, x.block < W.heap.size := by obtain ⟨m, hm⟩ := h2; exact DataW.trod_lt m _ _ _ hm
  obtain ⟨u2, s2⟩ := openArg open22 h2 (fun n hn => by have := List.all_eq_true.1 hsz _ (DataW.weights_mem_each (j := 2) (t := 22) rfl rfl n hn); simpa using this) (by obtain ⟨a, l, c, e⟩ := okWide_slice Try.underlying22 (hval 2 22 v2 rfl rfl); rw [e]; exact hvOne rfl)
  obtain ⟨u3, rfl, rfl, rfl, w3⟩ := open_int Try.underlying3 (hval 3 3 v3 rfl rfl) h3
  have i3 : InR .i64 u3 := by simpa [Lit.wf, InR] using w3
  have s3 : ((kI .i64).sig u3).p (fun b => W.heap[b]?) (.int .i64 u3) := kI_sig.2 ⟨rfl, i3⟩
  obtain ⟨u4, rfl, rfl, rfl, w4⟩ := open_int Try.underlying3 (hval 4 3 v4 rfl rfl) h4
  have i4 : InR .i64 u4 := by simpa [Lit.wf, InR] using w4
  have s4 : ((kI .i64).sig u4).p (fun b => W.heap[b]?) (.int .i64 u4) := kI_sig.2 ⟨rfl, i4⟩
  clear hA0 hval0 hsz0 hsz
  refine (reticentlaw07_JudgeRises.ok (Pure.JudgeRises u0 u1 u2 u3 u4 (let ⟨cs, h, _⟩ := s0; ⟨_, cs, h⟩) (let ⟨cs, h, _⟩ := s1; ⟨_, cs, h⟩) (let ⟨cs, h, _⟩ := s2; ⟨_, cs, h⟩) i3 i4) (fun b => W.heap[b]?) W [_, _, _, _, _] (fun _ _ e => e) ⟨_, _, rfl, s0, ⟨_, _, rfl, s1, ⟨_, _, rfl, s2, ⟨_, _, rfl, s3, ⟨_, _, rfl, s4, rfl⟩⟩⟩⟩⟩).mono ?_
  rintro e W' ⟨v, H', rfl, hk, hv⟩
  obtain rfl := kB_sig.1 hv
  have bel := hk.below
  exact ⟨_, rfl, _, _, _, [], _, [], hW', trodAll_mk1 (shut_bool Try.underlying4 _), (trodAll_cons_mk (Below.trod laidOut (by kernel_rfl) (of_decide_eq_true (by kernel_rfl)) h0 bel lt0) (trodAll_cons_mk (Below.trod laidOut (by kernel_rfl) (of_decide_eq_true (by kernel_rfl)) h1 bel lt1) (trodAll_cons_mk (Below.trod laidOut (by kernel_rfl) (of_decide_eq_true (by kernel_rfl)) h2 bel lt2) (trodAll_cons_mk (shut_int Try.underlying3 w3) (trodAll_cons_mk (shut_int Try.underlying3 w4) trodAll_mk0))))), rfl, bel.frame _, fun h => by cases h⟩
theorem over : Rows.judgeRisesRow.holds Try.pinned (OpenSpec.ofChange Rows.judgeRisesSpec) :=
  OpenClaim.holds_of_wide 13 Try.f13 rfl rfl rfl rfl rfl rfl rfl ⟨rfl, rfl, rfl, rfl, rfl⟩ rfl rfl rfl rfl rfl (by kernel_rfl) Try.func13 (by kernel_rfl)
    (of_decide_eq_true (by kernel_rfl)) (by unfold Func.isWrapper; first | (rw [if_pos (by decide +kernel)]; kernel_rfl) | (rw [if_neg (by decide +kernel)]; exact ⟨rfl, rfl⟩))
    (fun os started H enc _ => lifted os started H enc)
theorem proved : Rows.JudgeRisesSaid := over
#print axioms proved
end Go.Proofs.Ythpmbokenhpakaa.judgeRises
namespace Go.Proofs.Ythpmbokenhpakaa
theorem judgeRises_holds : Rows.JudgeRisesSaid := judgeRises.proved
end Go.Proofs.Ythpmbokenhpakaa
