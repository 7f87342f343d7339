/- The given statement LatticeLawsSaid holds: of every world and every argument that its row lets in, the law answers true. No condition beyond the statement's own. -/
import Derived.Test.YthpmbokenhpakaaRows
import Derived.Test.YthpmbokenhpakaaWLA
import Derived.Test.YthpmbokenhpakaaPureLatticeLaws
import Derived.Test.YthpmbokenhpakaaAb17
import Derived.WalkKit
import Derived.ProofKit
import Derived.OpenShut
import Derived.ShutString
import Derived.ChangeOld
import Derived.Below
import Derived.SizedLaws
import Derived.Carry
namespace Go.Proofs.Ythpmbokenhpakaa.latticeLaws
open Go.ChangeShapes Go.WideShapes Go.ChangeAt Go.RowKit
open Go.ChangeMaps (open_string shut_string)
open Go.Proofs.Ythpmbokenhpakaa.Ab Go.Proofs.Ythpmbokenhpakaa.LA
set_option linter.unusedVariables false
theorem own : ownKnob Try.prog.godebug = none := by kernel_rfl
theorem laidOut : laidOutB Try.prog = true := by kernel_rfl
theorem open9 : Ab.Open Try.prog 9 kS := openS Try.underlying9
theorem open39 : Ab.Open Try.prog 39 (kL kS) := openL Try.underlying39 (by kernel_rfl) (by decide) (of_decide_eq_true (by kernel_rfl)) open9
theorem open64 : Ab.Open Try.prog 64 (kI .u32) := openI Try.underlying64
theorem open40 : Ab.Open Try.prog 40 (kL (kI .u32)) := openL Try.underlying40 (by kernel_rfl) (by decide) (of_decide_eq_true (by kernel_rfl)) open64
theorem open42 : Ab.Open Try.prog 42 (kR f_api_Lattice) := openR (gs := f_api_Lattice) (fun v => ⟨v.1, v.2.1⟩) (fun H cs v h => h) Try.underlying42 (by kernel_rfl) ⟨rfl, by kernel_rfl, open39, rfl, by kernel_rfl, open40, trivial⟩
set_option maxRecDepth 100000 in
theorem lifted (os : Os) (started : os.Started) (H : Type) (enc : TypeId × Value → H) :
    ReturnsInHanded {} Try.checked os 8 .any (Rows.latticeLawsSpec.pre6 enc Try.prog Try.f8 Rows.latticeLawsRow.domain false) (Rows.latticeLawsSpec.post enc Try.prog Try.f8 false true false false) := by
  refine returnsInHanded_of_change_sized (C := Try.checked) own started (by kernel_rfl) Try.func8
    (ChangeSpec.witness6 (enc := enc) (C := Try.checked) false ⟨#[], #[.agg #[.slice none 0 0, .slice none 0 0], .int .i64 0, .int .i64 0, .int .i64 0], []⟩ 8 (by kernel_rfl) (by kernel_rfl) (by kernel_rfl) (by kernel_rfl)) ?_
  intro W base args ds gs before hval0 hW hcnd hsz0 _
  have hsz : (DataW.weightsEach Try.prog (Try.f8.params.toList ++ Rows.latticeLawsSpec.plain.varTypes Try.prog) (ds ++ gs)).all (· ≤ reachBytes) = true := hsz0
  have hval : ∀ (j : Nat) t v, Try.f8.params[j]? = some t → args[j]? = some v → Value.okWide Try.prog W .any base t v := hval0
  have hW' := hW
  obtain ⟨p, q, hA0, hV, rfl, hfz, hnd⟩ := hW
  have hA : DataW.TrodAll enc Try.prog W 0 (fun _ => true) true Try.f8.params.toList args.toList ds p := hA0
  rw [Try.params8] at hA hval hsz
  obtain ⟨v0, vs0, d0, ds0, p0, q0, hargs, rfl, rfl, h0, r0⟩ := trodAll_cons hA
  obtain ⟨v1, vs1, d1, ds1, p1, q1, rfl, rfl, rfl, h1, r1⟩ := trodAll_cons r0
  obtain ⟨v2, vs2, d2, ds2, p2, q2, rfl, rfl, rfl, h2, r2⟩ := trodAll_cons r1
  obtain ⟨v3, vs3, d3, ds3, p3, q3, rfl, rfl, rfl, h3, r3⟩ := trodAll_cons r2
  obtain ⟨rfl, rfl, rfl⟩ := trodAll_nil r3
  obtain rfl : args = #[v0, v1, v2, v3] := by cases args; simp_all
  obtain ⟨rfl, rfl⟩ := trodVars_none hV
  have lt0 : ∀ x ∈ p0, x.block < W.heap.size := by obtain ⟨m, hm⟩ := h0; exact DataW.trod_lt m _ _ _ hm
  obtain ⟨u0, s0⟩ := openArg open42 h0 (fun n hn => by have := List.all_eq_true.1 hsz _ (DataW.weights_mem_each (j := 0) (t := 42) rfl rfl n hn); simpa using this) (hvStruct Try.underlying42 (hval 0 42 v0 rfl rfl))
  obtain ⟨u1, rfl, rfl, rfl, w1⟩ := open_int Try.underlying3 (hval 1 3 v1 rfl rfl) h1
  have i1 : InR .i64 u1 := by simpa [Lit.wf, InR] using w1
  have s1 : ((kI .i64).sig u1).p (fun b => W.heap[b]?) (.int .i64 u1) := kI_sig.2 ⟨rfl, i1⟩
  obtain ⟨u2, rfl, rfl, rfl, w2⟩ := open_int Try.underlying3 (hval 2 3 v2 rfl rfl) h2
  have i2 : InR .i64 u2 := by simpa [Lit.wf, InR] using w2
  have s2 : ((kI .i64).sig u2).p (fun b => W.heap[b]?) (.int .i64 u2) := kI_sig.2 ⟨rfl, i2⟩
  obtain ⟨u3, rfl, rfl, rfl, w3⟩ := open_int Try.underlying3 (hval 3 3 v3 rfl rfl) h3
  have i3 : InR .i64 u3 := by simpa [Lit.wf, InR] using w3
  have s3 : ((kI .i64).sig u3).p (fun b => W.heap[b]?) (.int .i64 u3) := kI_sig.2 ⟨rfl, i3⟩
  clear hA0 hval0 hsz0 hsz
  refine (reticentlaw01_LatticeLaws.ok (Pure.LatticeLaws u0 u1 u2 u3 (let ⟨cs, h, _⟩ := s0; ⟨_, cs, h⟩) i1 i2 i3) (fun b => W.heap[b]?) W [_, _, _, _] (fun _ _ e => e) ⟨_, _, rfl, s0, ⟨_, _, rfl, s1, ⟨_, _, rfl, s2, ⟨_, _, rfl, s3, rfl⟩⟩⟩⟩).mono ?_
  rintro e W' ⟨v, H', rfl, hk, hv⟩
  obtain rfl := kB_sig.1 hv
  have bel := hk.below
  exact ⟨_, rfl, _, _, _, [], _, [], hW', trodAll_mk1 (shut_bool Try.underlying4 _), (trodAll_cons_mk (Below.trod laidOut (by kernel_rfl) (of_decide_eq_true (by kernel_rfl)) h0 bel lt0) (trodAll_cons_mk (shut_int Try.underlying3 w1) (trodAll_cons_mk (shut_int Try.underlying3 w2) (trodAll_cons_mk (shut_int Try.underlying3 w3) trodAll_mk0)))), rfl, bel.frame _, fun h => by cases h⟩
theorem over : Rows.latticeLawsRow.holds Try.pinned (OpenSpec.ofChange Rows.latticeLawsSpec) :=
  OpenClaim.holds_of_wide 8 Try.f8 rfl rfl rfl rfl rfl rfl rfl ⟨rfl, rfl, rfl, rfl, rfl⟩ rfl rfl rfl rfl rfl (by kernel_rfl) Try.func8 (by kernel_rfl)
    (of_decide_eq_true (by kernel_rfl)) (by unfold Func.isWrapper; first | (rw [if_pos (by decide +kernel)]; kernel_rfl) | (rw [if_neg (by decide +kernel)]; exact ⟨rfl, rfl⟩))
    (fun os started H enc _ => lifted os started H enc)
theorem proved : Rows.LatticeLawsSaid := over
#print axioms proved
end Go.Proofs.Ythpmbokenhpakaa.latticeLaws
namespace Go.Proofs.Ythpmbokenhpakaa
theorem latticeLaws_holds : Rows.LatticeLawsSaid := latticeLaws.proved
end Go.Proofs.Ythpmbokenhpakaa
