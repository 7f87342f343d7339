/- The given statement RuleToldSaid holds: of every world and every argument that its row lets in, the law answers true. No condition beyond the statement's own. -/
import Derived.Test.YthpmbokenhpakaaRows
import Derived.Test.YthpmbokenhpakaaWLF
import Derived.Test.YthpmbokenhpakaaPureRuleTold
import Derived.Test.YthpmbokenhpakaaAb17
import Derived.WalkKit
import Derived.ProofKit
import Derived.OpenShut
import Derived.ShutString
import Derived.ChangeOld
import Derived.Below
import Derived.SizedLaws
import Derived.Carry
namespace Go.Proofs.Ythpmbokenhpakaa.ruleTold
open Go.ChangeShapes Go.WideShapes Go.ChangeAt Go.RowKit
open Go.ChangeMaps (open_string shut_string)
open Go.Proofs.Ythpmbokenhpakaa.Ab Go.Proofs.Ythpmbokenhpakaa.LF
set_option linter.unusedVariables false
theorem own : ownKnob Try.prog.godebug = none := by kernel_rfl
theorem laidOut : laidOutB Try.prog = true := by kernel_rfl
theorem open3 : Ab.Open Try.prog 3 (kI .i64) := openI Try.underlying3
theorem open9 : Ab.Open Try.prog 9 kS := openS Try.underlying9
theorem open36 : Ab.Open Try.prog 36 (kR f_api_Tok) := openR (gs := f_api_Tok) (fun v => ⟨v.1, v.2.1, v.2.2.1⟩) (fun H cs v h => h) Try.underlying36 (by kernel_rfl) ⟨rfl, by kernel_rfl, open3, rfl, by kernel_rfl, open9, rfl, by kernel_rfl, open3, trivial⟩
theorem open34 : Ab.Open Try.prog 34 (kL (kR f_api_Tok)) := openL Try.underlying34 (by kernel_rfl) (by decide) (of_decide_eq_true (by kernel_rfl)) open36
set_option maxRecDepth 100000 in
theorem lifted (os : Os) (started : os.Started) (H : Type) (enc : TypeId × Value → H) :
    ReturnsInHanded {} Try.checked os 9 .any (Rows.ruleToldSpec.pre6 enc Try.prog Try.f9 Rows.ruleToldRow.domain false) (Rows.ruleToldSpec.post enc Try.prog Try.f9 false true false false) := by
  refine returnsInHanded_of_change_sized (C := Try.checked) own started (by kernel_rfl) Try.func9
    (ChangeSpec.witness6 (enc := enc) (C := Try.checked) false ⟨#[], #[.slice none 0 0, .int .i64 0, .bool false], []⟩ 8 (by kernel_rfl) (by kernel_rfl) (by kernel_rfl) (by kernel_rfl)) ?_
  intro W base args ds gs before hval0 hW hcnd hsz0 _
  have hsz : (DataW.weightsEach Try.prog (Try.f9.params.toList ++ Rows.ruleToldSpec.plain.varTypes Try.prog) (ds ++ gs)).all (· ≤ reachBytes) = true := hsz0
  have hval : ∀ (j : Nat) t v, Try.f9.params[j]? = some t → args[j]? = some v → Value.okWide Try.prog W .any base t v := hval0
  have hW' := hW
  obtain ⟨p, q, hA0, hV, rfl, hfz, hnd⟩ := hW
  have hA : DataW.TrodAll enc Try.prog W 0 (fun _ => true) true Try.f9.params.toList args.toList ds p := hA0
  rw [Try.params9] at hA hval hsz
  obtain ⟨v0, vs0, d0, ds0, p0, q0, hargs, rfl, rfl, h0, r0⟩ := trodAll_cons hA
  obtain ⟨v1, vs1, d1, ds1, p1, q1, rfl, rfl, rfl, h1, r1⟩ := trodAll_cons r0
  obtain ⟨v2, vs2, d2, ds2, p2, q2, rfl, rfl, rfl, h2, r2⟩ := trodAll_cons r1
  obtain ⟨rfl, rfl, rfl⟩ := trodAll_nil r2
  obtain rfl : args = #[v0, v1, v2] := by cases args; simp_all
  obtain ⟨rfl, rfl⟩ := trodVars_none hV
  have lt0 : ∀ x ∈ p0, x.block < W.heap.size := by obtain ⟨m, hm⟩ := h0; exact DataW.trod_lt m _ _ _ hm
  obtain ⟨u0, s0⟩ := openArg open34 h0 (fun n hn => by have := List.all_eq_true.1 hsz _ (DataW.weights_mem_each (j := 0) (t := 34) rfl rfl n hn); simpa using this) (by obtain ⟨a, l, c, e⟩ := okWide_slice Try.underlying34 (hval 0 34 v0 rfl rfl); rw [e]; exact hvOne rfl)
  obtain ⟨u1, rfl, rfl, rfl, w1⟩ := open_int Try.underlying3 (hval 1 3 v1 rfl rfl) h1
  have i1 : InR .i64 u1 := by simpa [Lit.wf, InR] using w1
  have s1 : ((kI .i64).sig u1).p (fun b => W.heap[b]?) (.int .i64 u1) := kI_sig.2 ⟨rfl, i1⟩
  obtain ⟨u2, rfl, rfl, rfl⟩ := open_bool Try.underlying4 (hval 2 4 v2 rfl rfl) h2
  have s2 : (kB.sig u2).p (fun b => W.heap[b]?) (.bool u2) := kB_sig.2 rfl
  clear hA0 hval0 hsz0 hsz
  refine (reticentlaw04_RuleTold.ok (Pure.RuleTold u0 u1 u2 (let ⟨cs, h, _⟩ := s0; ⟨_, cs, h⟩) i1) (fun b => W.heap[b]?) W [_, _, _] (fun _ _ e => e) ⟨_, _, rfl, s0, ⟨_, _, rfl, s1, ⟨_, _, rfl, s2, rfl⟩⟩⟩).mono ?_
  rintro e W' ⟨v, H', rfl, hk, hv⟩
  obtain rfl := kB_sig.1 hv
  have bel := hk.below
  exact ⟨_, rfl, _, _, _, [], _, [], hW', trodAll_mk1 (shut_bool Try.underlying4 _), (trodAll_cons_mk (Below.trod laidOut (by kernel_rfl) (of_decide_eq_true (by kernel_rfl)) h0 bel lt0) (trodAll_cons_mk (shut_int Try.underlying3 w1) (trodAll_cons_mk (shut_bool Try.underlying4 _) trodAll_mk0))), rfl, bel.frame _, fun h => by cases h⟩
theorem over : Rows.ruleToldRow.holds Try.pinned (OpenSpec.ofChange Rows.ruleToldSpec) :=
  OpenClaim.holds_of_wide 9 Try.f9 rfl rfl rfl rfl rfl rfl rfl ⟨rfl, rfl, rfl, rfl, rfl⟩ rfl rfl rfl rfl rfl (by kernel_rfl) Try.func9 (by kernel_rfl)
    (of_decide_eq_true (by kernel_rfl)) (by unfold Func.isWrapper; first | (rw [if_pos (by decide +kernel)]; kernel_rfl) | (rw [if_neg (by decide +kernel)]; exact ⟨rfl, rfl⟩))
    (fun os started H enc _ => lifted os started H enc)
theorem proved : Rows.RuleToldSaid := over
#print axioms proved
end Go.Proofs.Ythpmbokenhpakaa.ruleTold
namespace Go.Proofs.Ythpmbokenhpakaa
theorem ruleTold_holds : Rows.RuleToldSaid := ruleTold.proved
end Go.Proofs.Ythpmbokenhpakaa
