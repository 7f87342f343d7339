/- The given statement MutantWeakerSaid holds: of every world and every argument that its row lets in, the law answers true. No condition beyond the statement's own. -/
import Derived.Test.YthpmbokenhpakaaRows
import Derived.Test.YthpmbokenhpakaaWLD
import Derived.Test.YthpmbokenhpakaaPureMutantWeaker
import Derived.Test.YthpmbokenhpakaaAb17
import Derived.WalkKit
import Derived.ProofKit
import Derived.OpenShut
import Derived.ShutString
import Derived.ChangeOld
import Derived.Below
import Derived.SizedLaws
import Derived.Carry
namespace Go.Proofs.Ythpmbokenhpakaa.mutantWeaker
open Go.ChangeShapes Go.WideShapes Go.ChangeAt Go.RowKit
open Go.ChangeMaps (open_string shut_string)
open Go.Proofs.Ythpmbokenhpakaa.Ab Go.Proofs.Ythpmbokenhpakaa.LD
set_option linter.unusedVariables false
theorem own : ownKnob Try.prog.godebug = none := by kernel_rfl
theorem laidOut : laidOutB Try.prog = true := by kernel_rfl
theorem open3 : Ab.Open Try.prog 3 (kI .i64) := openI Try.underlying3
theorem open22 : Ab.Open Try.prog 22 (kL (kI .i64)) := openL Try.underlying22 (by kernel_rfl) (by decide) (of_decide_eq_true (by kernel_rfl)) open3
set_option maxRecDepth 100000 in
theorem lifted (os : Os) (started : os.Started) (H : Type) (enc : TypeId × Value → H) :
    ReturnsInHanded {} Try.checked os 4 .any (Rows.mutantWeakerSpec.pre6 enc Try.prog Try.f4 Rows.mutantWeakerRow.domain false) (Rows.mutantWeakerSpec.post enc Try.prog Try.f4 false true false false) := by
  refine returnsInHanded_of_change_sized (C := Try.checked) own started (by kernel_rfl) Try.func4
    (ChangeSpec.witness6 (enc := enc) (C := Try.checked) false ⟨#[], #[.slice none 0 0], []⟩ 8 (by kernel_rfl) (by kernel_rfl) (by kernel_rfl) (by kernel_rfl)) ?_
  intro W base args ds gs before hval0 hW hcnd hsz0 _
  have hsz : (DataW.weightsEach Try.prog (Try.f4.params.toList ++ Rows.mutantWeakerSpec.plain.varTypes Try.prog) (ds ++ gs)).all (· ≤ reachBytes) = true := hsz0
  have hval : ∀ (j : Nat) t v, Try.f4.params[j]? = some t → args[j]? = some v → Value.okWide Try.prog W .any base t v := hval0
  have hW' := hW
  obtain ⟨p, q, hA0, hV, rfl, hfz, hnd⟩ := hW
  have hA : DataW.TrodAll enc Try.prog W 0 (fun _ => true) true Try.f4.params.toList args.toList ds p := hA0
  rw [Try.params4] at hA hval hsz
  obtain ⟨v0, vs0, d0, ds0, p0, q0, hargs, rfl, rfl, h0, r0⟩ := trodAll_cons hA
  obtain ⟨rfl, rfl, rfl⟩ := trodAll_nil r0
  obtain rfl : args = #[v0] := by cases args; simp_all
  obtain ⟨rfl, rfl⟩ := trodVars_none hV
  have lt0 : ∀ x ∈ p0, x.block < W.heap.size := by obtain ⟨m, hm⟩ := h0; exact DataW.trod_lt m _ _ _ hm
  obtain ⟨u0, s0⟩ := openArg open22 h0 (fun n hn => by have := List.all_eq_true.1 hsz _ (DataW.weights_mem_each (j := 0) (t := 22) rfl rfl n hn); simpa using this) (by obtain ⟨a, l, c, e⟩ := okWide_slice Try.underlying22 (hval 0 22 v0 rfl rfl); rw [e]; exact hvOne rfl)
  clear hA0 hval0 hsz0 hsz
  refine (reticentlaw24_MutantWeaker.ok (Pure.MutantWeaker u0 (let ⟨cs, h, _⟩ := s0; ⟨_, cs, h⟩)) (fun b => W.heap[b]?) W [_] (fun _ _ e => e) ⟨_, _, rfl, s0, rfl⟩).mono ?_
  rintro e W' ⟨v, H', rfl, hk, hv⟩
  obtain rfl := kB_sig.1 hv
  have bel := hk.below
  exact ⟨_, rfl, _, _, _, [], _, [], hW', trodAll_mk1 (shut_bool Try.underlying4 _), (trodAll_cons_mk (Below.trod laidOut (by kernel_rfl) (of_decide_eq_true (by kernel_rfl)) h0 bel lt0) trodAll_mk0), rfl, bel.frame _, fun h => by cases h⟩
theorem over : Rows.mutantWeakerRow.holds Try.pinned (OpenSpec.ofChange Rows.mutantWeakerSpec) :=
  OpenClaim.holds_of_wide 4 Try.f4 rfl rfl rfl rfl rfl rfl rfl ⟨rfl, rfl, rfl, rfl, rfl⟩ rfl rfl rfl rfl rfl (by kernel_rfl) Try.func4 (by kernel_rfl)
    (of_decide_eq_true (by kernel_rfl)) (by unfold Func.isWrapper; first | (rw [if_pos (by decide +kernel)]; kernel_rfl) | (rw [if_neg (by decide +kernel)]; exact ⟨rfl, rfl⟩))
    (fun os started H enc _ => lifted os started H enc)
theorem proved : Rows.MutantWeakerSaid := over
#print axioms proved
end Go.Proofs.Ythpmbokenhpakaa.mutantWeaker
namespace Go.Proofs.Ythpmbokenhpakaa
theorem mutantWeaker_holds : Rows.MutantWeakerSaid := mutantWeaker.proved
end Go.Proofs.Ythpmbokenhpakaa
