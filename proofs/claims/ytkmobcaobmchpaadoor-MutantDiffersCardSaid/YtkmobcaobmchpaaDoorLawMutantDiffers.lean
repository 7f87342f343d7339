/- The given statement MutantDiffersSaid holds: of every world and every argument that its row lets in, the law answers true. No condition beyond the statement's own. -/
import Derived.Test.YtkmobcaobmchpaaDoorCards
import Derived.Test.YtkmobcaobmchpaaDoorTie
import Derived.Test.YtkmobcaobmchpaaDoorWMD
import Derived.Test.YtkmobcaobmchpaaDoorPureMutantDiffers
import Derived.Test.YtkmobcaobmchpaaDoorAb17
import Derived.WalkKit
import Derived.ProofKit
import Derived.OpenShut
import Derived.ShutString
import Derived.ChangeOld
import Derived.Below
import Derived.SizedLaws
import Derived.Carry
import Derived.Deep.DeepHandedRow
import Derived.Lib.LaidTab
namespace Go.Proofs.YtkmobcaobmchpaaDoor.mutantDiffers
open Go.ChangeShapes Go.WideShapes Go.ChangeAt Go.RowKit
open Go.ChangeMaps (open_string shut_string)
open Go.Proofs.YtkmobcaobmchpaaDoor.Ab Go.Proofs.YtkmobcaobmchpaaDoor.MD
set_option linter.unusedVariables false
theorem own : ownKnob Tryd.prog.godebug = none := by kernel_rfl
theorem laidOut : laidOutB Tryd.prog = true := by kernel_rfl
theorem open3 : Ab.Open Tryd.prog 3 (kI .i64) := openI Tryd.underlying3
theorem open59 : Ab.Open Tryd.prog 59 (kL (kI .i64)) := openL Tryd.underlying59 (by kernel_rfl) (by decide) (of_decide_eq_true (by kernel_rfl)) open3
theorem open61 : Ab.Open Tryd.prog 61 (kR f_api_Row) := openR (gs := f_api_Row) (fun v => ⟨v.1, v.2.1, v.2.2.1⟩) (fun H cs v h => h) Tryd.underlying61 (by kernel_rfl) ⟨rfl, by kernel_rfl, open59, rfl, by kernel_rfl, open59, rfl, by kernel_rfl, open59, trivial⟩
theorem open22 : Ab.Open Tryd.prog 22 (kL (kR f_api_Row)) := openL Tryd.underlying22 (by kernel_rfl) (by decide) (of_decide_eq_true (by kernel_rfl)) open61
theorem open24 : Ab.Open Tryd.prog 24 (kR f_api_Table) := openR (gs := f_api_Table) (fun v => ⟨v.1⟩) (fun H cs v h => h) Tryd.underlying24 (by kernel_rfl) ⟨rfl, by kernel_rfl, open22, trivial⟩
theorem laidBase {W : World} (h : laidMetH Tryd.prog Rows.mutantDiffersRow.laid W) (hs : W.ShapedOpen Tryd.prog) : Base (fun b => W.heap[b]?) := by
  have h' : laidMet Tryd.prog Rows.mutantDiffersRow.laid W := h
  obtain ⟨ps, hv, _⟩ := h'
  obtain ⟨⟨t0, f0, e0⟩, q0, hv⟩ := laidI (P := Tryd.prog) (zs := gl1) (by kernel_rfl) (by kernel_rfl) Tryd.underlying171 Tryd.underlying3 (by kernel_rfl) (by kernel_rfl) (by rfl) hv
  refine ⟨fun q hq => ?_, fun b hb => ?_⟩
  · simp only [globs, List.mem_cons, List.mem_nil_iff, or_false] at hq
    subst hq
    · exact ⟨t0, f0, e0⟩
  · simp only [ints, List.mem_cons, List.mem_nil_iff, or_false] at hb
    first | (cases hb; done) | (subst hb; exact int_block (zero := #[.int .i64 0]) (t := 3) hs (of_decide_eq_true (by kernel_rfl)) (by kernel_rfl) rfl (by kernel_rfl) (by kernel_rfl) Tryd.underlying3)
noncomputable def laidWorld (os : Os) : World := { World.holding Tryd.prog os ⟨#[], #[], []⟩ with heap := ((World.holding Tryd.prog os ⟨#[], #[], []⟩).heap).modify 1 (fun | .cells _ t fr => .cells (gl1.map (Value.int .i64)).toArray t fr | o => o) }
theorem laid_met (os : Os) : laidMet Tryd.prog Rows.mutantDiffersRow.laid ((laidWorld os).forCall (fun _ _ => 0) ⟨#[], #[.agg #[.slice none 0 0]], []⟩).memory := laidMet_of_run' 8 (by kernel_rfl) (by kernel_rfl)
theorem reads (os : Os) {H : Type} (enc : TypeId × Value → H) : ∃ places, DataW.whole enc Tryd.prog ((laidWorld os).forCall (fun _ _ => 0) ⟨#[], #[.agg #[.slice none 0 0]], []⟩).memory Tryd.f3.params.toList Rows.mutantDiffersSpec.vars false (#[.agg #[.slice none 0 0]] : Array Value).toList 8 = some ([.agg [.nil]], [], places) := ⟨[], by kernel_rfl⟩
set_option maxRecDepth 100000 in
theorem lifted (os : Os) (started : os.Started) (H : Type) (enc : TypeId × Value → H) (F : Stop.Interp) :
    ReturnsInHanded {} Tryd.checked os 3 .any ((OpenSpec.ofChange Rows.mutantDiffersSpec).preRow enc Tryd.prog Tryd.f3 Rows.mutantDiffersRow.domain false Rows.mutantDiffersRow.laid) (((OpenSpec.ofChange Rows.mutantDiffersSpec).at F).post enc Tryd.prog Tryd.f3 false true false false) := by
  obtain ⟨places, hx⟩ := reads os enc
  refine returnsInHanded_of_row (C := Tryd.checked) (s := OpenSpec.ofChange Rows.mutantDiffersSpec) own started (by kernel_rfl) Tryd.func3
    (witness_row_at (enc := enc) (C := Tryd.checked) false (laidWorld os) #[.agg #[.slice none 0 0]] rfl (by kernel_rfl) (by kernel_rfl) (by kernel_rfl)
      (OpenSpec.preRow_of_cond 8 hx (by kernel_rfl) (fun k hk => by cases hk) (by kernel_rfl) (laid_met os))) ?_
  intro W base_ args ds gs before hval0 hW _ _ hsz0 hL hsh _
  have hsz : (DataW.weightsEach Tryd.prog (Tryd.f3.params.toList ++ Rows.mutantDiffersSpec.plain.varTypes Tryd.prog) (ds ++ gs)).all (· ≤ reachBytes) = true := hsz0
  have hval : ∀ (j : Nat) t v, Tryd.f3.params[j]? = some t → args[j]? = some v → Value.okWide Tryd.prog W .any base_ t v := hval0
  have hW' := hW
  obtain ⟨p, q, hA0, hV, rfl, hfz, hnd⟩ := hW
  have hA : DataW.TrodAll enc Tryd.prog W 0 (fun _ => true) true Tryd.f3.params.toList args.toList ds p := hA0
  rw [Tryd.params3] at hA hval hsz
  obtain ⟨v0, vs0, d0, ds0, p0, q0, hargs, rfl, rfl, h0, r0⟩ := trodAll_cons hA
  obtain ⟨rfl, rfl, rfl⟩ := trodAll_nil r0
  obtain rfl : args = #[v0] := by cases args; simp_all
  obtain ⟨rfl, rfl⟩ := trodVars_none hV
  have lt0 : ∀ x ∈ p0, x.block < W.heap.size := by obtain ⟨m, hm⟩ := h0; exact DataW.trod_lt m _ _ _ hm
  obtain ⟨u0, s0⟩ := openArg open24 h0 (fun n hn => by have := List.all_eq_true.1 hsz _ (DataW.weights_mem_each (j := 0) (t := 24) rfl rfl n hn); simpa using this) (hvStruct Tryd.underlying24 (hval 0 24 v0 rfl rfl))
  clear hA0 hval0 hsz0 hsz
  refine (reticentlaw24_MutantDiffers.ok (Pure.MutantDiffers u0 (let ⟨cs, h, _⟩ := s0; ⟨_, cs, h⟩)) (fun b => W.heap[b]?) W [_] ⟨laidBase hL hsh, fun _ _ e => e⟩ ⟨_, _, rfl, s0, rfl⟩).mono ?_
  rintro e W' ⟨v, H', rfl, hk, hv⟩
  obtain rfl := kB_sig.1 hv
  have bel := hk.below
  exact ⟨_, rfl, _, _, _, [], _, [], hW', trodAll_mk1 (shut_bool Tryd.underlying4 _), (trodAll_cons_mk (Below.trod laidOut (by kernel_rfl) (of_decide_eq_true (by kernel_rfl)) h0 bel lt0) trodAll_mk0), rfl, bel.frame _, fun h => by cases h⟩
theorem said : Rows.MutantDiffersSaid :=
  OpenClaim.holds_of_cond 3 Tryd.f3 rfl rfl rfl rfl rfl rfl rfl ⟨rfl, rfl, rfl, rfl, rfl⟩ rfl rfl rfl rfl rfl (by kernel_rfl) Tryd.func3 (by kernel_rfl)
    (of_decide_eq_true (by kernel_rfl)) (by unfold Func.isWrapper; first | (rw [if_pos (by decide +kernel)]; kernel_rfl) | (rw [if_neg (by decide +kernel)]; exact ⟨rfl, rfl⟩))
    (fun os started H enc _ F => by rw [OpenClaim.pre_eq_preRow]; exact lifted os started H enc F)
theorem plain (f : FuncId) (fn : Func) (hf : Tryd.pinned.checked.prog.funcNamed "reticent/reticentlaw24.MutantDiffers" = some f) (hfn : Tryd.pinned.checked.prog.funcs[f]? = some fn) :
    false = Tryd.pinned.checked.prog.looks [] ∧ ∀ (j : Nat) t, fn.params[j]? = some t → Tryd.pinned.checked.prog.wantsStandIn t = false := by
  obtain rfl : f = 3 := Option.some.inj ((show Tryd.prog.funcNamed "reticent/reticentlaw24.MutantDiffers" = some 3 by kernel_rfl).symm.trans hf) |>.symm
  obtain rfl : fn = Tryd.f3 := (Option.some.inj (Tryd.func3.symm.trans hfn)).symm
  refine ⟨by kernel_rfl, fun j t ht => ?_⟩
  rw [Tryd.params3] at ht
  have ht := Array.mem_of_getElem? ht
  obtain rfl : t = 24 := by simpa using ht
  exact (show Tryd.prog.wantsStandIn 24 = false by kernel_rfl)
theorem proved : Rows.MutantDiffersCardSaid :=
  Claim7.holds_tied_plain_at .later [] _ _ _ _ said (fun _ h => by cases h) (by kernel_rfl) (fun _ h => by cases h) mutantDiffers_row_tie rfl ⟨rfl, rfl⟩ (by kernel_rfl) rfl plain (by kernel_rfl)
#print axioms proved
end Go.Proofs.YtkmobcaobmchpaaDoor.mutantDiffers
