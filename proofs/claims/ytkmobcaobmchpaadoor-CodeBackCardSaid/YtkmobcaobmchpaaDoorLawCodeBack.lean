/- The given statement CodeBackSaid holds: of every world and every argument that its row lets in, the law answers true. No condition beyond the statement's own. -/
import Derived.Test.YtkmobcaobmchpaaDoorCards
import Derived.Test.YtkmobcaobmchpaaDoorTie
import Derived.Test.YtkmobcaobmchpaaDoorWCK
import Derived.Test.YtkmobcaobmchpaaDoorPureCodeBack
import Derived.Test.YtkmobcaobmchpaaDoorAb17
import Derived.WalkKit
import Derived.ProofKit
import Derived.OpenShut
import Derived.ShutString
import Derived.ChangeOld
import Derived.Below
import Derived.SizedLaws
import Derived.Carry
import Derived.Deep.DeepHandedRow
import Derived.Lib.LaidTab
namespace Go.Proofs.YtkmobcaobmchpaaDoor.codeBack
open Go.ChangeShapes Go.WideShapes Go.ChangeAt Go.RowKit
open Go.ChangeMaps (open_string shut_string)
open Go.Proofs.YtkmobcaobmchpaaDoor.Ab Go.Proofs.YtkmobcaobmchpaaDoor.CK
set_option linter.unusedVariables false
theorem own : ownKnob Tryd.prog.godebug = none := by kernel_rfl
theorem laidOut : laidOutB Tryd.prog = true := by kernel_rfl
theorem open9 : Ab.Open Tryd.prog 9 kS := openS Tryd.underlying9
theorem open35 : Ab.Open Tryd.prog 35 (kL kS) := openL Tryd.underlying35 (by kernel_rfl) (by decide) (of_decide_eq_true (by kernel_rfl)) open9
theorem open87 : Ab.Open Tryd.prog 87 (kI .u32) := openI Tryd.underlying87
theorem open36 : Ab.Open Tryd.prog 36 (kL (kI .u32)) := openL Tryd.underlying36 (by kernel_rfl) (by decide) (of_decide_eq_true (by kernel_rfl)) open87
theorem open38 : Ab.Open Tryd.prog 38 (kR f_api_Lattice) := openR (gs := f_api_Lattice) (fun v => ⟨v.1, v.2.1⟩) (fun H cs v h => h) Tryd.underlying38 (by kernel_rfl) ⟨rfl, by kernel_rfl, open35, rfl, by kernel_rfl, open36, trivial⟩
theorem open3 : Ab.Open Tryd.prog 3 (kI .i64) := openI Tryd.underlying3
theorem open78 : Ab.Open Tryd.prog 78 (kR f_api_Instr) := openR (gs := f_api_Instr) (fun v => ⟨v.1, v.2.1, v.2.2.1⟩) (fun H cs v h => h) Tryd.underlying78 (by kernel_rfl) ⟨rfl, by kernel_rfl, open3, rfl, by kernel_rfl, open3, rfl, by kernel_rfl, open3, trivial⟩
theorem open39 : Ab.Open Tryd.prog 39 (kL (kR f_api_Instr)) := openL Tryd.underlying39 (by kernel_rfl) (by decide) (of_decide_eq_true (by kernel_rfl)) open78
theorem laidBase {W : World} (h : laidMetH Tryd.prog Rows.codeBackRow.laid W) (hs : W.ShapedOpen Tryd.prog) : Base (fun b => W.heap[b]?) := by
  have h' : laidMet Tryd.prog Rows.codeBackRow.laid W := h
  obtain ⟨ps, hv, _⟩ := h'
  obtain ⟨⟨t0, f0, e0⟩, q0, hv⟩ := laidI (P := Tryd.prog) (zs := gl6) (by kernel_rfl) (by kernel_rfl) Tryd.underlying224 Tryd.underlying5 (by kernel_rfl) (by kernel_rfl) (by rfl) hv
  obtain ⟨⟨t1, f1, e1⟩, q1, hv⟩ := laidI (P := Tryd.prog) (zs := gl7) (by kernel_rfl) (by kernel_rfl) Tryd.underlying225 Tryd.underlying5 (by kernel_rfl) (by kernel_rfl) (by rfl) hv
  obtain ⟨⟨t2, f2, e2⟩, q2, hv⟩ := laidI (P := Tryd.prog) (zs := gl5) (by kernel_rfl) (by kernel_rfl) Tryd.underlying215 Tryd.underlying203 (by kernel_rfl) (by kernel_rfl) (by rfl) hv
  obtain ⟨⟨t3, f3, e3⟩, q3, hv⟩ := laidS (P := Tryd.prog) (zs := gl0) (by kernel_rfl) (by kernel_rfl) Tryd.underlying102 Tryd.underlying9 (by kernel_rfl) (by kernel_rfl) (by rfl) hv
  refine ⟨fun q hq => ?_, fun b hb => ?_⟩
  · simp only [globs, List.mem_cons, List.mem_nil_iff, or_false] at hq
    rcases hq with rfl | rfl | rfl | rfl
    · exact ⟨t0, f0, e0⟩
    · exact ⟨t1, f1, e1⟩
    · exact ⟨t2, f2, e2⟩
    · exact ⟨t3, f3, e3⟩
  · simp only [ints, List.mem_cons, List.mem_nil_iff, or_false] at hb
    first | (cases hb; done) | (subst hb; exact int_block (zero := #[.int .i64 0]) (t := 3) hs (of_decide_eq_true (by kernel_rfl)) (by kernel_rfl) rfl (by kernel_rfl) (by kernel_rfl) Tryd.underlying3)
noncomputable def laidWorld (os : Os) : World := { World.holding Tryd.prog os ⟨#[], #[], []⟩ with heap := (((((World.holding Tryd.prog os ⟨#[], #[], []⟩).heap).modify 6 (fun | .cells _ t fr => .cells (gl6.map (Value.int .u8)).toArray t fr | o => o)).modify 7 (fun | .cells _ t fr => .cells (gl7.map (Value.int .u8)).toArray t fr | o => o)).modify 5 (fun | .cells _ t fr => .cells (gl5.map (Value.int .u64)).toArray t fr | o => o)).modify 0 (fun | .cells _ t fr => .cells (gl0.map fun s => Value.string ⟨⟨s⟩⟩).toArray t fr | o => o) }
theorem laid_met (os : Os) : laidMet Tryd.prog Rows.codeBackRow.laid ((laidWorld os).forCall (fun _ _ => 0) ⟨#[], #[.agg #[.slice none 0 0, .slice none 0 0], .slice none 0 0, .string ByteArray.empty], []⟩).memory := laidMet_of_run' 8 (by kernel_rfl) (by kernel_rfl)
theorem reads (os : Os) {H : Type} (enc : TypeId × Value → H) : ∃ places, DataW.whole enc Tryd.prog ((laidWorld os).forCall (fun _ _ => 0) ⟨#[], #[.agg #[.slice none 0 0, .slice none 0 0], .slice none 0 0, .string ByteArray.empty], []⟩).memory Tryd.f5.params.toList Rows.codeBackSpec.vars false (#[.agg #[.slice none 0 0, .slice none 0 0], .slice none 0 0, .string ByteArray.empty] : Array Value).toList 8 = some ([.agg [.nil, .nil], .nil, .lit (.string [])], [], places) := ⟨[], by kernel_rfl⟩
set_option maxRecDepth 100000 in
theorem lifted (os : Os) (started : os.Started) (H : Type) (enc : TypeId × Value → H) (F : Stop.Interp) :
    ReturnsInHanded {} Tryd.checked os 5 .any ((OpenSpec.ofChange Rows.codeBackSpec).preRow enc Tryd.prog Tryd.f5 Rows.codeBackRow.domain false Rows.codeBackRow.laid) (((OpenSpec.ofChange Rows.codeBackSpec).at F).post enc Tryd.prog Tryd.f5 false true false false) := by
  obtain ⟨places, hx⟩ := reads os enc
  refine returnsInHanded_of_row (C := Tryd.checked) (s := OpenSpec.ofChange Rows.codeBackSpec) own started (by kernel_rfl) Tryd.func5
    (witness_row_at (enc := enc) (C := Tryd.checked) false (laidWorld os) #[.agg #[.slice none 0 0, .slice none 0 0], .slice none 0 0, .string ByteArray.empty] rfl (by kernel_rfl) (by kernel_rfl) (by kernel_rfl)
      (OpenSpec.preRow_of_cond 8 hx (by kernel_rfl) (fun k hk => by cases hk) (by kernel_rfl) (laid_met os))) ?_
  intro W base_ args ds gs before hval0 hW _ _ hsz0 hL hsh _
  have hsz : (DataW.weightsEach Tryd.prog (Tryd.f5.params.toList ++ Rows.codeBackSpec.plain.varTypes Tryd.prog) (ds ++ gs)).all (· ≤ reachBytes) = true := hsz0
  have hval : ∀ (j : Nat) t v, Tryd.f5.params[j]? = some t → args[j]? = some v → Value.okWide Tryd.prog W .any base_ t v := hval0
  have hW' := hW
  obtain ⟨p, q, hA0, hV, rfl, hfz, hnd⟩ := hW
  have hA : DataW.TrodAll enc Tryd.prog W 0 (fun _ => true) true Tryd.f5.params.toList args.toList ds p := hA0
  rw [Tryd.params5] at hA hval hsz
  obtain ⟨v0, vs0, d0, ds0, p0, q0, hargs, rfl, rfl, h0, r0⟩ := trodAll_cons hA
  obtain ⟨v1, vs1, d1, ds1, p1, q1, rfl, rfl, rfl, h1, r1⟩ := trodAll_cons r0
  obtain ⟨v2, vs2, d2, ds2, p2, q2, rfl, rfl, rfl, h2, r2⟩ := trodAll_cons r1
  obtain ⟨rfl, rfl, rfl⟩ := trodAll_nil r2
  obtain rfl : args = #[v0, v1, v2] := by cases args; simp_all
  obtain ⟨rfl, rfl⟩ := trodVars_none hV
  have lt0 : ∀ x ∈ p0, x.block < W.heap.size := by obtain ⟨m, hm⟩ := h0; exact DataW.trod_lt m _ _ _ hm
  obtain ⟨u0, s0⟩ := openArg open38 h0 (fun n hn => by have := List.all_eq_true.1 hsz _ (DataW.weights_mem_each (j := 0) (t := 38) rfl rfl n hn); simpa using this) (hvStruct Tryd.underlying38 (hval 0 38 v0 rfl rfl))
  have lt1 : ∀ x ∈ p1, x.block < W.heap.size := by obtain ⟨m, hm⟩ := h1; exact DataW.trod_lt m _ _ _ hm
  obtain ⟨u1, s1⟩ := openArg open39 h1 (fun n hn => by have := List.all_eq_true.1 hsz _ (DataW.weights_mem_each (j := 1) (t := 39) rfl rfl n hn); simpa using this) (by obtain ⟨a, l, c, e⟩ := okWide_slice Tryd.underlying39 (hval 1 39 v1 rfl rfl); rw [e]; exact hvOne rfl)
  have lt2 : ∀ x ∈ p2, x.block < W.heap.size := by obtain ⟨m, hm⟩ := h2; exact DataW.trod_lt m _ _ _ hm
  obtain ⟨u2, s2⟩ := openArg open9 h2 (fun n hn => by have := List.all_eq_true.1 hsz _ (DataW.weights_mem_each (j := 2) (t := 9) rfl rfl n hn); simpa using this) (by obtain ⟨a, e, _⟩ := open_string Tryd.underlying9 (hval 2 9 v2 rfl rfl) h2; rw [e]; exact hvOne rfl)
  clear hA0 hval0 hsz0 hsz
  refine (reticentlaw08_CodeBack.ok (Pure.CodeBack u0 u1 u2 (let ⟨cs, h, _⟩ := s0; ⟨_, cs, h⟩) (let ⟨cs, h, _⟩ := s1; ⟨_, cs, h⟩) (let ⟨cs, h, _⟩ := s2; ⟨_, cs, h⟩)) (fun b => W.heap[b]?) W [_, _, _] ⟨laidBase hL hsh, fun _ _ e => e⟩ ⟨_, _, rfl, s0, ⟨_, _, rfl, s1, ⟨_, _, rfl, s2, rfl⟩⟩⟩).mono ?_
  rintro e W' ⟨v, H', rfl, hk, hv⟩
  obtain rfl := kB_sig.1 hv
  have bel := hk.below
  exact ⟨_, rfl, _, _, _, [], _, [], hW', trodAll_mk1 (shut_bool Tryd.underlying4 _), (trodAll_cons_mk (Below.trod laidOut (by kernel_rfl) (of_decide_eq_true (by kernel_rfl)) h0 bel lt0) (trodAll_cons_mk (Below.trod laidOut (by kernel_rfl) (of_decide_eq_true (by kernel_rfl)) h1 bel lt1) (trodAll_cons_mk (Below.trod laidOut (by kernel_rfl) (of_decide_eq_true (by kernel_rfl)) h2 bel lt2) trodAll_mk0))), rfl, bel.frame _, fun h => by cases h⟩
theorem said : Rows.CodeBackSaid :=
  OpenClaim.holds_of_cond 5 Tryd.f5 rfl rfl rfl rfl rfl rfl rfl ⟨rfl, rfl, rfl, rfl, rfl⟩ rfl rfl rfl rfl rfl (by kernel_rfl) Tryd.func5 (by kernel_rfl)
    (of_decide_eq_true (by kernel_rfl)) (by unfold Func.isWrapper; first | (rw [if_pos (by decide +kernel)]; kernel_rfl) | (rw [if_neg (by decide +kernel)]; exact ⟨rfl, rfl⟩))
    (fun os started H enc _ F => by rw [OpenClaim.pre_eq_preRow]; exact lifted os started H enc F)
theorem plain (f : FuncId) (fn : Func) (hf : Tryd.pinned.checked.prog.funcNamed "reticent/reticentlaw08.CodeBack" = some f) (hfn : Tryd.pinned.checked.prog.funcs[f]? = some fn) :
    false = Tryd.pinned.checked.prog.looks [] ∧ ∀ (j : Nat) t, fn.params[j]? = some t → Tryd.pinned.checked.prog.wantsStandIn t = false := by
  obtain rfl : f = 5 := Option.some.inj ((show Tryd.prog.funcNamed "reticent/reticentlaw08.CodeBack" = some 5 by kernel_rfl).symm.trans hf) |>.symm
  obtain rfl : fn = Tryd.f5 := (Option.some.inj (Tryd.func5.symm.trans hfn)).symm
  refine ⟨by kernel_rfl, fun j t ht => ?_⟩
  rw [Tryd.params5] at ht
  have ht := Array.mem_of_getElem? ht
  simp only [List.mem_toArray, List.mem_cons, List.mem_nil_iff, or_false] at ht
  rcases ht with rfl | rfl | rfl
  · exact (show Tryd.prog.wantsStandIn 38 = false by kernel_rfl)
  · exact (show Tryd.prog.wantsStandIn 39 = false by kernel_rfl)
  · exact (show Tryd.prog.wantsStandIn 9 = false by kernel_rfl)
theorem proved : Rows.CodeBackCardSaid :=
  Claim7.holds_tied_plain_at .later [] _ _ _ _ said (fun _ h => by cases h) (by kernel_rfl) (fun _ h => by cases h) codeBack_row_tie rfl ⟨rfl, rfl⟩ (by kernel_rfl) rfl plain (by kernel_rfl)
#print axioms proved
end Go.Proofs.YtkmobcaobmchpaaDoor.codeBack
