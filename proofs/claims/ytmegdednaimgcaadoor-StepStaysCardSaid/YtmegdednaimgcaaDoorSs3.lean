/- A step: what an instruction needs (calls, returns). -/
import Derived.Test.YtmegdednaimgcaaDoorSs2
set_option linter.unusedVariables false
set_option linter.unusedSimpArgs false
set_option linter.unusedSectionVars false
namespace Go.Proofs.YtmegdednaimgcaaDoor.Ss
open Go Go.Proofs.YtmegdednaimgcaaDoor.Ab Go.Proofs.YtmegdednaimgcaaDoor.TT
/-- So many atoms lie below a slot. -/
def callB (S : List api_Slot) : Nat → Nat → Bool
  | _, 0 => true
  | i, k + 1 => okT S (1 + i) && callB S (i + 1) k
theorem callB_len {S : List api_Slot} : ∀ {k i : Nat}, callB S i (k + 1) = true → 1 + i + k < S.length
  | 0, i, h => by
    unfold callB okT at h
    rw [Bool.and_eq_true, Bool.and_eq_true, decide_eq_true_eq] at h
    exact h.1.1
  | k + 1, i, h => by
    unfold callB at h
    rw [Bool.and_eq_true] at h
    have := callB_len h.2
    omega
theorem call_l {y m : step_machine} (hn : m.s_.Stack.length ≤ 1000) : ∀ k i : Nat, y.x_.N = ((i + k : Nat) : Int) → i + k ≤ 900 →
    step_machine_calls.l0 y m (i : Int) = some (if callB m.s_.Stack i k = true then .inr m else .inl (.inl 3))
  | 0, i, h, hb => by
    rw [step_machine_calls.l0, if_neg (by omega)]; rfl
  | k + 1, i, h, hb => by
    rw [step_machine_calls.l0, if_pos (by omega)]
    have e1 : IntKind.i64.wrap (1 + (i : Int)) = ((1 + i : Nat) : Int) := by rw [wrapZ (by omega) (by omega)]; omega
    have e2 : IntKind.i64.wrap ((i : Int) + 1) = ((i + 1 : Nat) : Int) := by rw [wrapZ (by omega) (by omega)]; omega
    rw [e1, atom_m hn (by omega), bsome]
    unfold callB
    cases h0 : okT m.s_.Stack (1 + i) with
    | false => rfl
    | true =>
      rw [Bool.true_and]
      show step_machine_calls.l0 y m (IntKind.i64.wrap ((i : Int) + 1)) = _
      rw [e2]
      exact call_l hn k (i + 1) (by omega) (by omega)
theorem calls_m {m : step_machine} (hn : m.s_.Stack.length ≤ 1000) {k : Nat} (hk : m.x_.N = (k : Int)) (hb : k ≤ 900) :
    step_machine_calls.f m = some (if (okT m.s_.Stack 0 = true ∧ plaB (sl m.s_.Stack 0).V = true) ∧ callB m.s_.Stack 0 k = true then .inr (firstM m) else .inl 3) := by
  unfold step_machine_calls.f
  rw [goes_m hn, bsome]
  by_cases h : okT m.s_.Stack 0 = true ∧ plaB (sl m.s_.Stack 0).V = true
  · rw [if_pos h]
    show (step_machine_calls.l0 (firstM m) (firstM m) 0 >>= _) = _
    have q := call_l (y := firstM m) (m := firstM m) hn k 0 (by rw [Nat.zero_add]; exact hk) (by omega)
    rw [show ((0 : Nat) : Int) = 0 from rfl] at q
    rw [q, bsome]
    show (match (if callB m.s_.Stack 0 k = true then .inr (firstM m) else .inl (.inl 3) : (Pn ⊕ step_machine) ⊕ step_machine) with | .inl r => some r | .inr x14 => some (.inr x14)) = _
    cases h1 : callB m.s_.Stack 0 k with
    | false => rw [if_neg (show ¬ ((okT m.s_.Stack 0 = true ∧ plaB (sl m.s_.Stack 0).V = true) ∧ false = true) from fun w => by cases w.2)]; rfl
    | true => rw [if_pos (show ((okT m.s_.Stack 0 = true ∧ plaB (sl m.s_.Stack 0).V = true) ∧ true = true) from ⟨h, rfl⟩)]; rfl
  · rw [if_neg h, if_neg (show ¬ ((okT m.s_.Stack 0 = true ∧ plaB (sl m.s_.Stack 0).V = true) ∧ callB m.s_.Stack 0 k = true) from fun w => h w.1)]
/-- A machine whose frame lies at a place. -/
def retM (m : step_machine) (k : Nat) : step_machine := ⟨m.l_, m.s_, m.x_, m.a_, m.b_, m.s_.Stack.getD (k - 1) ⟨true, 0, 0⟩, (k : Int) - 1, ⟨m.one_.x0_, (m.s_.Stack.getD (k - 1) ⟨true, 0, 0⟩).L, m.one_.x2_⟩⟩
theorem getD_is {S : List api_Slot} {k : Nat} (h : k < S.length) : S.getD k ⟨true, 0, 0⟩ = S[k] := by simp [h]
theorem ret_end {m : step_machine} (hn : m.s_.Stack.length ≤ 1000) {k : Nat} (hk : k ≤ m.s_.Stack.length) :
    (step_need.f (decide ((k : Int) > 0)) >>= fun z25 => match z25 with | .inl p26 => (some (.inl p26) : Option (Pn ⊕ step_machine)) | .inr y27 => lAt m.s_.Stack (IntKind.i64.wrap ((k : Int) - 1)) >>= fun y28 => some (.inr (⟨m.l_, m.s_, m.x_, m.a_, m.b_, y28, IntKind.i64.wrap ((k : Int) - 1), ⟨m.one_.x0_, y28.L, m.one_.x2_⟩⟩ : step_machine))) = some (if 0 < k then .inr (retM m k) else .inl 3) := by
  rw [need_p, bsome]
  by_cases h : 0 < k
  · rw [decide_eq_true (show (k : Int) > 0 by omega), if_pos h]
    have e : IntKind.i64.wrap ((k : Int) - 1) = ((k - 1 : Nat) : Int) := by rw [wrapZ (by omega) (by omega)]; omega
    have e' : (k : Int) - 1 = ((k - 1 : Nat) : Int) := by omega
    show (lAt m.s_.Stack (IntKind.i64.wrap ((k : Int) - 1)) >>= _) = _
    rw [e, lAt_some (by omega), bsome]
    unfold retM
    rw [getD_is (by omega), e']
  · rw [decide_eq_false (show ¬ (k : Int) > 0 by omega), if_neg h]; rfl
theorem returns_m {m : step_machine} (hn : m.s_.Stack.length ≤ 1000) :
    step_machine_returns.f m = some (if m.x_.N = 1 then (if okT m.s_.Stack 0 = true ∧ 0 < frU m.s_.Stack (m.s_.Stack.length - 1) then .inr (retM (firstM m) (frU m.s_.Stack (m.s_.Stack.length - 1))) else .inl 3) else (if 0 < frU m.s_.Stack m.s_.Stack.length then .inr (retM m (frU m.s_.Stack m.s_.Stack.length)) else .inl 3)) := by
  unfold step_machine_returns.f
  by_cases h : m.x_.N = 1
  · rw [if_pos h, if_pos h]
    have q := first_m (m := ⟨m.l_, m.s_, m.x_, m.a_, m.b_, m.r_, (m.s_.Stack.length : Int), m.one_⟩) hn
    rw [q, bsome]
    show (match (if okT m.s_.Stack 0 = true then .inr (firstM m) else .inl 3 : Pn ⊕ step_machine) with | .inl p3 => _ | .inr y4 => _) = _
    cases h0 : okT m.s_.Stack 0 with
    | false => rw [if_neg (show ¬ (false = true ∧ 0 < frU m.s_.Stack (m.s_.Stack.length - 1)) from fun w => by cases w.1)]; rfl
    | true =>
      have hp : 0 < m.s_.Stack.length := by
        unfold okT at h0
        rw [Bool.and_eq_true, decide_eq_true_eq] at h0
        exact h0.1
      have e : (m.s_.Stack.length : Int) - 1 = ((m.s_.Stack.length - 1 : Nat) : Int) := by omega
      have hf := frU_le m.s_.Stack (m.s_.Stack.length - 1)
      show (step_machine_returns.l0 (firstM m) ((m.s_.Stack.length : Int) - 1) >>= _) = _
      rw [e, (ret_l (m := firstM m) hn (m.s_.Stack.length - 1) (show m.s_.Stack.length - 1 ≤ m.s_.Stack.length by omega)).1, bsome]
      have q := ret_end (m := firstM m) hn (k := frU m.s_.Stack (m.s_.Stack.length - 1)) (show _ ≤ m.s_.Stack.length by omega)
      refine Eq.trans q ?_
      simp only [true_and]
  · rw [if_neg h, if_neg h, (ret_l hn m.s_.Stack.length (Nat.le_refl _)).2, bsome]
    exact ret_end hn (frU_le _ _)
end Go.Proofs.YtmegdednaimgcaaDoor.Ss
