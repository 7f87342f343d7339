/- A step: what an instruction needs, by cases. -/
import Derived.Test.YtmegdednaimgcaaDoorSs4
set_option linter.unusedVariables false
set_option linter.unusedSimpArgs false
set_option linter.unusedSectionVars false
namespace Go.Proofs.YtmegdednaimgcaaDoor.Ss
open Go Go.Proofs.YtmegdednaimgcaaDoor.Ab Go.Proofs.YtmegdednaimgcaaDoor.TT
/-- An answer of the needs: an end of kind 3, or a machine that keeps what it must. -/
def Ans (P : Int → Prop) (a : step_machine) (e : Option (Pn ⊕ step_machine)) : Prop :=
  ∃ r, e = some r ∧ (match r with | .inl p => p = 3 | .inr m => Fine P a m)
theorem ans_if {P : Int → Prop} {a m : step_machine} {c : Prop} [Decidable c] {e : Option (Pn ⊕ step_machine)} (h : e = some (if c then .inr m else .inl 3)) (k : c → Fine P a m) : Ans P a (e >>= fun z => match z with | .inl p => some (.inl p) | .inr y => some (.inr y)) := by
  rw [h, bsome]
  by_cases q : c
  · rw [if_pos q]; exact ⟨_, rfl, k q⟩
  · rw [if_neg q]; exact ⟨_, rfl, rfl⟩
def topM (a : step_machine) : step_machine := ⟨a.l_, a.s_, a.x_, a.a_, a.b_, a.r_, (a.s_.Stack.length : Int), a.one_⟩
theorem fine_ret {P : Int → Prop} {a m : step_machine} (z : Start P a) (hm : m.l_ = a.l_ ∧ m.s_ = a.s_ ∧ m.x_ = a.x_) (o0 : P m.one_.x0_) (o2 : P m.one_.x2_) {k : Nat} (h0 : 0 < k) (hk : k ≤ a.s_.Stack.length) (n5 : ¬ (a.x_.Op = 5 ∨ a.x_.Op = 6)) (n9 : a.x_.Op ≠ 9) : Fine P a (retM m k) := by
  obtain ⟨h1, h2, h3⟩ := hm
  refine ⟨h1, h2, h3, ?_, ?_, o0, ?_, o2, fun w => absurd w n5, fun w => absurd w n9⟩
  · show 0 ≤ (k : Int) - 1
    omega
  · show (k : Int) - 1 ≤ _
    omega
  · show P (m.s_.Stack.getD (k - 1) ⟨true, 0, 0⟩).L
    rw [h2]
    exact getD_P z.st (by omega)
theorem needs_a {P : Int → Prop} {a : step_machine} (z : Start P a) : Ans P a (step_machine_needs.f a) := by
  have hn : (topM a).s_.Stack.length ≤ 1000 := z.n
  have hop := z.op
  have same : (topM a).l_ = a.l_ ∧ (topM a).s_ = a.s_ ∧ (topM a).x_ = a.x_ ∧ (topM a).one_ = a.one_ := ⟨rfl, rfl, rfl, rfl⟩
  unfold step_machine_needs.f
  by_cases c0 : a.x_.Op = 0
  · rw [if_pos c0]
    exact ⟨_, rfl, ⟨rfl, rfl, rfl, Int.natCast_nonneg _, Int.le_refl _, z.o0, z.o1, z.o2, fun w => by omega, fun w => by omega⟩⟩
  rw [if_neg c0]
  by_cases c12 : a.x_.Op = 12
  · rw [if_pos c12]
    exact ⟨_, rfl, ⟨rfl, rfl, rfl, Int.natCast_nonneg _, Int.le_refl _, z.o0, z.o1, z.o2, fun w => by omega, fun w => by omega⟩⟩
  rw [if_neg c12]
  by_cases c1 : a.x_.Op = 1
  · rw [if_pos c1]
    exact ⟨_, rfl, ⟨rfl, rfl, rfl, Int.natCast_nonneg _, Int.le_refl _, z.im c1, z.o1, z.o2, fun w => by omega, fun w => by omega⟩⟩
  rw [if_neg c1]
  by_cases c2 : a.x_.Op = 2
  · rw [if_pos c2]
    exact ans_if (first_m (m := topM a) hn) (fun q => fine_first z same q (by omega) (by omega))
  rw [if_neg c2]
  by_cases c11 : a.x_.Op = 11
  · rw [if_pos c11]
    exact ans_if (first_m (m := topM a) hn) (fun q => fine_first z same q (by omega) (by omega))
  rw [if_neg c11]
  by_cases c3 : a.x_.Op = 3
  · rw [if_pos c3]
    exact ans_if (both_m (m := topM a) hn) (fun q => fine_both z same q.1 q.2 (by omega) (by omega))
  rw [if_neg c3]
  by_cases c4 : a.x_.Op = 4
  · rw [if_pos c4]
    exact ans_if (both_m (m := topM a) hn) (fun q => fine_both z same q.1 q.2 (by omega) (by omega))
  rw [if_neg c4]
  by_cases c5 : a.x_.Op = 5
  · rw [if_pos c5]
    refine ans_if (loads_m (m := topM a) hn) (fun q => ?_)
    have hp := okT_lt q.1
    refine ⟨rfl, rfl, rfl, ?_, ?_, sl_P z.st q.1, mm_P (m := firstM (topM a)) z.me q.2, z.o2, fun _ => q.2, fun w => by omega⟩
    · show 0 ≤ (a.s_.Stack.length : Int) - 1
      have : 0 < a.s_.Stack.length := hp
      omega
    · show (a.s_.Stack.length : Int) - 1 ≤ _
      omega
  rw [if_neg c5]
  by_cases c6 : a.x_.Op = 6
  · rw [if_pos c6]
    refine ans_if (stores_m (m := topM a) hn) (fun q => ?_)
    have hp := okT_lt q.1.2
    refine ⟨rfl, rfl, rfl, ?_, ?_, sl_P z.st q.1.1, sl_P z.st q.1.2, mm_P (m := firstM (topM a)) z.me q.2, fun _ => q.2, fun w => by omega⟩
    · show 0 ≤ (a.s_.Stack.length : Int) - 2
      have : 1 < a.s_.Stack.length := hp
      omega
    · show (a.s_.Stack.length : Int) - 2 ≤ _
      omega
  rw [if_neg c6]
  by_cases c7 : a.x_.Op = 7
  · rw [if_pos c7]
    exact ans_if (goes_m (m := topM a) hn) (fun q => fine_first z same q.1 (by omega) (by omega))
  rw [if_neg c7]
  by_cases c8 : a.x_.Op = 8
  · rw [if_pos c8]
    exact ans_if (first_m (m := topM a) hn) (fun q => fine_first z same q (by omega) (by omega))
  rw [if_neg c8]
  by_cases c9 : a.x_.Op = 9
  · rw [if_pos c9]
    obtain ⟨q0, q3⟩ := z.cn c9
    have e : (topM a).x_.N = ((a.x_.N.toNat : Nat) : Int) := by show a.x_.N = _; omega
    refine ans_if (calls_m (m := topM a) hn e (by omega)) (fun q => fine_first z same q.1.1 (by omega) (fun _ => ?_))
    have hp : 0 < a.s_.Stack.length := okT_lt q.1.1
    cases hN : a.x_.N.toNat with
    | zero => omega
    | succ k =>
      have q2 := q.2
      rw [hN] at q2
      have : 1 + 0 + k < a.s_.Stack.length := callB_len q2
      omega
  rw [if_neg c9]
  have c10 : a.x_.Op = 10 := by omega
  rw [if_pos c10]
  have r := returns_m (m := topM a) hn
  by_cases cN : (topM a).x_.N = 1
  · rw [if_pos cN] at r
    refine ans_if r (fun q => ?_)
    have hf := frU_le a.s_.Stack (a.s_.Stack.length - 1)
    exact fine_ret (m := firstM (topM a)) z ⟨rfl, rfl, rfl⟩ (sl_P z.st q.1) z.o2 q.2 (Nat.le_trans hf (Nat.sub_le _ _)) (by omega) (by omega)
  · rw [if_neg cN] at r
    refine ans_if r (fun q => ?_)
    exact fine_ret (m := topM a) z ⟨rfl, rfl, rfl⟩ z.o0 z.o2 q (frU_le _ _) (by omega) (by omega)
end Go.Proofs.YtmegdednaimgcaaDoor.Ss
