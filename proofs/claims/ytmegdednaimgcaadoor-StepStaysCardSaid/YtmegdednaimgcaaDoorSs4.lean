/- A step: what an instruction needs, all of them. -/
import Derived.Test.YtmegdednaimgcaaDoorSs3
set_option linter.unusedVariables false
set_option linter.unusedSimpArgs false
set_option linter.unusedSectionVars false
namespace Go.Proofs.YtmegdednaimgcaaDoor.Ss
open Go Go.Proofs.YtmegdednaimgcaaDoor.Ab Go.Proofs.YtmegdednaimgcaaDoor.TT
/-- What a machine keeps when it has what it needs. -/
structure Fine (P : Int → Prop) (a m : step_machine) : Prop where
  l : m.l_ = a.l_
  s : m.s_ = a.s_
  x : m.x_ = a.x_
  lo : 0 ≤ m.below_
  hi : m.below_ ≤ (a.s_.Stack.length : Int)
  o0 : P m.one_.x0_
  o1 : P m.one_.x1_
  o2 : P m.one_.x2_
  c : a.x_.Op = 5 ∨ a.x_.Op = 6 → okC m = true
  g : a.x_.Op = 9 → a.x_.N ≤ m.below_
/-- What a machine starts with. -/
structure Start (P : Int → Prop) (a : step_machine) : Prop where
  n : a.s_.Stack.length ≤ 1000
  o0 : P a.one_.x0_
  o1 : P a.one_.x1_
  o2 : P a.one_.x2_
  st : ∀ x ∈ a.s_.Stack, P x.L
  me : ∀ x ∈ a.s_.Mem, P x.L
  op : 0 ≤ a.x_.Op ∧ a.x_.Op ≤ 12
  im : a.x_.Op = 1 → P a.x_.L
  cn : a.x_.Op = 9 → 0 ≤ a.x_.N ∧ a.x_.N ≤ 3
theorem sl_P {P : Int → Prop} {S : List api_Slot} (h : ∀ x ∈ S, P x.L) {d : Nat} (k : okT S d = true) : P (sl S d).L := by
  unfold okT at k
  rw [Bool.and_eq_true, decide_eq_true_eq] at k
  rw [sl_at k.1]
  exact h _ (List.getElem_mem _)
theorem okT_lt {S : List api_Slot} {d : Nat} (k : okT S d = true) : d < S.length := by
  unfold okT at k
  rw [Bool.and_eq_true, decide_eq_true_eq] at k
  exact k.1
theorem mm_P {P : Int → Prop} {m : step_machine} (h : ∀ x ∈ m.s_.Mem, P x.L) (k : okC m = true) : P (mm m.s_ m.a_.V).L := by
  unfold okC at k
  have k := of_decide_eq_true k
  have hlt : m.a_.V.toNat < m.s_.Mem.length := by omega
  unfold mm
  rw [List.getD_eq_getElem?_getD, List.getElem?_eq_getElem hlt]
  exact h _ (List.getElem_mem _)
theorem getD_P {P : Int → Prop} {S : List api_Slot} (h : ∀ x ∈ S, P x.L) {k : Nat} (hk : k < S.length) : P (S.getD k ⟨true, 0, 0⟩).L := by
  rw [getD_is hk]
  exact h _ (List.getElem_mem _)
theorem fine_first {P : Int → Prop} {a m : step_machine} (z : Start P a) (hm : m.l_ = a.l_ ∧ m.s_ = a.s_ ∧ m.x_ = a.x_ ∧ m.one_ = a.one_) (k : okT a.s_.Stack 0 = true) (n5 : ¬ (a.x_.Op = 5 ∨ a.x_.Op = 6)) (n9 : a.x_.Op = 9 → a.x_.N ≤ (a.s_.Stack.length : Int) - 1) : Fine P a (firstM m) := by
  obtain ⟨h1, h2, h3, h4⟩ := hm
  have hp := okT_lt k
  refine ⟨h1, h2, h3, ?_, ?_, ?_, ?_, ?_, fun w => absurd w n5, ?_⟩
  · show 0 ≤ (m.s_.Stack.length : Int) - 1
    rw [h2]; omega
  · show (m.s_.Stack.length : Int) - 1 ≤ _
    rw [h2]; omega
  · show P (sl m.s_.Stack 0).L
    rw [h2]; exact sl_P z.st k
  · show P m.one_.x1_
    rw [h4]; exact z.o1
  · show P m.one_.x2_
    rw [h4]; exact z.o2
  · intro w
    show a.x_.N ≤ (m.s_.Stack.length : Int) - 1
    rw [h2]; exact n9 w
theorem fine_both {P : Int → Prop} {a m : step_machine} (z : Start P a) (hm : m.l_ = a.l_ ∧ m.s_ = a.s_ ∧ m.x_ = a.x_ ∧ m.one_ = a.one_) (k : okT a.s_.Stack 0 = true) (k1 : okT a.s_.Stack 1 = true) (n5 : ¬ (a.x_.Op = 5 ∨ a.x_.Op = 6)) (n9 : a.x_.Op ≠ 9) : Fine P a (bothM m) := by
  obtain ⟨h1, h2, h3, h4⟩ := hm
  have hp := okT_lt k1
  refine ⟨h1, h2, h3, ?_, ?_, ?_, ?_, ?_, fun w => absurd w n5, fun w => absurd w n9⟩
  · show 0 ≤ (m.s_.Stack.length : Int) - 2
    rw [h2]; omega
  · show (m.s_.Stack.length : Int) - 2 ≤ _
    rw [h2]; omega
  · show P (sl m.s_.Stack 0).L
    rw [h2]; exact sl_P z.st k
  · show P (sl m.s_.Stack 1).L
    rw [h2]; exact sl_P z.st k1
  · show P m.one_.x2_
    rw [h4]; exact z.o2
end Go.Proofs.YtmegdednaimgcaaDoor.Ss
