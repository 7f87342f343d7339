/- A step: what an instruction needs. -/
import Derived.Test.YtmegdednaimgcaaDoorSsb1
set_option linter.unusedVariables false
set_option linter.unusedSimpArgs false
set_option linter.unusedSectionVars false
namespace Go.Proofs.YtmegdednaimgcaaDoor.Ss
open Go Go.Proofs.YtmegdednaimgcaaDoor.Ab Go.Proofs.YtmegdednaimgcaaDoor.TT
theorem need_p (b : Bool) : step_need.f b = some (if b = true then .inr () else .inl 3) := by
  unfold step_need.f
  cases b <;> rfl
/-- The slot so many below the top; is it an atom? -/
def sl (S : List api_Slot) (d : Nat) : api_Slot := S.getD (S.length - 1 - d) ⟨true, 0, 0⟩
def okT (S : List api_Slot) (d : Nat) : Bool := decide (d < S.length) && !(sl S d).Ret
theorem sl_at {S : List api_Slot} {d : Nat} (h : d < S.length) : sl S d = S[S.length - 1 - d] := by
  unfold sl
  rw [List.getD_eq_getElem?_getD, List.getElem?_eq_getElem (by omega)]; rfl
theorem atom_m {m : step_machine} (hn : m.s_.Stack.length ≤ 1000) {d : Nat} (hd : d ≤ 1000) : step_machine_atom.f m (d : Int) = some (if okT m.s_.Stack d = true then .inr (m, sl m.s_.Stack d) else .inl 3) := by
  unfold step_machine_atom.f okT
  have e1 : IntKind.i64.wrap ((m.s_.Stack.length : Int) - 1) = (m.s_.Stack.length : Int) - 1 := wrapZ (by omega) (by omega)
  have e2 : IntKind.i64.wrap ((m.s_.Stack.length : Int) - 1 - (d : Int)) = (m.s_.Stack.length : Int) - 1 - (d : Int) := wrapZ (by omega) (by omega)
  rw [e1, e2]
  by_cases h : d < m.s_.Stack.length
  · have e3 : (m.s_.Stack.length : Int) - 1 - (d : Int) = ((m.s_.Stack.length - 1 - d : Nat) : Int) := by omega
    rw [if_pos (by omega), e3, lAt_some (by omega), bsome, need_p, bsome, sl_at h, decide_eq_true h]
    cases hr : m.s_.Stack[m.s_.Stack.length - 1 - d].Ret <;> rfl
  · rw [if_neg (by omega), need_p, bsome, decide_eq_false h]
    rfl
def firstM (m : step_machine) : step_machine := ⟨m.l_, m.s_, m.x_, sl m.s_.Stack 0, m.b_, m.r_, (m.s_.Stack.length : Int) - 1, ⟨(sl m.s_.Stack 0).L, m.one_.x1_, m.one_.x2_⟩⟩
theorem first_m {m : step_machine} (hn : m.s_.Stack.length ≤ 1000) : step_machine_first.f m = some (if okT m.s_.Stack 0 = true then .inr (firstM m) else .inl 3) := by
  unfold step_machine_first.f
  have h := atom_m hn (d := 0) (by omega)
  rw [show ((0 : Nat) : Int) = 0 from rfl] at h
  rw [h, bsome]
  have e1 : IntKind.i64.wrap ((m.s_.Stack.length : Int) - 1) = (m.s_.Stack.length : Int) - 1 := wrapZ (by omega) (by omega)
  cases okT m.s_.Stack 0 with
  | false => rfl
  | true =>
    show some (Sum.inr (⟨m.l_, m.s_, m.x_, sl m.s_.Stack 0, m.b_, m.r_, IntKind.i64.wrap ((m.s_.Stack.length : Int) - 1), ⟨(sl m.s_.Stack 0).L, m.one_.x1_, m.one_.x2_⟩⟩ : step_machine)) = _
    rw [e1]; rfl
def bothM (m : step_machine) : step_machine := ⟨m.l_, m.s_, m.x_, sl m.s_.Stack 0, sl m.s_.Stack 1, m.r_, (m.s_.Stack.length : Int) - 2, ⟨(sl m.s_.Stack 0).L, (sl m.s_.Stack 1).L, m.one_.x2_⟩⟩
theorem both_m {m : step_machine} (hn : m.s_.Stack.length ≤ 1000) : step_machine_both.f m = some (if okT m.s_.Stack 0 = true ∧ okT m.s_.Stack 1 = true then .inr (bothM m) else .inl 3) := by
  unfold step_machine_both.f
  rw [first_m hn, bsome]
  cases h0 : okT m.s_.Stack 0 with
  | false => rfl
  | true =>
    have h := atom_m (m := firstM m) hn (d := 1) (by omega)
    rw [show ((1 : Nat) : Int) = 1 from rfl] at h
    show (step_machine_atom.f (firstM m) 1 >>= _) = _
    rw [h, bsome]
    show (match (if okT m.s_.Stack 1 = true then Sum.inr (firstM m, sl m.s_.Stack 1) else Sum.inl 3 : Pn ⊕ (step_machine × api_Slot)) with | .inl p5 => _ | .inr y6 => _) = _
    cases h1 : okT m.s_.Stack 1 with
    | false => rfl
    | true =>
      show some (Sum.inr (⟨m.l_, m.s_, m.x_, sl m.s_.Stack 0, sl m.s_.Stack 1, m.r_, IntKind.i64.wrap ((m.s_.Stack.length : Int) - 1 - 1), ⟨(sl m.s_.Stack 0).L, (sl m.s_.Stack 1).L, m.one_.x2_⟩⟩ : step_machine)) = _
      rw [wrapZ (by omega) (by omega), show (m.s_.Stack.length : Int) - 1 - 1 = (m.s_.Stack.length : Int) - 2 by omega]; rfl
end Go.Proofs.YtmegdednaimgcaaDoor.Ss
