/- A step: what an instruction needs (cells, places, frames). -/
import Derived.Test.YtmegdednaimgcaaDoorSs1
set_option linter.unusedVariables false
set_option linter.unusedSimpArgs false
set_option linter.unusedSectionVars false
namespace Go.Proofs.YtmegdednaimgcaaDoor.Ss
open Go Go.Proofs.YtmegdednaimgcaaDoor.Ab Go.Proofs.YtmegdednaimgcaaDoor.TT
def okC (m : step_machine) : Bool := decide (0 ≤ m.a_.V ∧ m.a_.V < (m.s_.Mem.length : Int))
theorem cell_m {m : step_machine} : step_machine_cell.f m = some (if okC m = true then .inr (m, m.a_.V) else .inl 3) := by
  unfold step_machine_cell.f okC
  by_cases h : 0 ≤ m.a_.V
  · rw [if_pos h, need_p, bsome]
    by_cases q : m.a_.V < (m.s_.Mem.length : Int)
    · rw [decide_eq_true q, decide_eq_true (show 0 ≤ m.a_.V ∧ m.a_.V < (m.s_.Mem.length : Int) from ⟨h, q⟩)]; rfl
    · rw [decide_eq_false q, decide_eq_false (show ¬ (0 ≤ m.a_.V ∧ m.a_.V < (m.s_.Mem.length : Int)) from fun w => q w.2)]; rfl
  · rw [if_neg (show ¬ m.a_.V ≥ 0 by omega), need_p, bsome, decide_eq_false (show ¬ (0 ≤ m.a_.V ∧ m.a_.V < (m.s_.Mem.length : Int)) from fun w => h w.1)]; rfl
/-- What lies at a place in memory. -/
def mm (s : api_State) (v : Int) : api_Atom := s.Mem.getD v.toNat ⟨0, 0⟩
theorem mm_at {s : api_State} {v : Int} (h0 : 0 ≤ v) (h1 : v < (s.Mem.length : Int)) : lAt s.Mem v = some (mm s v) := by
  have e : v = ((v.toNat : Nat) : Int) := by omega
  have hlt : v.toNat < s.Mem.length := by omega
  unfold mm
  rw [List.getD_eq_getElem?_getD, List.getElem?_eq_getElem hlt]
  conv => lhs; rw [e]
  rw [lAt_some hlt]; rfl
def loadM (m : step_machine) : step_machine := ⟨m.l_, m.s_, m.x_, sl m.s_.Stack 0, m.b_, m.r_, (m.s_.Stack.length : Int) - 1, ⟨(sl m.s_.Stack 0).L, (mm m.s_ (sl m.s_.Stack 0).V).L, m.one_.x2_⟩⟩
theorem loads_m {m : step_machine} (hn : m.s_.Stack.length ≤ 1000) : step_machine_loads.f m = some (if okT m.s_.Stack 0 = true ∧ okC (firstM m) = true then .inr (loadM m) else .inl 3) := by
  unfold step_machine_loads.f
  rw [first_m hn, bsome]
  cases h0 : okT m.s_.Stack 0 with
  | false => rfl
  | true =>
    show (step_machine_cell.f (firstM m) >>= _) = _
    rw [cell_m, bsome]
    cases h1 : okC (firstM m) with
    | false => rfl
    | true =>
      unfold okC at h1
      obtain ⟨a, b⟩ := of_decide_eq_true h1
      show (lAt m.s_.Mem (sl m.s_.Stack 0).V >>= _) = _
      rw [show lAt m.s_.Mem (sl m.s_.Stack 0).V = some (mm m.s_ (sl m.s_.Stack 0).V) from mm_at a b, bsome]; rfl
def storeM (m : step_machine) : step_machine := ⟨m.l_, m.s_, m.x_, sl m.s_.Stack 0, sl m.s_.Stack 1, m.r_, (m.s_.Stack.length : Int) - 2, ⟨(sl m.s_.Stack 0).L, (sl m.s_.Stack 1).L, (mm m.s_ (sl m.s_.Stack 0).V).L⟩⟩
theorem stores_m {m : step_machine} (hn : m.s_.Stack.length ≤ 1000) : step_machine_stores.f m = some (if (okT m.s_.Stack 0 = true ∧ okT m.s_.Stack 1 = true) ∧ okC (firstM m) = true then .inr (storeM m) else .inl 3) := by
  unfold step_machine_stores.f
  rw [both_m hn, bsome]
  by_cases h : okT m.s_.Stack 0 = true ∧ okT m.s_.Stack 1 = true
  · rw [if_pos h]
    show (step_machine_cell.f (bothM m) >>= _) = _
    rw [cell_m, bsome]
    have e : okC (bothM m) = okC (firstM m) := rfl
    rw [e]
    cases h1 : okC (firstM m) with
    | false => rw [if_neg (show ¬ ((okT m.s_.Stack 0 = true ∧ okT m.s_.Stack 1 = true) ∧ false = true) from fun w => by cases w.2)]; rfl
    | true =>
      rw [if_pos (show ((okT m.s_.Stack 0 = true ∧ okT m.s_.Stack 1 = true) ∧ true = true) from ⟨h, rfl⟩)]
      unfold okC at h1
      obtain ⟨a, b⟩ := of_decide_eq_true h1
      show (lAt m.s_.Mem (sl m.s_.Stack 0).V >>= _) = _
      rw [show lAt m.s_.Mem (sl m.s_.Stack 0).V = some (mm m.s_ (sl m.s_.Stack 0).V) from mm_at a b, bsome]; rfl
  · rw [if_neg h, if_neg (show ¬ ((okT m.s_.Stack 0 = true ∧ okT m.s_.Stack 1 = true) ∧ okC (firstM m) = true) from fun w => h w.1)]
theorem goes_m {m : step_machine} (hn : m.s_.Stack.length ≤ 1000) : step_machine_goes.f m = some (if okT m.s_.Stack 0 = true ∧ plaB (sl m.s_.Stack 0).V = true then .inr (firstM m) else .inl 3) := by
  unfold step_machine_goes.f
  rw [first_m hn, bsome]
  cases h0 : okT m.s_.Stack 0 with
  | false => rfl
  | true =>
    show (((if (sl m.s_.Stack 0).V ≥ 0 then (step_need.f (decide ((sl m.s_.Stack 0).V ≤ 12)) >>= _) else (step_need.f false >>= _)) : Option ((Pn ⊕ step_machine) ⊕ Unit)) >>= _) = _
    unfold plaB
    by_cases h : (sl m.s_.Stack 0).V ≥ 0
    · rw [if_pos h, need_p, bsome]
      by_cases q : (sl m.s_.Stack 0).V ≤ 12
      · rw [decide_eq_true q, decide_eq_true (show (sl m.s_.Stack 0).V ≥ 0 ∧ (sl m.s_.Stack 0).V ≤ 12 from ⟨h, q⟩)]; rfl
      · rw [decide_eq_false q, decide_eq_false (show ¬ ((sl m.s_.Stack 0).V ≥ 0 ∧ (sl m.s_.Stack 0).V ≤ 12) from fun w => q w.2)]; rfl
    · rw [if_neg h, need_p, bsome, decide_eq_false (show ¬ ((sl m.s_.Stack 0).V ≥ 0 ∧ (sl m.s_.Stack 0).V ≤ 12) from fun w => h w.1)]; rfl
/-- The frame's place, from below a place on; 0: there is none. -/
def frU (S : List api_Slot) : Nat → Nat
  | 0 => 0
  | k + 1 => if (S.getD k ⟨true, 0, 0⟩).Ret = true then k + 1 else frU S k
theorem frU_le (S : List api_Slot) : ∀ k, frU S k ≤ k
  | 0 => Nat.le_refl _
  | k + 1 => by
    unfold frU
    split
    · exact Nat.le_refl _
    · exact Nat.le_succ_of_le (frU_le S k)
theorem ret_l {m : step_machine} (hn : m.s_.Stack.length ≤ 1000) : ∀ k, k ≤ m.s_.Stack.length → step_machine_returns.l0 m (k : Int) = some (frU m.s_.Stack k : Int) ∧ step_machine_returns.l1 m (k : Int) = some (frU m.s_.Stack k : Int)
  | 0, _ => by
    constructor
    · rw [step_machine_returns.l0, if_neg (by omega), bsome, if_neg (by decide)]; rfl
    · rw [step_machine_returns.l1, if_neg (by omega), bsome, if_neg (by decide)]; rfl
  | k + 1, h => by
    obtain ⟨i0, i1⟩ := ret_l hn k (by omega)
    have e : IntKind.i64.wrap (((k + 1 : Nat) : Int) - 1) = (k : Int) := by rw [wrapZ (by omega) (by omega)]; omega
    have g : m.s_.Stack.getD k ⟨true, 0, 0⟩ = m.s_.Stack[k] := by simp [show k < m.s_.Stack.length by omega]
    constructor
    · rw [step_machine_returns.l0, if_pos (by omega), e, lAt_some (by omega), bsome, bsome]
      unfold frU
      rw [g]
      cases hr : m.s_.Stack[k].Ret with
      | true => rw [if_neg (show ¬ (!true) = true by decide), if_pos (show true = true from rfl)]
      | false => rw [if_pos (show (!false) = true from rfl), if_neg (show ¬ false = true by decide)]; exact i0
    · rw [step_machine_returns.l1, if_pos (by omega), e, lAt_some (by omega), bsome, bsome]
      unfold frU
      rw [g]
      cases hr : m.s_.Stack[k].Ret with
      | true => rw [if_neg (show ¬ (!true) = true by decide), if_pos (show true = true from rfl)]
      | false => rw [if_pos (show (!false) = true from rfl), if_neg (show ¬ false = true by decide)]; exact i1
end Go.Proofs.YtmegdednaimgcaaDoor.Ss
