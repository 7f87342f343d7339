/- Ss1, Ss2, Ss3, Ss4, Ss5, Ss6, Ss7, Ss8, Ss9, Ss10, Ru1, Ru2, in one text. -/
import Derived.Test.YtmegdednaimgcaaDoorSsb1
import Derived.Test.YtmegdednaimgcaaDoorGTT
set_option linter.unusedVariables false
set_option linter.unusedSimpArgs false
set_option linter.unusedSectionVars false
namespace Go.Proofs.YtmegdednaimgcaaDoor.Ss
open Go Go.Proofs.YtmegdednaimgcaaDoor.Ab Go.Proofs.YtmegdednaimgcaaDoor.TT
theorem need_p (b : Bool) : step_need.f b = some (if b = true then .inr () else .inl 3) := by
  unfold step_need.f
  cases b <;> rfl
def sl (S : List api_Slot) (d : Nat) : api_Slot := S.getD (S.length - 1 - d) ⟨true, 0, 0⟩
def okT (S : List api_Slot) (d : Nat) : Bool := decide (d < S.length) && !(sl S d).Ret
theorem sl_at {S : List api_Slot} {d : Nat} (h : d < S.length) : sl S d = S[S.length - 1 - d] := by
  unfold sl
  rw [List.getD_eq_getElem?_getD, List.getElem?_eq_getElem (by omega)]; rfl
theorem atom_m {m : step_machine} (hn : m.s_.Stack.length ≤ 1000) {d : Nat} (hd : d ≤ 1000) : step_machine_atom.f m (d : Int) = some (if okT m.s_.Stack d = true then .inr (m, sl m.s_.Stack d) else .inl 3) := by
  unfold step_machine_atom.f okT
  have e1 : IntKind.i64.wrap ((m.s_.Stack.length : Int) - 1) = (m.s_.Stack.length : Int) - 1 := wrapZ (by omega) (by omega)
  have e2 : IntKind.i64.wrap ((m.s_.Stack.length : Int) - 1 - (d : Int)) = (m.s_.Stack.length : Int) - 1 - (d : Int) := wrapZ (by omega) (by omega)
  rw [e1, e2]
  by_cases h : d < m.s_.Stack.length
  · have e3 : (m.s_.Stack.length : Int) - 1 - (d : Int) = ((m.s_.Stack.length - 1 - d : Nat) : Int) := by omega
    rw [if_pos (by omega), e3, lAt_some (by omega), bsome, need_p, bsome, sl_at h, decide_eq_true h]
    cases hr : m.s_.Stack[m.s_.Stack.length - 1 - d].Ret <;> rfl
  · rw [if_neg (by omega), need_p, bsome, decide_eq_false h]
    rfl
def firstM (m : step_machine) : step_machine := ⟨m.l_, m.s_, m.x_, sl m.s_.Stack 0, m.b_, m.r_, (m.s_.Stack.length : Int) - 1, ⟨(sl m.s_.Stack 0).L, m.one_.x1_, m.one_.x2_⟩⟩
theorem first_m {m : step_machine} (hn : m.s_.Stack.length ≤ 1000) : step_machine_first.f m = some (if okT m.s_.Stack 0 = true then .inr (firstM m) else .inl 3) := by
  unfold step_machine_first.f
  have h := atom_m hn (d := 0) (by omega)
  rw [show ((0 : Nat) : Int) = 0 from rfl] at h
  rw [h, bsome]
  have e1 : IntKind.i64.wrap ((m.s_.Stack.length : Int) - 1) = (m.s_.Stack.length : Int) - 1 := wrapZ (by omega) (by omega)
  cases okT m.s_.Stack 0 with
  | false => rfl
  | true =>
    show some (Sum.inr (⟨m.l_, m.s_, m.x_, sl m.s_.Stack 0, m.b_, m.r_, IntKind.i64.wrap ((m.s_.Stack.length : Int) - 1), ⟨(sl m.s_.Stack 0).L, m.one_.x1_, m.one_.x2_⟩⟩ : step_machine)) = _
    rw [e1]; rfl
def bothM (m : step_machine) : step_machine := ⟨m.l_, m.s_, m.x_, sl m.s_.Stack 0, sl m.s_.Stack 1, m.r_, (m.s_.Stack.length : Int) - 2, ⟨(sl m.s_.Stack 0).L, (sl m.s_.Stack 1).L, m.one_.x2_⟩⟩
theorem both_m {m : step_machine} (hn : m.s_.Stack.length ≤ 1000) : step_machine_both.f m = some (if okT m.s_.Stack 0 = true ∧ okT m.s_.Stack 1 = true then .inr (bothM m) else .inl 3) := by
  unfold step_machine_both.f
  rw [first_m hn, bsome]
  cases h0 : okT m.s_.Stack 0 with
  | false => rfl
  | true =>
    have h := atom_m (m := firstM m) hn (d := 1) (by omega)
    rw [show ((1 : Nat) : Int) = 1 from rfl] at h
    show (step_machine_atom.f (firstM m) 1 >>= _) = _
    rw [h, bsome]
    show (match (if okT m.s_.Stack 1 = true then Sum.inr (firstM m, sl m.s_.Stack 1) else Sum.inl 3 : Pn ⊕ (step_machine × api_Slot)) with | .inl p5 => _ | .inr y6 => _) = _
    cases h1 : okT m.s_.Stack 1 with
    | false => rfl
    | true =>
      show some (Sum.inr (⟨m.l_, m.s_, m.x_, sl m.s_.Stack 0, sl m.s_.Stack 1, m.r_, IntKind.i64.wrap ((m.s_.Stack.length : Int) - 1 - 1), ⟨(sl m.s_.Stack 0).L, (sl m.s_.Stack 1).L, m.one_.x2_⟩⟩ : step_machine)) = _
      rw [wrapZ (by omega) (by omega), show (m.s_.Stack.length : Int) - 1 - 1 = (m.s_.Stack.length : Int) - 2 by omega]; rfl
end Go.Proofs.YtmegdednaimgcaaDoor.Ss
namespace Go.Proofs.YtmegdednaimgcaaDoor.Ss
open Go Go.Proofs.YtmegdednaimgcaaDoor.Ab Go.Proofs.YtmegdednaimgcaaDoor.TT
def okC (m : step_machine) : Bool := decide (0 ≤ m.a_.V ∧ m.a_.V < (m.s_.Mem.length : Int))
theorem cell_m {m : step_machine} : step_machine_cell.f m = some (if okC m = true then .inr (m, m.a_.V) else .inl 3) := by
  unfold step_machine_cell.f okC
  by_cases h : 0 ≤ m.a_.V
  · rw [if_pos h, need_p, bsome]
    by_cases q : m.a_.V < (m.s_.Mem.length : Int)
    · rw [decide_eq_true q, decide_eq_true (show 0 ≤ m.a_.V ∧ m.a_.V < (m.s_.Mem.length : Int) from ⟨h, q⟩)]; rfl
    · rw [decide_eq_false q, decide_eq_false (show ¬ (0 ≤ m.a_.V ∧ m.a_.V < (m.s_.Mem.length : Int)) from fun w => q w.2)]; rfl
  · rw [if_neg (show ¬ m.a_.V ≥ 0 by omega), need_p, bsome, decide_eq_false (show ¬ (0 ≤ m.a_.V ∧ m.a_.V < (m.s_.Mem.length : Int)) from fun w => h w.1)]; rfl
def mm (s : api_State) (v : Int) : api_Atom := s.Mem.getD v.toNat ⟨0, 0⟩
theorem mm_at {s : api_State} {v : Int} (h0 : 0 ≤ v) (h1 : v < (s.Mem.length : Int)) : lAt s.Mem v = some (mm s v) := by
  have e : v = ((v.toNat : Nat) : Int) := by omega
  have hlt : v.toNat < s.Mem.length := by omega
  unfold mm
  rw [List.getD_eq_getElem?_getD, List.getElem?_eq_getElem hlt]
  conv => lhs; rw [e]
  rw [lAt_some hlt]; rfl
def loadM (m : step_machine) : step_machine := ⟨m.l_, m.s_, m.x_, sl m.s_.Stack 0, m.b_, m.r_, (m.s_.Stack.length : Int) - 1, ⟨(sl m.s_.Stack 0).L, (mm m.s_ (sl m.s_.Stack 0).V).L, m.one_.x2_⟩⟩
theorem loads_m {m : step_machine} (hn : m.s_.Stack.length ≤ 1000) : step_machine_loads.f m = some (if okT m.s_.Stack 0 = true ∧ okC (firstM m) = true then .inr (loadM m) else .inl 3) := by
  unfold step_machine_loads.f
  rw [first_m hn, bsome]
  cases h0 : okT m.s_.Stack 0 with
  | false => rfl
  | true =>
    show (step_machine_cell.f (firstM m) >>= _) = _
    rw [cell_m, bsome]
    cases h1 : okC (firstM m) with
    | false => rfl
    | true =>
      unfold okC at h1
      obtain ⟨a, b⟩ := of_decide_eq_true h1
      show (lAt m.s_.Mem (sl m.s_.Stack 0).V >>= _) = _
      rw [show lAt m.s_.Mem (sl m.s_.Stack 0).V = some (mm m.s_ (sl m.s_.Stack 0).V) from mm_at a b, bsome]; rfl
def storeM (m : step_machine) : step_machine := ⟨m.l_, m.s_, m.x_, sl m.s_.Stack 0, sl m.s_.Stack 1, m.r_, (m.s_.Stack.length : Int) - 2, ⟨(sl m.s_.Stack 0).L, (sl m.s_.Stack 1).L, (mm m.s_ (sl m.s_.Stack 0).V).L⟩⟩
theorem stores_m {m : step_machine} (hn : m.s_.Stack.length ≤ 1000) : step_machine_stores.f m = some (if (okT m.s_.Stack 0 = true ∧ okT m.s_.Stack 1 = true) ∧ okC (firstM m) = true then .inr (storeM m) else .inl 3) := by
  unfold step_machine_stores.f
  rw [both_m hn, bsome]
  by_cases h : okT m.s_.Stack 0 = true ∧ okT m.s_.Stack 1 = true
  · rw [if_pos h]
    show (step_machine_cell.f (bothM m) >>= _) = _
    rw [cell_m, bsome]
    have e : okC (bothM m) = okC (firstM m) := rfl
    rw [e]
    cases h1 : okC (firstM m) with
    | false => rw [if_neg (show ¬ ((okT m.s_.Stack 0 = true ∧ okT m.s_.Stack 1 = true) ∧ false = true) from fun w => by cases w.2)]; rfl
    | true =>
      rw [if_pos (show ((okT m.s_.Stack 0 = true ∧ okT m.s_.Stack 1 = true) ∧ true = true) from ⟨h, rfl⟩)]
      unfold okC at h1
      obtain ⟨a, b⟩ := of_decide_eq_true h1
      show (lAt m.s_.Mem (sl m.s_.Stack 0).V >>= _) = _
      rw [show lAt m.s_.Mem (sl m.s_.Stack 0).V = some (mm m.s_ (sl m.s_.Stack 0).V) from mm_at a b, bsome]; rfl
  · rw [if_neg h, if_neg (show ¬ ((okT m.s_.Stack 0 = true ∧ okT m.s_.Stack 1 = true) ∧ okC (firstM m) = true) from fun w => h w.1)]
theorem goes_m {m : step_machine} (hn : m.s_.Stack.length ≤ 1000) : step_machine_goes.f m = some (if okT m.s_.Stack 0 = true ∧ plaB (sl m.s_.Stack 0).V = true then .inr (firstM m) else .inl 3) := by
  unfold step_machine_goes.f
  rw [first_m hn, bsome]
  cases h0 : okT m.s_.Stack 0 with
  | false => rfl
  | true =>
    show (((if (sl m.s_.Stack 0).V ≥ 0 then (step_need.f (decide ((sl m.s_.Stack 0).V ≤ 12)) >>= _) else (step_need.f false >>= _)) : Option ((Pn ⊕ step_machine) ⊕ Unit)) >>= _) = _
    unfold plaB
    by_cases h : (sl m.s_.Stack 0).V ≥ 0
    · rw [if_pos h, need_p, bsome]
      by_cases q : (sl m.s_.Stack 0).V ≤ 12
      · rw [decide_eq_true q, decide_eq_true (show (sl m.s_.Stack 0).V ≥ 0 ∧ (sl m.s_.Stack 0).V ≤ 12 from ⟨h, q⟩)]; rfl
      · rw [decide_eq_false q, decide_eq_false (show ¬ ((sl m.s_.Stack 0).V ≥ 0 ∧ (sl m.s_.Stack 0).V ≤ 12) from fun w => q w.2)]; rfl
    · rw [if_neg h, need_p, bsome, decide_eq_false (show ¬ ((sl m.s_.Stack 0).V ≥ 0 ∧ (sl m.s_.Stack 0).V ≤ 12) from fun w => h w.1)]; rfl
def frU (S : List api_Slot) : Nat → Nat
  | 0 => 0
  | k + 1 => if (S.getD k ⟨true, 0, 0⟩).Ret = true then k + 1 else frU S k
theorem frU_le (S : List api_Slot) : ∀ k, frU S k ≤ k
  | 0 => Nat.le_refl _
  | k + 1 => by
    unfold frU
    split
    · exact Nat.le_refl _
    · exact Nat.le_succ_of_le (frU_le S k)
theorem ret_l {m : step_machine} (hn : m.s_.Stack.length ≤ 1000) : ∀ k, k ≤ m.s_.Stack.length → step_machine_returns.l0 m (k : Int) = some (frU m.s_.Stack k : Int) ∧ step_machine_returns.l1 m (k : Int) = some (frU m.s_.Stack k : Int)
  | 0, _ => by
    constructor
    · rw [step_machine_returns.l0, if_neg (by omega), bsome, if_neg (by decide)]; rfl
    · rw [step_machine_returns.l1, if_neg (by omega), bsome, if_neg (by decide)]; rfl
  | k + 1, h => by
    obtain ⟨i0, i1⟩ := ret_l hn k (by omega)
    have e : IntKind.i64.wrap (((k + 1 : Nat) : Int) - 1) = (k : Int) := by rw [wrapZ (by omega) (by omega)]; omega
    have g : m.s_.Stack.getD k ⟨true, 0, 0⟩ = m.s_.Stack[k] := by simp [show k < m.s_.Stack.length by omega]
    constructor
    · rw [step_machine_returns.l0, if_pos (by omega), e, lAt_some (by omega), bsome, bsome]
      unfold frU
      rw [g]
      cases hr : m.s_.Stack[k].Ret with
      | true => rw [if_neg (show ¬ (!true) = true by decide), if_pos (show true = true from rfl)]
      | false => rw [if_pos (show (!false) = true from rfl), if_neg (show ¬ false = true by decide)]; exact i0
    · rw [step_machine_returns.l1, if_pos (by omega), e, lAt_some (by omega), bsome, bsome]
      unfold frU
      rw [g]
      cases hr : m.s_.Stack[k].Ret with
      | true => rw [if_neg (show ¬ (!true) = true by decide), if_pos (show true = true from rfl)]
      | false => rw [if_pos (show (!false) = true from rfl), if_neg (show ¬ false = true by decide)]; exact i1
end Go.Proofs.YtmegdednaimgcaaDoor.Ss
namespace Go.Proofs.YtmegdednaimgcaaDoor.Ss
open Go Go.Proofs.YtmegdednaimgcaaDoor.Ab Go.Proofs.YtmegdednaimgcaaDoor.TT
def callB (S : List api_Slot) : Nat → Nat → Bool
  | _, 0 => true
  | i, k + 1 => okT S (1 + i) && callB S (i + 1) k
theorem callB_len {S : List api_Slot} : ∀ {k i : Nat}, callB S i (k + 1) = true → 1 + i + k < S.length
  | 0, i, h => by
    unfold callB okT at h
    rw [Bool.and_eq_true, Bool.and_eq_true, decide_eq_true_eq] at h
    exact h.1.1
  | k + 1, i, h => by
    unfold callB at h
    rw [Bool.and_eq_true] at h
    have := callB_len h.2
    omega
theorem call_l {y m : step_machine} (hn : m.s_.Stack.length ≤ 1000) : ∀ k i : Nat, y.x_.N = ((i + k : Nat) : Int) → i + k ≤ 900 →
    step_machine_calls.l0 y m (i : Int) = some (if callB m.s_.Stack i k = true then .inr m else .inl (.inl 3))
  | 0, i, h, hb => by
    rw [step_machine_calls.l0, if_neg (by omega)]; rfl
  | k + 1, i, h, hb => by
    rw [step_machine_calls.l0, if_pos (by omega)]
    have e1 : IntKind.i64.wrap (1 + (i : Int)) = ((1 + i : Nat) : Int) := by rw [wrapZ (by omega) (by omega)]; omega
    have e2 : IntKind.i64.wrap ((i : Int) + 1) = ((i + 1 : Nat) : Int) := by rw [wrapZ (by omega) (by omega)]; omega
    rw [e1, atom_m hn (by omega), bsome]
    unfold callB
    cases h0 : okT m.s_.Stack (1 + i) with
    | false => rfl
    | true =>
      rw [Bool.true_and]
      show step_machine_calls.l0 y m (IntKind.i64.wrap ((i : Int) + 1)) = _
      rw [e2]
      exact call_l hn k (i + 1) (by omega) (by omega)
theorem calls_m {m : step_machine} (hn : m.s_.Stack.length ≤ 1000) {k : Nat} (hk : m.x_.N = (k : Int)) (hb : k ≤ 900) :
    step_machine_calls.f m = some (if (okT m.s_.Stack 0 = true ∧ plaB (sl m.s_.Stack 0).V = true) ∧ callB m.s_.Stack 0 k = true then .inr (firstM m) else .inl 3) := by
  unfold step_machine_calls.f
  rw [goes_m hn, bsome]
  by_cases h : okT m.s_.Stack 0 = true ∧ plaB (sl m.s_.Stack 0).V = true
  · rw [if_pos h]
    show (step_machine_calls.l0 (firstM m) (firstM m) 0 >>= _) = _
    have q := call_l (y := firstM m) (m := firstM m) hn k 0 (by rw [Nat.zero_add]; exact hk) (by omega)
    rw [show ((0 : Nat) : Int) = 0 from rfl] at q
    rw [q, bsome]
    show (match (if callB m.s_.Stack 0 k = true then .inr (firstM m) else .inl (.inl 3) : (Pn ⊕ step_machine) ⊕ step_machine) with | .inl r => some r | .inr x14 => some (.inr x14)) = _
    cases h1 : callB m.s_.Stack 0 k with
    | false => rw [if_neg (show ¬ ((okT m.s_.Stack 0 = true ∧ plaB (sl m.s_.Stack 0).V = true) ∧ false = true) from fun w => by cases w.2)]; rfl
    | true => rw [if_pos (show ((okT m.s_.Stack 0 = true ∧ plaB (sl m.s_.Stack 0).V = true) ∧ true = true) from ⟨h, rfl⟩)]; rfl
  · rw [if_neg h, if_neg (show ¬ ((okT m.s_.Stack 0 = true ∧ plaB (sl m.s_.Stack 0).V = true) ∧ callB m.s_.Stack 0 k = true) from fun w => h w.1)]
def retM (m : step_machine) (k : Nat) : step_machine := ⟨m.l_, m.s_, m.x_, m.a_, m.b_, m.s_.Stack.getD (k - 1) ⟨true, 0, 0⟩, (k : Int) - 1, ⟨m.one_.x0_, (m.s_.Stack.getD (k - 1) ⟨true, 0, 0⟩).L, m.one_.x2_⟩⟩
theorem getD_is {S : List api_Slot} {k : Nat} (h : k < S.length) : S.getD k ⟨true, 0, 0⟩ = S[k] := by simp [h]
theorem ret_end {m : step_machine} (hn : m.s_.Stack.length ≤ 1000) {k : Nat} (hk : k ≤ m.s_.Stack.length) :
    (step_need.f (decide ((k : Int) > 0)) >>= fun z25 => match z25 with | .inl p26 => (some (.inl p26) : Option (Pn ⊕ step_machine)) | .inr y27 => lAt m.s_.Stack (IntKind.i64.wrap ((k : Int) - 1)) >>= fun y28 => some (.inr (⟨m.l_, m.s_, m.x_, m.a_, m.b_, y28, IntKind.i64.wrap ((k : Int) - 1), ⟨m.one_.x0_, y28.L, m.one_.x2_⟩⟩ : step_machine))) = some (if 0 < k then .inr (retM m k) else .inl 3) := by
  rw [need_p, bsome]
  by_cases h : 0 < k
  · rw [decide_eq_true (show (k : Int) > 0 by omega), if_pos h]
    have e : IntKind.i64.wrap ((k : Int) - 1) = ((k - 1 : Nat) : Int) := by rw [wrapZ (by omega) (by omega)]; omega
    have e' : (k : Int) - 1 = ((k - 1 : Nat) : Int) := by omega
    show (lAt m.s_.Stack (IntKind.i64.wrap ((k : Int) - 1)) >>= _) = _
    rw [e, lAt_some (by omega), bsome]
    unfold retM
    rw [getD_is (by omega), e']
  · rw [decide_eq_false (show ¬ (k : Int) > 0 by omega), if_neg h]; rfl
theorem returns_m {m : step_machine} (hn : m.s_.Stack.length ≤ 1000) :
    step_machine_returns.f m = some (if m.x_.N = 1 then (if okT m.s_.Stack 0 = true ∧ 0 < frU m.s_.Stack (m.s_.Stack.length - 1) then .inr (retM (firstM m) (frU m.s_.Stack (m.s_.Stack.length - 1))) else .inl 3) else (if 0 < frU m.s_.Stack m.s_.Stack.length then .inr (retM m (frU m.s_.Stack m.s_.Stack.length)) else .inl 3)) := by
  unfold step_machine_returns.f
  by_cases h : m.x_.N = 1
  · rw [if_pos h, if_pos h]
    have q := first_m (m := ⟨m.l_, m.s_, m.x_, m.a_, m.b_, m.r_, (m.s_.Stack.length : Int), m.one_⟩) hn
    rw [q, bsome]
    show (match (if okT m.s_.Stack 0 = true then .inr (firstM m) else .inl 3 : Pn ⊕ step_machine) with | .inl p3 => _ | .inr y4 => _) = _
    cases h0 : okT m.s_.Stack 0 with
    | false => rw [if_neg (show ¬ (false = true ∧ 0 < frU m.s_.Stack (m.s_.Stack.length - 1)) from fun w => by cases w.1)]; rfl
    | true =>
      have hp : 0 < m.s_.Stack.length := by
        unfold okT at h0
        rw [Bool.and_eq_true, decide_eq_true_eq] at h0
        exact h0.1
      have e : (m.s_.Stack.length : Int) - 1 = ((m.s_.Stack.length - 1 : Nat) : Int) := by omega
      have hf := frU_le m.s_.Stack (m.s_.Stack.length - 1)
      show (step_machine_returns.l0 (firstM m) ((m.s_.Stack.length : Int) - 1) >>= _) = _
      rw [e, (ret_l (m := firstM m) hn (m.s_.Stack.length - 1) (show m.s_.Stack.length - 1 ≤ m.s_.Stack.length by omega)).1, bsome]
      have q := ret_end (m := firstM m) hn (k := frU m.s_.Stack (m.s_.Stack.length - 1)) (show _ ≤ m.s_.Stack.length by omega)
      refine Eq.trans q ?_
      simp only [true_and]
  · rw [if_neg h, if_neg h, (ret_l hn m.s_.Stack.length (Nat.le_refl _)).2, bsome]
    exact ret_end hn (frU_le _ _)
end Go.Proofs.YtmegdednaimgcaaDoor.Ss
namespace Go.Proofs.YtmegdednaimgcaaDoor.Ss
open Go Go.Proofs.YtmegdednaimgcaaDoor.Ab Go.Proofs.YtmegdednaimgcaaDoor.TT
structure Fine (P : Int → Prop) (a m : step_machine) : Prop where
  l : m.l_ = a.l_
  s : m.s_ = a.s_
  x : m.x_ = a.x_
  lo : 0 ≤ m.below_
  hi : m.below_ ≤ (a.s_.Stack.length : Int)
  o0 : P m.one_.x0_
  o1 : P m.one_.x1_
  o2 : P m.one_.x2_
  c : a.x_.Op = 5 ∨ a.x_.Op = 6 → okC m = true
  g : a.x_.Op = 9 → a.x_.N ≤ m.below_
structure Start (P : Int → Prop) (a : step_machine) : Prop where
  n : a.s_.Stack.length ≤ 1000
  o0 : P a.one_.x0_
  o1 : P a.one_.x1_
  o2 : P a.one_.x2_
  st : ∀ x ∈ a.s_.Stack, P x.L
  me : ∀ x ∈ a.s_.Mem, P x.L
  op : 0 ≤ a.x_.Op ∧ a.x_.Op ≤ 12
  im : a.x_.Op = 1 → P a.x_.L
  cn : a.x_.Op = 9 → 0 ≤ a.x_.N ∧ a.x_.N ≤ 3
theorem sl_P {P : Int → Prop} {S : List api_Slot} (h : ∀ x ∈ S, P x.L) {d : Nat} (k : okT S d = true) : P (sl S d).L := by
  unfold okT at k
  rw [Bool.and_eq_true, decide_eq_true_eq] at k
  rw [sl_at k.1]
  exact h _ (List.getElem_mem _)
theorem okT_lt {S : List api_Slot} {d : Nat} (k : okT S d = true) : d < S.length := by
  unfold okT at k
  rw [Bool.and_eq_true, decide_eq_true_eq] at k
  exact k.1
theorem mm_P {P : Int → Prop} {m : step_machine} (h : ∀ x ∈ m.s_.Mem, P x.L) (k : okC m = true) : P (mm m.s_ m.a_.V).L := by
  unfold okC at k
  have k := of_decide_eq_true k
  have hlt : m.a_.V.toNat < m.s_.Mem.length := by omega
  unfold mm
  rw [List.getD_eq_getElem?_getD, List.getElem?_eq_getElem hlt]
  exact h _ (List.getElem_mem _)
theorem getD_P {P : Int → Prop} {S : List api_Slot} (h : ∀ x ∈ S, P x.L) {k : Nat} (hk : k < S.length) : P (S.getD k ⟨true, 0, 0⟩).L := by
  rw [getD_is hk]
  exact h _ (List.getElem_mem _)
theorem fine_first {P : Int → Prop} {a m : step_machine} (z : Start P a) (hm : m.l_ = a.l_ ∧ m.s_ = a.s_ ∧ m.x_ = a.x_ ∧ m.one_ = a.one_) (k : okT a.s_.Stack 0 = true) (n5 : ¬ (a.x_.Op = 5 ∨ a.x_.Op = 6)) (n9 : a.x_.Op = 9 → a.x_.N ≤ (a.s_.Stack.length : Int) - 1) : Fine P a (firstM m) := by
  obtain ⟨h1, h2, h3, h4⟩ := hm
  have hp := okT_lt k
  refine ⟨h1, h2, h3, ?_, ?_, ?_, ?_, ?_, fun w => absurd w n5, ?_⟩
  · show 0 ≤ (m.s_.Stack.length : Int) - 1
    rw [h2]; omega
  · show (m.s_.Stack.length : Int) - 1 ≤ _
    rw [h2]; omega
  · show P (sl m.s_.Stack 0).L
    rw [h2]; exact sl_P z.st k
  · show P m.one_.x1_
    rw [h4]; exact z.o1
  · show P m.one_.x2_
    rw [h4]; exact z.o2
  · intro w
    show a.x_.N ≤ (m.s_.Stack.length : Int) - 1
    rw [h2]; exact n9 w
theorem fine_both {P : Int → Prop} {a m : step_machine} (z : Start P a) (hm : m.l_ = a.l_ ∧ m.s_ = a.s_ ∧ m.x_ = a.x_ ∧ m.one_ = a.one_) (k : okT a.s_.Stack 0 = true) (k1 : okT a.s_.Stack 1 = true) (n5 : ¬ (a.x_.Op = 5 ∨ a.x_.Op = 6)) (n9 : a.x_.Op ≠ 9) : Fine P a (bothM m) := by
  obtain ⟨h1, h2, h3, h4⟩ := hm
  have hp := okT_lt k1
  refine ⟨h1, h2, h3, ?_, ?_, ?_, ?_, ?_, fun w => absurd w n5, fun w => absurd w n9⟩
  · show 0 ≤ (m.s_.Stack.length : Int) - 2
    rw [h2]; omega
  · show (m.s_.Stack.length : Int) - 2 ≤ _
    rw [h2]; omega
  · show P (sl m.s_.Stack 0).L
    rw [h2]; exact sl_P z.st k
  · show P (sl m.s_.Stack 1).L
    rw [h2]; exact sl_P z.st k1
  · show P m.one_.x2_
    rw [h4]; exact z.o2
end Go.Proofs.YtmegdednaimgcaaDoor.Ss
namespace Go.Proofs.YtmegdednaimgcaaDoor.Ss
open Go Go.Proofs.YtmegdednaimgcaaDoor.Ab Go.Proofs.YtmegdednaimgcaaDoor.TT
def Ans (P : Int → Prop) (a : step_machine) (e : Option (Pn ⊕ step_machine)) : Prop :=
  ∃ r, e = some r ∧ (match r with | .inl p => p = 3 | .inr m => Fine P a m)
theorem ans_if {P : Int → Prop} {a m : step_machine} {c : Prop} [Decidable c] {e : Option (Pn ⊕ step_machine)} (h : e = some (if c then .inr m else .inl 3)) (k : c → Fine P a m) : Ans P a (e >>= fun z => match z with | .inl p => some (.inl p) | .inr y => some (.inr y)) := by
  rw [h, bsome]
  by_cases q : c
  · rw [if_pos q]; exact ⟨_, rfl, k q⟩
  · rw [if_neg q]; exact ⟨_, rfl, rfl⟩
def topM (a : step_machine) : step_machine := ⟨a.l_, a.s_, a.x_, a.a_, a.b_, a.r_, (a.s_.Stack.length : Int), a.one_⟩
theorem fine_ret {P : Int → Prop} {a m : step_machine} (z : Start P a) (hm : m.l_ = a.l_ ∧ m.s_ = a.s_ ∧ m.x_ = a.x_) (o0 : P m.one_.x0_) (o2 : P m.one_.x2_) {k : Nat} (h0 : 0 < k) (hk : k ≤ a.s_.Stack.length) (n5 : ¬ (a.x_.Op = 5 ∨ a.x_.Op = 6)) (n9 : a.x_.Op ≠ 9) : Fine P a (retM m k) := by
  obtain ⟨h1, h2, h3⟩ := hm
  refine ⟨h1, h2, h3, ?_, ?_, o0, ?_, o2, fun w => absurd w n5, fun w => absurd w n9⟩
  · show 0 ≤ (k : Int) - 1
    omega
  · show (k : Int) - 1 ≤ _
    omega
  · show P (m.s_.Stack.getD (k - 1) ⟨true, 0, 0⟩).L
    rw [h2]
    exact getD_P z.st (by omega)
theorem needs_a {P : Int → Prop} {a : step_machine} (z : Start P a) : Ans P a (step_machine_needs.f a) := by
  have hn : (topM a).s_.Stack.length ≤ 1000 := z.n
  have hop := z.op
  have same : (topM a).l_ = a.l_ ∧ (topM a).s_ = a.s_ ∧ (topM a).x_ = a.x_ ∧ (topM a).one_ = a.one_ := ⟨rfl, rfl, rfl, rfl⟩
  unfold step_machine_needs.f
  by_cases c0 : a.x_.Op = 0
  · rw [if_pos c0]
    exact ⟨_, rfl, ⟨rfl, rfl, rfl, Int.natCast_nonneg _, Int.le_refl _, z.o0, z.o1, z.o2, fun w => by omega, fun w => by omega⟩⟩
  rw [if_neg c0]
  by_cases c12 : a.x_.Op = 12
  · rw [if_pos c12]
    exact ⟨_, rfl, ⟨rfl, rfl, rfl, Int.natCast_nonneg _, Int.le_refl _, z.o0, z.o1, z.o2, fun w => by omega, fun w => by omega⟩⟩
  rw [if_neg c12]
  by_cases c1 : a.x_.Op = 1
  · rw [if_pos c1]
    exact ⟨_, rfl, ⟨rfl, rfl, rfl, Int.natCast_nonneg _, Int.le_refl _, z.im c1, z.o1, z.o2, fun w => by omega, fun w => by omega⟩⟩
  rw [if_neg c1]
  by_cases c2 : a.x_.Op = 2
  · rw [if_pos c2]
    exact ans_if (first_m (m := topM a) hn) (fun q => fine_first z same q (by omega) (by omega))
  rw [if_neg c2]
  by_cases c11 : a.x_.Op = 11
  · rw [if_pos c11]
    exact ans_if (first_m (m := topM a) hn) (fun q => fine_first z same q (by omega) (by omega))
  rw [if_neg c11]
  by_cases c3 : a.x_.Op = 3
  · rw [if_pos c3]
    exact ans_if (both_m (m := topM a) hn) (fun q => fine_both z same q.1 q.2 (by omega) (by omega))
  rw [if_neg c3]
  by_cases c4 : a.x_.Op = 4
  · rw [if_pos c4]
    exact ans_if (both_m (m := topM a) hn) (fun q => fine_both z same q.1 q.2 (by omega) (by omega))
  rw [if_neg c4]
  by_cases c5 : a.x_.Op = 5
  · rw [if_pos c5]
    refine ans_if (loads_m (m := topM a) hn) (fun q => ?_)
    have hp := okT_lt q.1
    refine ⟨rfl, rfl, rfl, ?_, ?_, sl_P z.st q.1, mm_P (m := firstM (topM a)) z.me q.2, z.o2, fun _ => q.2, fun w => by omega⟩
    · show 0 ≤ (a.s_.Stack.length : Int) - 1
      have : 0 < a.s_.Stack.length := hp
      omega
    · show (a.s_.Stack.length : Int) - 1 ≤ _
      omega
  rw [if_neg c5]
  by_cases c6 : a.x_.Op = 6
  · rw [if_pos c6]
    refine ans_if (stores_m (m := topM a) hn) (fun q => ?_)
    have hp := okT_lt q.1.2
    refine ⟨rfl, rfl, rfl, ?_, ?_, sl_P z.st q.1.1, sl_P z.st q.1.2, mm_P (m := firstM (topM a)) z.me q.2, fun _ => q.2, fun w => by omega⟩
    · show 0 ≤ (a.s_.Stack.length : Int) - 2
      have : 1 < a.s_.Stack.length := hp
      omega
    · show (a.s_.Stack.length : Int) - 2 ≤ _
      omega
  rw [if_neg c6]
  by_cases c7 : a.x_.Op = 7
  · rw [if_pos c7]
    exact ans_if (goes_m (m := topM a) hn) (fun q => fine_first z same q.1 (by omega) (by omega))
  rw [if_neg c7]
  by_cases c8 : a.x_.Op = 8
  · rw [if_pos c8]
    exact ans_if (first_m (m := topM a) hn) (fun q => fine_first z same q (by omega) (by omega))
  rw [if_neg c8]
  by_cases c9 : a.x_.Op = 9
  · rw [if_pos c9]
    obtain ⟨q0, q3⟩ := z.cn c9
    have e : (topM a).x_.N = ((a.x_.N.toNat : Nat) : Int) := by show a.x_.N = _; omega
    refine ans_if (calls_m (m := topM a) hn e (by omega)) (fun q => fine_first z same q.1.1 (by omega) (fun _ => ?_))
    have hp : 0 < a.s_.Stack.length := okT_lt q.1.1
    cases hN : a.x_.N.toNat with
    | zero => omega
    | succ k =>
      have q2 := q.2
      rw [hN] at q2
      have : 1 + 0 + k < a.s_.Stack.length := callB_len q2
      omega
  rw [if_neg c9]
  have c10 : a.x_.Op = 10 := by omega
  rw [if_pos c10]
  have r := returns_m (m := topM a) hn
  by_cases cN : (topM a).x_.N = 1
  · rw [if_pos cN] at r
    refine ans_if r (fun q => ?_)
    have hf := frU_le a.s_.Stack (a.s_.Stack.length - 1)
    exact fine_ret (m := firstM (topM a)) z ⟨rfl, rfl, rfl⟩ (sl_P z.st q.1) z.o2 q.2 (Nat.le_trans hf (Nat.sub_le _ _)) (by omega) (by omega)
  · rw [if_neg cN] at r
    refine ans_if r (fun q => ?_)
    exact fine_ret (m := topM a) z ⟨rfl, rfl, rfl⟩ z.o0 z.o2 q (frU_le _ _) (by omega) (by omega)
end Go.Proofs.YtmegdednaimgcaaDoor.Ss
namespace Go.Proofs.YtmegdednaimgcaaDoor.Ss
open Go Go.Proofs.YtmegdednaimgcaaDoor.Ab Go.Proofs.YtmegdednaimgcaaDoor.TT
theorem clone_s {S : List api_Slot} (h : S.length ≤ 1000) : slices_Clone_api_Slot_api_Slot_nn.f S = some S := by
  have hB : 100000 ≤ big := by decide
  unfold slices_Clone_api_Slot_api_Slot_nn.f
  rw [if_pos (show (([] : List api_Slot).length + S.length) * 24 ≤ big by simp; omega)]; rfl
theorem clone_a {S : List api_Atom} (h : S.length ≤ 1000) : slices_Clone_api_Atom_api_Atom_nn.f S = some S := by
  have hB : 100000 ≤ big := by decide
  unfold slices_Clone_api_Atom_api_Atom_nn.f
  rw [if_pos (show (([] : List api_Atom).length + S.length) * 16 ≤ big by simp; omega)]; rfl
theorem put_m {m : step_machine} (h : m.s_.Stack.length ≤ 1000) (v l : Int) : step_machine_put.f m v l = some ⟨m.l_, ⟨m.s_.Pc, m.s_.Code, m.s_.Mem, m.s_.Stack ++ [⟨false, v, l⟩], m.s_.Out⟩, m.x_, m.a_, m.b_, m.r_, m.below_, m.one_⟩ := by
  have hB : 100000 ≤ big := by decide
  unfold step_machine_put.f
  rw [if_pos (show (m.s_.Stack.length + ([(⟨false, v, l⟩ : api_Slot)] : List api_Slot).length) * 24 ≤ big by simp; omega)]
theorem flat_len_le {xss : List (List api_Slot)} (h : ∀ x ∈ xss, x.length ≤ 1000) : xss.flatten.length ≤ xss.length * 1000 := by
  induction xss with
  | nil => simp
  | cons a r ih =>
    have ha := h a (by simp)
    have := ih (fun x hx => h x (by simp [hx]))
    simp only [List.flatten_cons, List.length_append, List.length_cons, Nat.succ_mul]
    omega
theorem concat_l0 {xss : List (List api_Slot)} (hn : xss.length ≤ 100) (h : ∀ x ∈ xss, x.length ≤ 1000) : ∀ (d k : Nat) (v : Nat), xss.length = k + d → v ≤ k * 1000 → slices_Concat_api_Slot_api_Slot.l0 xss (k : Int) (v : Int) = some ((v + (xss.drop k).flatten.length : Nat) : Int)
  | 0, k, v, e, hv => by
    rw [slices_Concat_api_Slot_api_Slot.l0, if_neg (by omega), List.drop_of_length_le (by omega)]; simp
  | d + 1, k, v, e, hv => by
    have hk : k < xss.length := by omega
    have hx := h xss[k] (List.getElem_mem hk)
    have ih := concat_l0 hn h d (k + 1) (v + xss[k].length) (by omega) (by rw [Nat.succ_mul]; omega)
    have hw : IntKind.i64.wrap ((v : Int) + (xss[k].length : Int)) = ((v + xss[k].length : Nat) : Int) := by rw [wrapZ (by omega) (by omega)]; omega
    rw [slices_Concat_api_Slot_api_Slot.l0, if_pos (by omega), lAt_some hk, bsome, hw, if_neg (by omega), bsome, wS (by omega), ih, List.drop_eq_getElem_cons hk]
    simp only [List.flatten_cons, List.length_append]
    rw [Nat.add_assoc]
theorem concat_l1 {xss : List (List api_Slot)} (hn : xss.length ≤ 100) (h : ∀ x ∈ xss, x.length ≤ 1000) : ∀ (d k : Nat) (v : List api_Slot), xss.length = k + d → v.length ≤ k * 1000 → slices_Concat_api_Slot_api_Slot.l1 xss v (k : Int) = some (v ++ (xss.drop k).flatten)
  | 0, k, v, e, hv => by
    rw [slices_Concat_api_Slot_api_Slot.l1, if_neg (by omega), List.drop_of_length_le (by omega)]; simp
  | d + 1, k, v, e, hv => by
    have hk : k < xss.length := by omega
    have hx := h xss[k] (List.getElem_mem hk)
    have hB : 10000000 ≤ big := by decide
    have ih := concat_l1 hn h d (k + 1) (v ++ xss[k]) (by omega) (by rw [Nat.succ_mul]; simp; omega)
    rw [slices_Concat_api_Slot_api_Slot.l1, if_pos (by omega), lAt_some hk, bsome, if_pos (by omega), wS (by omega), ih, List.drop_eq_getElem_cons hk]
    simp only [List.flatten_cons, List.append_assoc]
theorem grow_eq {n : Nat} (h : n ≤ 100000) : slices_Grow_api_Slot_api_Slot_nil.f (n : Int) = some [] := by
  unfold slices_Grow_api_Slot_api_Slot_nil.f
  have h1 : IntKind.i64.wrap (0 - (([] : List api_Slot).length : Int)) = 0 := by decide
  have h2 : IntKind.i64.wrap ((n : Int) - 0) = (n : Int) := by rw [wrapZ (by omega) (by omega)]; omega
  have hB : 10000000 ≤ big := by decide
  rw [if_neg (by omega), h1, h2]
  by_cases h0 : (n : Int) > 0
  · rw [if_pos h0, if_pos ⟨h0, by simp; omega⟩, if_pos ⟨by simp, by simp⟩]; rfl
  · rw [if_neg h0]
theorem concat_eq {xss : List (List api_Slot)} (hn : xss.length ≤ 100) (h : ∀ x ∈ xss, x.length ≤ 1000) : slices_Concat_api_Slot_api_Slot.f xss = some xss.flatten := by
  unfold slices_Concat_api_Slot_api_Slot.f
  have h1 := concat_l0 hn h xss.length 0 0 (by omega) (by omega)
  have h2 := concat_l1 hn h xss.length 0 [] (by omega) (by simp)
  have h3 := flat_len_le h
  have h4 : xss.length * 1000 ≤ 100 * 1000 := Nat.mul_le_mul_right _ hn
  rw [show ((0 : Nat) : Int) = 0 from rfl, List.drop_zero, Nat.zero_add] at h1
  rw [show ((0 : Nat) : Int) = 0 from rfl, List.drop_zero, List.nil_append] at h2
  rw [h1, bsome, grow_eq (by omega), bsome, h2, bsome]
end Go.Proofs.YtmegdednaimgcaaDoor.Ss
namespace Go.Proofs.YtmegdednaimgcaaDoor.Ss
open Go Go.Proofs.YtmegdednaimgcaaDoor.Ab Go.Proofs.YtmegdednaimgcaaDoor.TT
structure Kept (a m : step_machine) : Prop where
  code : m.s_.Code = a.s_.Code
  mem : m.s_.Mem.length = a.s_.Mem.length
  st : m.s_.Stack.length ≤ a.s_.Stack.length + 1
  out : m.s_.Out = a.s_.Out ∨ ∃ x, m.s_.Out = a.s_.Out ++ [x]
theorem kept_bind {a : step_machine} {e : Option (step_machine × Int)} (h : ∃ m p, e = some (m, p) ∧ Kept a m) : ∃ m, (e >>= fun o => match o with | (x28, x29) => some (⟨x28.l_, ⟨⟨x29, x28.s_.Pc.L⟩, x28.s_.Code, x28.s_.Mem, x28.s_.Stack, x28.s_.Out⟩, x28.x_, x28.a_, x28.b_, x28.r_, x28.below_, x28.one_⟩ : step_machine)) = some m ∧ Kept a m := by
  obtain ⟨m, p, h1, h2⟩ := h
  rw [h1, bsome]
  exact ⟨_, rfl, ⟨h2.code, h2.mem, h2.st, h2.out⟩⟩
theorem lCut_len {α : Type} {xs : List α} {b : Int} : (lCut xs 0 b).length ≤ xs.length := by
  simp [lCut]; omega
theorem does_m {m : step_machine} (hn : m.s_.Stack.length ≤ 900) (hm : m.s_.Mem.length ≤ 900) (ho : m.s_.Out.length ≤ 900) (lo : 0 ≤ m.below_) (hi : m.below_ ≤ (m.s_.Stack.length : Int)) (c : m.x_.Op = 5 ∨ m.x_.Op = 6 → okC m = true) (g : m.x_.Op = 9 → 0 ≤ m.x_.N ∧ m.x_.N ≤ m.below_) (v : Int) :
    ∃ r, step_machine_does.f m v = some r ∧ Kept m r := by
  have hc := lCut_len (xs := m.s_.Stack) (b := m.below_)
  have hB : 100000 ≤ big := by decide
  unfold step_machine_does.f
  rw [if_pos ⟨lo, hi⟩, clone_s (by omega), bsome]
  refine kept_bind ?_
  have hput : ∀ (x : Int), step_machine_put.f (⟨m.l_, ⟨m.s_.Pc, m.s_.Code, m.s_.Mem, lCut m.s_.Stack 0 m.below_, m.s_.Out⟩, m.x_, m.a_, m.b_, m.r_, m.below_, m.one_⟩ : step_machine) x v = some ⟨m.l_, ⟨m.s_.Pc, m.s_.Code, m.s_.Mem, lCut m.s_.Stack 0 m.below_ ++ [⟨false, x, v⟩], m.s_.Out⟩, m.x_, m.a_, m.b_, m.r_, m.below_, m.one_⟩ := fun x => put_m (show (lCut m.s_.Stack 0 m.below_).length ≤ 1000 by omega) x v
  have hst : ∀ x : Int, (lCut m.s_.Stack 0 m.below_ ++ [(⟨false, x, v⟩ : api_Slot)]).length ≤ m.s_.Stack.length + 1 := fun x => by simp only [List.length_append, List.length_singleton]; omega
  by_cases c1 : m.x_.Op = 1
  · rw [if_pos c1, hput, bsome]; exact ⟨_, _, rfl, ⟨rfl, rfl, hst _, .inl rfl⟩⟩
  rw [if_neg c1]
  by_cases c3 : m.x_.Op = 3
  · rw [if_pos c3, hput, bsome]; exact ⟨_, _, rfl, ⟨rfl, rfl, hst _, .inl rfl⟩⟩
  rw [if_neg c3]
  by_cases c4 : m.x_.Op = 4
  · rw [if_pos c4, hput, bsome]; exact ⟨_, _, rfl, ⟨rfl, rfl, hst _, .inl rfl⟩⟩
  rw [if_neg c4]
  by_cases c5 : m.x_.Op = 5
  · have k := of_decide_eq_true (c (.inl c5))
    rw [if_pos c5, mm_at k.1 k.2, bsome, hput, bsome]; exact ⟨_, _, rfl, ⟨rfl, rfl, hst _, .inl rfl⟩⟩
  rw [if_neg c5]
  by_cases c6 : m.x_.Op = 6
  · have k := of_decide_eq_true (c (.inr c6))
    rw [if_pos c6, clone_a (by omega), bsome, mm_at k.1 k.2, bsome]
    exact ⟨_, _, rfl, ⟨rfl, List.length_set, Nat.le_succ_of_le hc, .inl rfl⟩⟩
  rw [if_neg c6]
  by_cases c11 : m.x_.Op = 11
  · rw [if_pos c11, clone_a (by omega), bsome, if_pos (show (m.s_.Out.length + ([(⟨m.a_.V, v⟩ : api_Atom)] : List api_Atom).length) * 16 ≤ big by simp; omega)]
    exact ⟨_, _, rfl, ⟨rfl, rfl, Nat.le_succ_of_le hc, .inr ⟨_, rfl⟩⟩⟩
  rw [if_neg c11]
  by_cases c7 : m.x_.Op = 7
  · rw [if_pos c7]; exact ⟨_, _, rfl, ⟨rfl, rfl, Nat.le_succ_of_le hc, .inl rfl⟩⟩
  rw [if_neg c7]
  by_cases c8 : m.x_.Op = 8
  · rw [if_pos c8]
    split <;> exact ⟨_, _, rfl, ⟨rfl, rfl, Nat.le_succ_of_le hc, .inl rfl⟩⟩
  rw [if_neg c8]
  by_cases c9 : m.x_.Op = 9
  · obtain ⟨g0, g1⟩ := g c9
    have e : IntKind.i64.wrap (m.below_ - m.x_.N) = m.below_ - m.x_.N := wrapZ (by omega) (by omega)
    rw [if_pos c9, e, if_pos (by omega), if_pos (by omega), concat_eq (by simp) (by
      intro x hx
      simp only [List.mem_cons, List.not_mem_nil, or_false] at hx
      rcases hx with rfl | rfl | rfl <;> simp [lCut] <;> omega), bsome]
    refine ⟨_, _, rfl, ⟨rfl, rfl, ?_, .inl rfl⟩⟩
    simp [lCut]; omega
  rw [if_neg c9]
  by_cases c10 : m.x_.Op = 10
  · rw [if_pos c10]
    by_cases cn : m.x_.N = 1
    · rw [if_pos cn, hput, bsome]; exact ⟨_, _, rfl, ⟨rfl, rfl, hst _, .inl rfl⟩⟩
    · rw [if_neg cn]; exact ⟨_, _, rfl, ⟨rfl, rfl, Nat.le_succ_of_le hc, .inl rfl⟩⟩
  rw [if_neg c10]
  exact ⟨_, _, rfl, ⟨rfl, rfl, Nat.le_succ_of_le hc, .inl rfl⟩⟩
end Go.Proofs.YtmegdednaimgcaaDoor.Ss
namespace Go.Proofs.YtmegdednaimgcaaDoor.Ss
open Go Go.Proofs.YtmegdednaimgcaaDoor.Ab Go.Proofs.YtmegdednaimgcaaDoor.TT
theorem cond_any {l : api_Lattice} {U : List Nat} (h : Nm l U) {r labels : List Int} (hr : r.length ≤ 900) (hl : labels.length ≤ 900) : ∃ b q, judge_Cond.f l r labels = some (b, q) := by
  by_cases hm : mayS l U r labels false = 0
  · obtain ⟨hc, hR, h4, ha⟩ := mayS_zero hm
    obtain ⟨t, h1, h2, h3, _⟩ := right_wf hR
    obtain ⟨E, _⟩ := je_of h hc h4 ha
    subst h3
    exact ⟨_, _, cond_is h E h1 h2 hr hl hm⟩
  · exact ⟨_, _, cond_no h hr hl hm⟩
theorem label_any {l : api_Lattice} {U : List Nat} (h : Nm l U) {r labels : List Int} (hr : r.length ≤ 900) (hl : labels.length ≤ 900) : ∃ b q, judge_Label.f l r labels = some (b, q) := by
  by_cases hm : mayS l U r labels true = 0
  · obtain ⟨hc, hR, h4, ha⟩ := mayS_zero hm
    obtain ⟨t, h1, h2, h3, _⟩ := right_wf hR
    obtain ⟨E, _⟩ := je_of h hc h4 ha
    subst h3
    exact ⟨_, _, label_is h E h1 h2 hr hl hm⟩
  · exact ⟨_, _, label_no h hr hl hm⟩
end Go.Proofs.YtmegdednaimgcaaDoor.Ss
namespace Go.Proofs.YtmegdednaimgcaaDoor.Ss
open Go Go.Proofs.YtmegdednaimgcaaDoor.Ab Go.Proofs.YtmegdednaimgcaaDoor.TT
theorem ins_of {n : Int} {x : api_Instr} (h : insB n x = true) : (0 ≤ x.Op ∧ x.Op ≤ 12) ∧ (x.Op = 9 → 0 ≤ x.N ∧ x.N ≤ 3) := by
  unfold insB at h
  by_cases c1 : x.Op = 1
  · exact ⟨by omega, fun w => by omega⟩
  · rw [if_neg c1] at h
    obtain ⟨a, b, _, d⟩ := of_decide_eq_true h
    refine ⟨⟨a, b⟩, fun w => ?_⟩
    rw [if_neg (by omega), if_pos w] at d
    exact d
theorem plc_of {v : Int} (h : plaB v = true) : 0 ≤ v ∧ v ≤ 12 := by
  have := of_decide_eq_true h
  exact ⟨this.1, this.2⟩
structure RightS (n : Int) (s : api_State) : Prop where
  code : s.Code.length ≤ 12
  ins : ∀ x ∈ s.Code, insB n x = true
  pc : 0 ≤ s.Pc.V ∧ s.Pc.V ≤ 12
  mem : s.Mem.length ≤ 6
  stack : s.Stack.length ≤ 12
  out : s.Out.length ≤ 8
theorem rs_of {n : Int} {s : api_State} (h : rightS n s = true) : RightS n s := by
  unfold rightS at h
  simp only [Bool.and_eq_true] at h
  obtain ⟨⟨⟨⟨⟨⟨h1, h2⟩, h3⟩, ⟨h4, h5⟩, h6⟩, h7⟩, h8⟩, h9⟩ := h
  unfold rightB at h1
  rw [Bool.and_eq_true] at h1
  exact ⟨of_decide_eq_true h1.1, List.all_eq_true.1 h1.2, plc_of h2, of_decide_eq_true h4, of_decide_eq_true h5, of_decide_eq_true h6⟩
theorem RightS.sz {n : Int} {s : api_State} (h : RightS n s) : Sz s := ⟨by have := h.code; omega, by have := h.mem; omega, by have := h.stack; omega, by have := h.out; omega⟩
def K (l : api_Lattice) (s : api_State) (m : step_machine) (row : api_Row) : Option (Pn ⊕ (api_State × Int)) :=
  judge_Cond.f l row.May ([s.Pc.L, m.one_.x0_, m.one_.x1_, m.one_.x2_] : List Int) >>= fun y11 => if (!y11.1) = true then (some (.inl 2)) else (judge_Label.f l row.Res ([s.Pc.L, m.one_.x0_, m.one_.x1_, m.one_.x2_] : List Int) >>= fun y13 => judge_Label.f l row.Pc ([s.Pc.L, m.one_.x0_, m.one_.x1_, m.one_.x2_] : List Int) >>= fun y14 => step_machine_does.f m y13.1 >>= fun y15 => state_Right.f l (⟨⟨y15.s_.Pc.V, y14.1⟩, y15.s_.Code, y15.s_.Mem, y15.s_.Stack, y15.s_.Out⟩ : api_State) >>= fun y16 => step_need.f y16 >>= fun z17 => match z17 with | .inl p18 => some (.inl p18) | .inr y19 => some (.inr ((⟨⟨y15.s_.Pc.V, y14.1⟩, y15.s_.Code, y15.s_.Mem, y15.s_.Stack, y15.s_.Out⟩ : api_State), 0)))
def mach (l : api_Lattice) (s : api_State) (x : api_Instr) (y : Int) : step_machine := ⟨l, s, x, ⟨false, 0, 0⟩, ⟨false, 0, 0⟩, ⟨false, 0, 0⟩, 0, ⟨y, y, y⟩⟩
theorem code_at {n : Int} {s : api_State} (h : RightS n s) (h0 : s.Pc.V < (s.Code.length : Int)) : ∃ x, lAt s.Code s.Pc.V = some x ∧ x ∈ s.Code := by
  have p := h.pc
  have hlt : s.Pc.V.toNat < s.Code.length := by omega
  have e : s.Pc.V = ((s.Pc.V.toNat : Nat) : Int) := by omega
  refine ⟨s.Code[s.Pc.V.toNat], ?_, List.getElem_mem hlt⟩
  have := lAt_some (xs := s.Code) hlt
  rwa [← e] at this
inductive Way (l : api_Lattice) (s : api_State) : Prop where
  | off (h : ¬ s.Pc.V < (s.Code.length : Int)) (e : ∀ R, step_step.B l ⟨R⟩ s = some (.inl 3)) : Way l s
  | no (x : api_Instr) (hx : lAt s.Code s.Pc.V = some x) (h : s.Pc.V < (s.Code.length : Int)) (e : ∀ R, step_step.B l ⟨R⟩ s = some (.inl 3)) : Way l s
  | halt (x : api_Instr) (hx : lAt s.Code s.Pc.V = some x) (h : s.Pc.V < (s.Code.length : Int)) (e : ∀ R, step_step.B l ⟨R⟩ s = some (.inl 1)) : Way l s
  | go (x : api_Instr) (m : step_machine) (y : Int) (hx : lAt s.Code s.Pc.V = some x) (h : s.Pc.V < (s.Code.length : Int)) (op : 0 ≤ x.Op ∧ x.Op ≤ 12) (cn : x.Op = 9 → 0 ≤ x.N ∧ x.N ≤ 3) (hm : Fine (fun _ => True) (mach l s x y) m) (e : ∀ R, step_step.B l ⟨R⟩ s = (lAt R x.Op >>= fun r => K l s m r)) : Way l s
theorem way {l : api_Lattice} {U : List Nat} (h : Nm l U) (hc : chk l U = 0) {n : Int} {s : api_State} (z : RightS n s) : Way l s := by
  obtain ⟨y, _, hb⟩ := bot_prog h hc
  have hS := z.stack
  by_cases h0 : s.Pc.V < (s.Code.length : Int)
  · obtain ⟨x, ea, hm⟩ := code_at z h0
    obtain ⟨i0, i1⟩ := ins_of (z.ins x hm)
    obtain ⟨r, hr, hq⟩ := needs_a (P := fun _ => True) (a := mach l s x y) ⟨by show s.Stack.length ≤ 1000; omega, trivial, trivial, trivial, fun _ _ => trivial, fun _ _ => trivial, i0, fun _ => trivial, i1⟩
    have hB : ∀ R, step_step.B l ⟨R⟩ s = (match r with | .inl p7 => some (.inl p7) | .inr y8 => if y8.x_.Op = 12 then (some (.inl 1)) else (lAt R y8.x_.Op >>= fun y10 => K l s y8 y10) : Option (Pn ⊕ (api_State × Int))) := by
      intro R
      unfold step_step.B
      rw [need_p, bsome, decide_eq_true h0]
      show (lattice_Bottom.f l >>= _) = _
      rw [hb, bsome, ea, bsome]
      unfold mach at hr
      show (step_machine_needs.f (⟨l, s, x, ⟨false, 0, 0⟩, ⟨false, 0, 0⟩, ⟨false, 0, 0⟩, 0, ⟨(y : Int), (y : Int), (y : Int)⟩⟩ : step_machine) >>= _) = _
      rw [hr, bsome]
      cases r <;> rfl
    cases r with
    | inl p =>
      have hp : p = 3 := hq
      subst hp
      exact .no x ea h0 hB
    | inr m =>
      have hq : Fine (fun _ => True) (mach l s x y) m := hq
      have hx : m.x_ = x := hq.x
      by_cases h12 : x.Op = 12
      · refine .halt x ea h0 fun R => ?_
        rw [hB R]
        show (if m.x_.Op = 12 then _ else _) = _
        rw [hx, if_pos h12]
      · refine .go x m y ea h0 i0 i1 hq fun R => ?_
        rw [hB R]
        show (if m.x_.Op = 12 then _ else _) = _
        rw [hx, if_neg h12]
  · refine .off h0 fun R => ?_
    unfold step_step.B
    rw [need_p, bsome, decide_eq_false h0]; rfl
def Went (n : Int) (s : api_State) : Pn ⊕ (api_State × Int) → Prop
  | .inl p => p = 1 ∨ p = 2 ∨ p = 3
  | .inr (t, q) => q = 0 ∧ rightS n t = true ∧ t.Code = s.Code ∧ t.Mem.length = s.Mem.length ∧ t.Stack.length ≤ s.Stack.length + 1 ∧ (t.Out = s.Out ∨ ∃ x, t.Out = s.Out ++ [x])
theorem K_m {l : api_Lattice} {U : List Nat} (h : Nm l U) (hc : chk l U = 0) {n : Int} {s : api_State} (z : RightS n s) {x : api_Instr} {m : step_machine} {y : Int} (op : 0 ≤ x.Op ∧ x.Op ≤ 12) (cn : x.Op = 9 → 0 ≤ x.N ∧ x.N ≤ 3) (hm : Fine (fun _ => True) (mach l s x y) m) {row : api_Row} (h1 : row.May.length ≤ 900) (h2 : row.Res.length ≤ 900) (h3 : row.Pc.length ≤ 900) :
    ∃ r, K l s m row = some r ∧ Went (l.Up.length : Int) s r ∧ (∀ p, r = .inl p → p = 2 ∨ p = 3) := by
  have es : m.s_ = s := hm.s
  have ex : m.x_ = x := hm.x
  have zs := z.stack
  have zm := z.mem
  have zo := z.out
  have zc := z.code
  unfold K
  obtain ⟨b, q, e1⟩ := cond_any h (r := row.May) (labels := [s.Pc.L, m.one_.x0_, m.one_.x1_, m.one_.x2_]) h1 (by simp)
  rw [e1, bsome]
  cases b with
  | false => exact ⟨_, rfl, .inr (.inl rfl), fun p hp => by cases hp; exact .inl rfl⟩
  | true =>
    show ∃ r, (judge_Label.f l row.Res _ >>= _) = some r ∧ _
    obtain ⟨v, q2, e2⟩ := label_any h (r := row.Res) (labels := [s.Pc.L, m.one_.x0_, m.one_.x1_, m.one_.x2_]) h2 (by simp)
    obtain ⟨w, q3, e3⟩ := label_any h (r := row.Pc) (labels := [s.Pc.L, m.one_.x0_, m.one_.x1_, m.one_.x2_]) h3 (by simp)
    obtain ⟨r, e4, k⟩ := does_m (m := m) (by rw [es]; omega) (by rw [es]; omega) (by rw [es]; omega) hm.lo (by rw [es]; exact hm.hi) (fun w => by rw [ex] at w; exact hm.c w) (fun w => by rw [ex] at w ⊢; exact ⟨(cn w).1, hm.g w⟩) v
    have k1 : r.s_.Code = s.Code := by rw [k.code, es]
    have k2 : r.s_.Mem.length = s.Mem.length := by rw [k.mem, es]
    have k3 : r.s_.Stack.length ≤ s.Stack.length + 1 := by have := k.st; rw [es] at this; exact this
    have k4 : r.s_.Out = s.Out ∨ ∃ x, r.s_.Out = s.Out ++ [x] := by have := k.out; rw [es] at this; exact this
    have k5 : r.s_.Out.length ≤ 1000 := by
      rcases k4 with e | ⟨x, e⟩ <;> rw [e]
      · omega
      · rw [List.length_append, List.length_singleton]; omega
    rw [e2, bsome, e3, bsome, e4, bsome, right_s h hc (s := ⟨⟨r.s_.Pc.V, w⟩, r.s_.Code, r.s_.Mem, r.s_.Stack, r.s_.Out⟩) ⟨by show r.s_.Code.length ≤ 1000; rw [k1]; omega, by show r.s_.Mem.length ≤ 1000; omega, by show r.s_.Stack.length ≤ 1000; omega, k5⟩, bsome, need_p, bsome]
    cases hR : rightS (l.Up.length : Int) (⟨⟨r.s_.Pc.V, w⟩, r.s_.Code, r.s_.Mem, r.s_.Stack, r.s_.Out⟩ : api_State) with
    | false => exact ⟨_, rfl, .inr (.inr rfl), fun p hp => by cases hp; exact .inr rfl⟩
    | true => exact ⟨_, rfl, ⟨rfl, hR, k1, k2, k3, k4⟩, fun p hp => by cases hp⟩
theorem B_m {l : api_Lattice} {U : List Nat} (h : Nm l U) (hc : chk l U = 0) {n : Int} {s : api_State} (z : RightS n s) {R : List api_Row} (hF : Few R) (h13 : R.length = 13) : ∃ r, step_step.B l ⟨R⟩ s = some r ∧ Went (l.Up.length : Int) s r := by
  cases way h hc z with
  | off _ e => exact ⟨_, e R, .inr (.inr rfl)⟩
  | no x hx _ e => exact ⟨_, e R, .inr (.inr rfl)⟩
  | halt x hx _ e => exact ⟨_, e R, .inl rfl⟩
  | go x m y hx h0 op cn hm e =>
    have eo : x.Op = ((x.Op.toNat : Nat) : Int) := by omega
    have hlt : x.Op.toNat < R.length := by omega
    have hmem := List.getElem_mem hlt
    obtain ⟨r, e1, e2, _⟩ := K_m h hc z op cn hm (row := R[x.Op.toNat]) (by have := hF.may _ hmem; omega) (by have := hF.res _ hmem; omega) (by have := hF.pc _ hmem; omega)
    refine ⟨r, ?_, e2⟩
    rw [e R, eo, lAt_some hlt, bsome]; exact e1
end Go.Proofs.YtmegdednaimgcaaDoor.Ss
namespace Go.Proofs.YtmegdednaimgcaaDoor.Ss
open Go Go.Proofs.YtmegdednaimgcaaDoor.Ab Go.Proofs.YtmegdednaimgcaaDoor.TT
theorem same_atoms {x : List api_Atom} (hx : x.length ≤ 1000) : reticentref09_AtomsSame.f x x = some true := by
  unfold reticentref09_AtomsSame.f
  have : ∀ (d k : Nat), x.length = k + d → reticentref09_AtomsSame.l0 x x (k : Int) = some (.inr ()) := by
    intro d
    induction d with
    | zero => intro k h; rw [reticentref09_AtomsSame.l0, if_neg (by omega)]
    | succ d ih => intro k h; rw [reticentref09_AtomsSame.l0, if_pos (by omega), lAt_some (by omega), bsome, bsome, if_pos rfl, wS (by omega)]; exact ih (k + 1) (by omega)
  rw [if_pos rfl, show reticentref09_AtomsSame.l0 x x 0 = _ from this x.length 0 (by omega)]; rfl
theorem same_state {x : api_State} (z : Sz x) : reticentref09_Same.f x x = some true := by
  unfold reticentref09_Same.f
  have : ∀ (d k : Nat), x.Stack.length = k + d → reticentref09_Same.l0 x x (k : Int) = some (.inr ()) := by
    have hx := z.stack
    intro d
    induction d with
    | zero => intro k h; rw [reticentref09_Same.l0, if_neg (by omega)]
    | succ d ih => intro k h; rw [reticentref09_Same.l0, if_pos (by omega), lAt_some (by omega), bsome, bsome, if_pos rfl, wS (by omega)]; exact ih (k + 1) (by omega)
  rw [if_pos rfl, same_self z.code, bsome, if_neg (by decide), same_atoms z.mem, bsome, if_neg (by decide), same_atoms z.out, bsome, if_neg (by decide), decide_eq_true rfl, bsome, if_neg (by decide), show reticentref09_Same.l0 x x 0 = _ from this x.Stack.length 0 (by omega)]; rfl
noncomputable def mayO (l : api_Lattice) (U : List Nat) (R : List api_Row) (s : api_State) : Int := if chk l U = 0 then (if (chT R).2 = 0 then (if rightS (l.Up.length : Int) s = true then 0 else 1) else (chT R).2) else chk l U
def nilS : api_State := ⟨⟨0, 0⟩, [], [], [], []⟩
theorem one_no {l : api_Lattice} {U : List Nat} (h : Nm l U) {R : List api_Row} (hF : Few R) {s : api_State} (z : Sz s) (hm : mayO l U R s ≠ 0) : step_One.f l ⟨R⟩ s = some (nilS, 0, mayO l U R s) := by
  unfold mayO at hm ⊢
  unfold step_One.f
  rw [check_eq h, bsome]
  by_cases hc : chk l U = 0
  · rw [if_pos hc, if_pos hc, tcheck_eq hF, bsome]
    by_cases hT : (chT R).2 = 0
    · rw [if_pos hT, if_pos hT, right_s h hc z, bsome]
      rw [if_pos hc, if_pos hT] at hm
      cases hr : rightS (l.Up.length : Int) s with
      | false => rfl
      | true => rw [hr] at hm; exact absurd rfl hm
    · rw [if_neg hT, if_neg hT]; rfl
  · rw [if_neg hc, if_neg hc]; rfl
theorem mayO_zero {l : api_Lattice} {U : List Nat} {R : List api_Row} {s : api_State} (hm : mayO l U R s = 0) : chk l U = 0 ∧ (chT R).2 = 0 ∧ rightS (l.Up.length : Int) s = true := by
  unfold mayO at hm
  by_cases hc : chk l U = 0
  · rw [if_pos hc] at hm
    by_cases hT : (chT R).2 = 0
    · rw [if_pos hT] at hm
      cases hr : rightS (l.Up.length : Int) s with
      | false => rw [hr] at hm; cases hm
      | true => exact ⟨hc, hT, rfl⟩
    · rw [if_neg hT] at hm; exact absurd hm hT
  · rw [if_neg hc] at hm; exact absurd hm hc
theorem one_yes {l : api_Lattice} {U : List Nat} (h : Nm l U) {R : List api_Row} (hF : Few R) {s : api_State} (z : Sz s) (hm : mayO l U R s = 0) {r : Pn ⊕ (api_State × Int)} (hb : step_step.B l ⟨R⟩ s = some r) : step_One.f l ⟨R⟩ s = some ((finD s r).1, (finD s r).2, 0) := by
  obtain ⟨hc, hT, hr⟩ := mayO_zero hm
  unfold step_One.f step_step.f
  rw [check_eq h, bsome, if_pos hc, tcheck_eq hF, bsome, if_pos hT, right_s h hc z, bsome, hr, if_neg (by decide), hb, bsome, bsome]
structure Stays (n : Int) (s t : api_State) (q : Int) : Prop where
  right : rightS n t = true
  code : t.Code = s.Code
  mem : t.Mem.length = s.Mem.length
  out : t.Out = s.Out ∨ ∃ x, t.Out = s.Out ++ [x]
  st : t.Stack.length ≤ s.Stack.length + 1
  q : q = 0 ∨ (q = 1 ∨ q = 2 ∨ q = 3) ∧ t = s
theorem stays {n : Int} {s : api_State} (hr : rightS n s = true) {r : Pn ⊕ (api_State × Int)} (w : Went n s r) : Stays n s (finD s r).1 (finD s r).2 := by
  cases r with
  | inl p =>
    rcases w with rfl | rfl | rfl
    · exact ⟨hr, rfl, rfl, .inl rfl, Nat.le_succ _, .inr ⟨.inl rfl, rfl⟩⟩
    · exact ⟨hr, rfl, rfl, .inl rfl, Nat.le_succ _, .inr ⟨.inr (.inl rfl), rfl⟩⟩
    · exact ⟨hr, rfl, rfl, .inl rfl, Nat.le_succ _, .inr ⟨.inr (.inr rfl), rfl⟩⟩
  | inr p =>
    obtain ⟨t, q⟩ := p
    obtain ⟨h0, h1, h2, h3, h4, h5⟩ := w
    exact ⟨h1, h2, h3, h5, h4, .inl h0⟩
end Go.Proofs.YtmegdednaimgcaaDoor.Ss
namespace Go.Proofs.YtmegdednaimgcaaDoor.Ss
open Go Go.Proofs.YtmegdednaimgcaaDoor.Ab Go.Proofs.YtmegdednaimgcaaDoor.TT
theorem alive11 : reticentlaw11_alive.f = some true := reticentlaw11_alive.f_le 60 _ (by kernel_rfl)
structure StepOk (l : api_Lattice) (R : List api_Row) (st : api_State → api_State × Int) (G : api_State → Prop) : Prop where
  one : ∀ s, G s → step_One.f l ⟨R⟩ s = some ((st s).1, (st s).2, 0)
  next : ∀ s, G s → G (st s).1
  sz : ∀ s, G s → Sz s
theorem step_ok {l : api_Lattice} {U : List Nat} (h : Nm l U) {R : List api_Row} (hF : Few R) (hc : chk l U = 0) (hT : (chT R).2 = 0) : ∃ st, StepOk l R st (fun s => rightS (l.Up.length : Int) s = true) := by
  refine ⟨fun s => match step_One.f l ⟨R⟩ s with | some (t, q, _) => (t, q) | none => (s, 3), ?_⟩
  have key : ∀ s, rightS (l.Up.length : Int) s = true → ∃ t q, step_One.f l ⟨R⟩ s = some (t, q, 0) ∧ rightS (l.Up.length : Int) t = true := by
    intro s hr
    have zr := rs_of hr
    have hm : mayO l U R s = 0 := by unfold mayO; rw [if_pos hc, if_pos hT, if_pos hr]
    obtain ⟨r, hb, w⟩ := B_m h hc zr hF (chT_zero hT).1
    exact ⟨_, _, one_yes h hF zr.sz hm hb, (stays hr w).right⟩
  refine ⟨fun s hs => ?_, fun s hs => ?_, fun s hs => (rs_of hs).sz⟩
  · obtain ⟨t, q, e, _⟩ := key s hs
    simp only [e]
  · obtain ⟨t, q, e, w⟩ := key s hs
    simp only [e]; exact w
def runL (st : api_State → api_State × Int) : Nat → api_State → List api_State × Int
  | 0, s => ([s], 0)
  | k + 1, s => if (st s).2 = 0 then (s :: (runL st k (st s).1).1, (runL st k (st s).1).2) else ([s], (st s).2)
section
variable {st : api_State → api_State × Int}
theorem runL_len : ∀ (k : Nat) (s : api_State), 1 ≤ (runL st k s).1.length ∧ (runL st k s).1.length ≤ k + 1
  | 0, s => ⟨Nat.le_refl _, Nat.le_refl _⟩
  | k + 1, s => by
    have := runL_len k (st s).1
    unfold runL
    split
    · simp only [List.length_cons]; omega
    · simp only [List.length_singleton]; omega
theorem runL_all {G : api_State → Prop} (hn : ∀ s, G s → G (st s).1) : ∀ (k : Nat) (s : api_State), G s → ∀ x ∈ (runL st k s).1, G x
  | 0, s, h, x, hx => by
    obtain rfl := List.mem_singleton.1 hx
    exact h
  | k + 1, s, h, x, hx => by
    unfold runL at hx
    split at hx
    · rcases List.mem_cons.1 hx with rfl | hx
      · exact h
      · exact runL_all hn k _ (hn s h) x hx
    · obtain rfl := List.mem_singleton.1 hx
      exact h
theorem runL_stop : ∀ (a : Nat) (s : api_State), (runL st a s).2 ≠ 0 → ∀ b, runL st (a + b) s = runL st a s
  | 0, s, h, b => absurd rfl h
  | a + 1, s, h, b => by
    rw [Nat.succ_add]
    unfold runL at h ⊢
    by_cases q : (st s).2 = 0
    · rw [if_pos q] at h ⊢
      rw [if_pos q, runL_stop a (st s).1 h b]
    · rw [if_neg q, if_neg q]
theorem runL_go : ∀ (a : Nat) (s : api_State), (runL st a s).2 = 0 → ∃ pre t, pre.length = a ∧ (runL st a s).1 = pre ++ [t] ∧ ∀ b, runL st (a + b) s = (pre ++ (runL st b t).1, (runL st b t).2)
  | 0, s, h => ⟨[], s, rfl, rfl, fun b => by rw [Nat.zero_add]; rfl⟩
  | a + 1, s, h => by
    unfold runL at h
    by_cases q : (st s).2 = 0
    · rw [if_pos q] at h
      obtain ⟨pre, t, h1, h2, h3⟩ := runL_go a (st s).1 h
      refine ⟨s :: pre, t, by simp [h1], ?_, fun b => ?_⟩
      · unfold runL
        rw [if_pos q, h2]; rfl
      · rw [Nat.succ_add]
        show (if (st s).2 = 0 then _ else _) = _
        rw [if_pos q, h3 b]; rfl
    · rw [if_neg q] at h; exact absurd h q
end
theorem yield_eq {w : Int} {acc : List api_State} (h : acc.length ≤ 1000) (x : api_State) (q : Int) : yOf run_Run.y0 ((w, acc), 0) x q = some (true, ((q, acc ++ [x]), 0)) := by
  have hB : 200000 ≤ big := by decide
  show run_Run.y0 (w, acc) x q = _
  unfold run_Run.y0
  rw [if_pos (by simp; omega)]
section
variable {l : api_Lattice} {R : List api_Row} {st : api_State → api_State × Int} {G : api_State → Prop} (K : StepOk l R st G)
include K
theorem states_l0 {k : Nat} (hk : k ≤ 900) : ∀ (d i : Nat) (s : api_State) (w : Int) (acc : List api_State), G s → k = i + d → acc.length ≤ i →
    (run_states_1.l0 (yOf run_Run.y0) (k : Int) l ⟨R⟩ s ((w, acc), 0) (i : Int) >>= fun o => match o with | .inl r => some r | .inr (x22, x23) => yOf run_Run.y0 x23 x22 0 >>= fun y43 => some y43.2) = some (((runL st d s).2, acc ++ (runL st d s).1), 0)
  | 0, i, s, w, acc, hs, e, ha => by
    rw [run_states_1.l0, if_neg (by omega), bsome]
    show (yOf run_Run.y0 ((w, acc), 0) s 0 >>= _) = _
    rw [yield_eq (by omega), bsome]; rfl
  | d + 1, i, s, w, acc, hs, e, ha => by
    rw [run_states_1.l0, if_pos (by omega)]
    show ((step_One.f l ⟨R⟩ s >>= _) >>= _) = _
    rw [K.one s hs, bsome]
    show (((yOf run_Run.y0 ((w, acc), 0) s (st s).2 >>= _) >>= _) >>= _) = _
    rw [yield_eq (by omega), bsome]
    show (((if (!true) = true then _ else _) >>= _) >>= _) = _
    rw [if_neg (show ¬ (!true) = true by decide), bsome]
    by_cases q : (st s).2 = 0
    · have hq : runL st (d + 1) s = (s :: (runL st d (st s).1).1, (runL st d (st s).1).2) := by
        show (if (st s).2 = 0 then _ else _) = _
        rw [if_pos q]
      show ((if (!decide ((st s).2 = 0)) = true then _ else run_states_1.l0 (yOf run_Run.y0) (k : Int) l ⟨R⟩ (st s).1 (((st s).2, acc ++ [s]), 0) (IntKind.i64.wrap ((i : Int) + 1))) >>= _) = _
      rw [decide_eq_true q, if_neg (by decide), wS (by omega), states_l0 hk d (i + 1) (st s).1 _ _ (K.next s hs) (by omega) (by simp; omega), hq]
      simp
    · have hq : runL st (d + 1) s = ([s], (st s).2) := by
        show (if (st s).2 = 0 then _ else _) = _
        rw [if_neg q]
      show ((if (!decide ((st s).2 = 0)) = true then some (Sum.inl (((st s).2, acc ++ [s]), 0)) else _) >>= _) = _
      rw [decide_eq_false q, if_pos (by decide), bsome, hq]
theorem run_eq {s : api_State} (hs : G s) {k : Nat} (hk : k ≤ 40) : run_Run.f l ⟨R⟩ s (k : Int) = some ((runL st k s).1, (runL st k s).2, 0) := by
  unfold run_Run.f run_may.f
  rw [K.one s hs, bsome, if_pos rfl, if_neg (by omega), bsome, decide_eq_false (show ¬ (k : Int) > 40 by omega), if_neg (by decide), bsome, if_pos rfl]
  unfold run_states.f
  rw [bsome]
  show (run_states_1.f (yOf run_Run.y0) ((0, []), 0) (k : Int) l ⟨R⟩ s >>= _) = _
  have h := states_l0 K (k := k) (by omega) k 0 s 0 [] hs (by omega) (Nat.le_refl _)
  rw [show ((0 : Nat) : Int) = 0 from rfl] at h
  have h2 : run_states_1.f (yOf run_Run.y0) ((0, []), 0) (k : Int) l ⟨R⟩ s = some (((runL st k s).2, [] ++ (runL st k s).1), 0) := by
    refine Eq.trans ?_ h
    unfold run_states_1.f
    refine congrArg (fun F => run_states_1.l0 (yOf run_Run.y0) (k : Int) l ⟨R⟩ s ((0, []), 0) 0 >>= F) (funext fun o => ?_)
    rcases o with r | ⟨x22, x23⟩ <;> rfl
  rw [h2, bsome, if_pos rfl]; rfl
end
theorem run_no {l : api_Lattice} {U : List Nat} (h : Nm l U) {R : List api_Row} (hF : Few R) {s : api_State} (z : Sz s) (hm : mayO l U R s ≠ 0) (k : Int) : run_Run.f l ⟨R⟩ s k = some ([], 0, mayO l U R s) := by
  unfold run_Run.f run_may.f
  rw [one_no h hF z hm, bsome]
  show ((if mayO l U R s = 0 then _ else some (mayO l U R s)) >>= _) = _
  rw [if_neg hm, bsome, if_neg hm]
theorem same_list {xs : List api_State} (h : ∀ x ∈ xs, Sz x) (hl : xs.length ≤ 1000) : reticentlaw11_same.f xs xs = some true := by
  unfold reticentlaw11_same.f
  have : ∀ (d k : Nat), xs.length = k + d → reticentlaw11_same.l0 xs xs (k : Int) = some (.inr ()) := by
    intro d
    induction d with
    | zero => intro k h; rw [reticentlaw11_same.l0, if_neg (by omega)]
    | succ d ih =>
      intro k e
      rw [reticentlaw11_same.l0, if_pos (by omega), lAt_some (by omega), bsome, bsome, same_state (h _ (List.getElem_mem _)), bsome, if_neg (by decide), wS (by omega)]
      exact ih (k + 1) (by omega)
  rw [if_pos rfl, show reticentlaw11_same.l0 xs xs 0 = _ from this xs.length 0 (by omega)]; rfl
theorem mod20 {x : Int} (h : InR .i64 x) : ∃ o : Nat, o < 20 ∧ (IntKind.i64.wrap ((x.tmod 20) + 20)).tmod 20 = (o : Int) := by
  have h1 := Int.tmod_lt_of_pos x (b := 20) (by decide)
  have h2 : -20 < x.tmod 20 := by
    rcases Int.le_total 0 x with q | q
    · have := Int.tmod_nonneg (20 : Int) q; omega
    · have := Int.tmod_lt_of_pos (-x) (b := 20) (by decide)
      rw [Int.neg_tmod] at this; omega
  rw [wrapZ (by omega) (by omega)]
  have h3 := Int.tmod_nonneg (20 : Int) (show 0 ≤ x.tmod 20 + 20 by omega)
  have h4 := Int.tmod_lt_of_pos (x.tmod 20 + 20) (b := 20) (by decide)
  exact ⟨((x.tmod 20 + 20).tmod 20).toNat, by omega, by omega⟩
end Go.Proofs.YtmegdednaimgcaaDoor.Ss
namespace Go.Proofs.YtmegdednaimgcaaDoor.Ss
open Go Go.Proofs.YtmegdednaimgcaaDoor.Ab Go.Proofs.YtmegdednaimgcaaDoor.TT
theorem lCut_n {α : Type} {xs : List α} {n : Nat} : lCut xs 0 (n : Int) = xs.take n := by simp [lCut]
theorem lCut_d {α : Type} {xs : List α} {n : Nat} : lCut xs (n : Int) (xs.length : Int) = xs.drop n := by
  simp [lCut]
  exact List.take_of_length_le (by simp)
theorem parts {l : api_Lattice} {t : api_Table} {s : api_State} {a b : Int} (hl : ∃ H cs, (kR f_api_Lattice).reps H cs l) (ha : InR .i64 a) (hb : InR .i64 b) : reticentlaw11_RunParts.f l t s a b = some true := by
  obtain ⟨l', U, e, h⟩ := few_eq hl
  obtain ⟨S, es, z⟩ := cut_eq s
  obtain ⟨R0⟩ := t
  have hF := tfew_ok (R := R0)
  obtain ⟨m, hm20, em⟩ := mod20 ha
  obtain ⟨n, hn20, en⟩ := mod20 hb
  have emn : IntKind.i64.wrap ((m : Int) + (n : Int)) = ((m + n : Nat) : Int) := by rw [wrapZ (by omega) (by omega)]; omega
  unfold reticentlaw11_RunParts.f
  rw [e, bsome, tfew_eq, bsome, es, bsome, em, en, emn]
  generalize fewR R0 = R at hF
  by_cases hm : mayO l' U R S = 0
  · obtain ⟨hc, hT, hr⟩ := mayO_zero hm
    obtain ⟨st, K⟩ := step_ok h hF hc hT
    have hr' : rightS (l'.Up.length : Int) S = true := hr
    rw [run_eq K hr' (by omega), bsome, run_eq K hr' (by omega), bsome, if_pos rfl, if_pos rfl]
    have L1 := runL_len (st := st) m S
    have L2 := runL_len (st := st) (m + n) S
    have A1 : ∀ x ∈ (runL st m S).1, Sz x := fun x hx => K.sz x (runL_all K.next m S hr' x hx)
    have A2 : ∀ x ∈ (runL st (m + n) S).1, Sz x := fun x hx => K.sz x (runL_all K.next (m + n) S hr' x hx)
    -- the longer one begins as the shorter one
    have hpre : (runL st m S).1.length ≤ (runL st (m + n) S).1.length ∧ (runL st (m + n) S).1.take (runL st m S).1.length = (runL st m S).1 := by
      by_cases q : (runL st m S).2 = 0
      · obtain ⟨pre, t, h1, h2, h3⟩ := runL_go m S q
        have hb := h3 n
        obtain ⟨n1, _⟩ := runL_len (st := st) n t
        have hhd : ∃ r, (runL st n t).1 = t :: r := by
          cases n with
          | zero => exact ⟨[], rfl⟩
          | succ k =>
            unfold runL
            split
            · exact ⟨_, rfl⟩
            · exact ⟨_, rfl⟩
        obtain ⟨r, hrr⟩ := hhd
        rw [hb, h2, hrr]
        constructor
        · simp
        · show (pre ++ t :: r).take (pre ++ [t]).length = _
          rw [show pre ++ t :: r = (pre ++ [t]) ++ r by simp, List.take_left]
      · rw [runL_stop m S q n]
        exact ⟨Nat.le_refl _, List.take_of_length_le (Nat.le_refl _)⟩
    have g1 : ¬ ((runL st m S).1.length : Int) = 0 := by omega
    have g2 : ¬ ((runL st m S).1.length : Int) > IntKind.i64.wrap ((m : Int) + 1) := by rw [wS (by omega)]; omega
    have g3 : ¬ ((runL st (m + n) S).1.length : Int) < ((runL st m S).1.length : Int) := by omega
    show ((if ((runL st m S).1.length : Int) = 0 then some true else if ((runL st m S).1.length : Int) > IntKind.i64.wrap ((m : Int) + 1) then some true else if ((runL st (m + n) S).1.length : Int) < ((runL st m S).1.length : Int) then some true else if (0 : Int) ≤ ((runL st m S).1.length : Int) ∧ ((runL st m S).1.length : Int) ≤ ((runL st (m + n) S).1.length : Int) then (reticentlaw11_same.f (lCut (runL st (m + n) S).1 0 ((runL st m S).1.length : Int)) (runL st m S).1 >>= _) else none) >>= _) = _
    rw [if_neg g1, if_neg g2, if_neg g3, if_pos (by omega), lCut_n, hpre.2, same_list A1 (by omega), bsome, if_neg (show ¬ (!true) = true by decide), alive11, bsome, bsome, if_neg (show ¬ (!true) = true by decide)]
    show (if (runL st m S).2 = 0 then _ else _) = _
    by_cases q : (runL st m S).2 = 0
    · rw [if_pos q]
      obtain ⟨pre, t, h1, h2, h3⟩ := runL_go m S q
      have hb := h3 n
      have ht : rightS (l'.Up.length : Int) t = true := runL_all K.next m S hr' t (by rw [h2]; simp)
      have hlast : lAt (runL st m S).1 (IntKind.i64.wrap (((runL st m S).1.length : Int) - 1)) = some t := by
        rw [w1 (by omega), h2, lAt_last]
      show (lAt (runL st m S).1 (IntKind.i64.wrap (((runL st m S).1.length : Int) - 1)) >>= _) = _
      rw [hlast, bsome, run_eq K ht (by omega), bsome]
      have hl1 : ((runL st m S).1.length : Int) = IntKind.i64.wrap ((m : Int) + 1) := by
        rw [wS (by omega), h2]; simp [h1]
      have hl2 : (runL st n t).2 = (runL st (m + n) S).2 := by rw [hb]
      have hl3 : (runL st (m + n) S).1.drop m = (runL st n t).1 := by
        rw [hb]
        show (pre ++ (runL st n t).1).drop m = _
        rw [← h1, List.drop_left]
      have A3 : ∀ x ∈ (runL st n t).1, Sz x := fun x hx => K.sz x (runL_all K.next n t ht x hx)
      have L3 := runL_len (st := st) n t
      show ((if (0 : Int) = 0 then (if ((runL st m S).1.length : Int) = IntKind.i64.wrap ((m : Int) + 1) then (if (runL st n t).2 = (runL st (m + n) S).2 then (if (0 : Int) ≤ (m : Int) ∧ (m : Int) ≤ ((runL st (m + n) S).1.length : Int) then (reticentlaw11_same.f (lCut (runL st (m + n) S).1 (m : Int) ((runL st (m + n) S).1.length : Int)) (runL st n t).1 >>= _) else none) else _) else _) else _) >>= _) = _
      have hmL : m ≤ (runL st (m + n) S).1.length := by rw [hb]; simp [h1]
      rw [if_pos rfl, if_pos hl1, if_pos hl2, if_pos (by omega), lCut_d, hl3, same_list A3 (by omega)]; rfl
    · rw [if_neg q, runL_stop m S q n]
      show ((if (runL st m S).2 = (runL st m S).2 then some (decide (((runL st m S).1.length : Int) = ((runL st m S).1.length : Int))) else _) >>= _) = _
      rw [if_pos rfl, decide_eq_true rfl]; rfl
  · rw [run_no h hF z hm, bsome, run_no h hF z hm, bsome]
    show (if mayO l' U R S = 0 then _ else _) = _
    rw [if_neg hm, alive11, bsome, if_pos rfl, if_pos rfl]; rfl
end Go.Proofs.YtmegdednaimgcaaDoor.Ss
