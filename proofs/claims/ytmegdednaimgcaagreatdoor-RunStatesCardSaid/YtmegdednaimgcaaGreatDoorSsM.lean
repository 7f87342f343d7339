/- Ss1, Ss2, Ss3, Ss4, Ss5, Ss6, Ss7, Ss8, Ss9, Ss10, Ru1, So1, So2, So3, So4, So5, So6, Rs1, in one text. -/
import Derived.Test.YtmegdednaimgcaaGreatDoorSsb1
import Derived.Test.YtmegdednaimgcaaGreatDoorGTT
set_option linter.unusedVariables false
set_option linter.unusedSimpArgs false
set_option linter.unusedSectionVars false
namespace Go.Proofs.YtmegdednaimgcaaGreatDoor.Ss
open Go Go.Proofs.YtmegdednaimgcaaGreatDoor.Ab Go.Proofs.YtmegdednaimgcaaGreatDoor.TT
theorem need_p (b : Bool) : step_need.f b = some (if b = true then .inr () else .inl 3) := by
 unfold step_need.f
 cases b <;> rfl
def sl (S : List api_Slot) (d : Nat) : api_Slot := S.getD (S.length - 1 - d) ⟨true, 0, 0⟩
def okT (S : List api_Slot) (d : Nat) : Bool := decide (d < S.length) && !(sl S d).Ret
theorem sl_at {S : List api_Slot} {d : Nat} (h : d < S.length) : sl S d = S[S.length - 1 - d] := by
 unfold sl
 rw [List.getD_eq_getElem?_getD, List.getElem?_eq_getElem (by omega)]; rfl
theorem atom_m {m : step_machine} (hn : m.s_.Stack.length <= 1000) {d : Nat} (hd : d <= 1000) : step_machine_atom.f m (d : Int) = some (if okT m.s_.Stack d = true then .inr (m, sl m.s_.Stack d) else .inl 3) := by
 unfold step_machine_atom.f okT
 have e1 : IntKind.i64.wrap ((m.s_.Stack.length : Int) - 1) = (m.s_.Stack.length : Int) - 1 := wrapZ (by omega) (by omega)
 have e2 : IntKind.i64.wrap ((m.s_.Stack.length : Int) - 1 - (d : Int)) = (m.s_.Stack.length : Int) - 1 - (d : Int) := wrapZ (by omega) (by omega)
 rw [e1, e2]
 by_cases h : d < m.s_.Stack.length
 ·have e3 : (m.s_.Stack.length : Int) - 1 - (d : Int) = ((m.s_.Stack.length - 1 - d : Nat) : Int) := by omega
  rw [if_pos (by omega), e3, lAt_some (by omega), bsome, need_p, bsome, sl_at h, decide_eq_true h]
  cases hr : m.s_.Stack[m.s_.Stack.length - 1 - d].Ret <;> rfl
 ·rw [if_neg (by omega), need_p, bsome, decide_eq_false h]
  rfl
def firstM (m : step_machine) : step_machine := ⟨m.l_, m.s_, m.x_, sl m.s_.Stack 0, m.b_, m.r_, (m.s_.Stack.length : Int) - 1, ⟨(sl m.s_.Stack 0).L, m.one_.x1_, m.one_.x2_⟩⟩
theorem first_m {m : step_machine} (hn : m.s_.Stack.length <= 1000) : step_machine_first.f m = some (if okT m.s_.Stack 0 = true then .inr (firstM m) else .inl 3) := by
 unfold step_machine_first.f
 have h := atom_m hn (d := 0) (by omega)
 rw [show ((0 : Nat) : Int) = 0 from rfl] at h
 rw [h, bsome]
 have e1 : IntKind.i64.wrap ((m.s_.Stack.length : Int) - 1) = (m.s_.Stack.length : Int) - 1 := wrapZ (by omega) (by omega)
 cases okT m.s_.Stack 0 with
 | false => rfl
 | true =>
  show some (Sum.inr (⟨m.l_, m.s_, m.x_, sl m.s_.Stack 0, m.b_, m.r_, IntKind.i64.wrap ((m.s_.Stack.length : Int) - 1), ⟨(sl m.s_.Stack 0).L, m.one_.x1_, m.one_.x2_⟩⟩ : step_machine)) = _
  rw [e1]; rfl
def bothM (m : step_machine) : step_machine := ⟨m.l_, m.s_, m.x_, sl m.s_.Stack 0, sl m.s_.Stack 1, m.r_, (m.s_.Stack.length : Int) - 2, ⟨(sl m.s_.Stack 0).L, (sl m.s_.Stack 1).L, m.one_.x2_⟩⟩
theorem both_m {m : step_machine} (hn : m.s_.Stack.length <= 1000) : step_machine_both.f m = some (if okT m.s_.Stack 0 = true /\ okT m.s_.Stack 1 = true then .inr (bothM m) else .inl 3) := by
 unfold step_machine_both.f
 rw [first_m hn, bsome]
 cases h0 : okT m.s_.Stack 0 with
 | false => rfl
 | true =>
  have h := atom_m (m := firstM m) hn (d := 1) (by omega)
  rw [show ((1 : Nat) : Int) = 1 from rfl] at h
  show (step_machine_atom.f (firstM m) 1 >>= _) = _
  rw [h, bsome]
  show (match (if okT m.s_.Stack 1 = true then Sum.inr (firstM m, sl m.s_.Stack 1) else Sum.inl 3 : Pn ⊕ (step_machine × api_Slot)) with | .inl p5 => _ | .inr y6 => _) = _
  cases h1 : okT m.s_.Stack 1 with
  | false => rfl
  | true =>
   show some (Sum.inr (⟨m.l_, m.s_, m.x_, sl m.s_.Stack 0, sl m.s_.Stack 1, m.r_, IntKind.i64.wrap ((m.s_.Stack.length : Int) - 1 - 1), ⟨(sl m.s_.Stack 0).L, (sl m.s_.Stack 1).L, m.one_.x2_⟩⟩ : step_machine)) = _
   rw [wrapZ (by omega) (by omega), show (m.s_.Stack.length : Int) - 1 - 1 = (m.s_.Stack.length : Int) - 2 by omega]; rfl
end Go.Proofs.YtmegdednaimgcaaGreatDoor.Ss
namespace Go.Proofs.YtmegdednaimgcaaGreatDoor.Ss
open Go Go.Proofs.YtmegdednaimgcaaGreatDoor.Ab Go.Proofs.YtmegdednaimgcaaGreatDoor.TT
def okC (m : step_machine) : Bool := decide (0 <= m.a_.V /\ m.a_.V < (m.s_.Mem.length : Int))
theorem cell_m {m : step_machine} : step_machine_cell.f m = some (if okC m = true then .inr (m, m.a_.V) else .inl 3) := by
 unfold step_machine_cell.f okC
 by_cases h : 0 <= m.a_.V
 ·rw [if_pos h, need_p, bsome]
  by_cases q : m.a_.V < (m.s_.Mem.length : Int)
  ·rw [decide_eq_true q, decide_eq_true (show 0 <= m.a_.V /\ m.a_.V < (m.s_.Mem.length : Int) from ⟨h, q⟩)]; rfl
  ·rw [decide_eq_false q, decide_eq_false (show ¬ (0 <= m.a_.V /\ m.a_.V < (m.s_.Mem.length : Int)) from fun w => q w.2)]; rfl
 ·rw [if_neg (show ¬ m.a_.V >= 0 by omega), need_p, bsome, decide_eq_false (show ¬ (0 <= m.a_.V /\ m.a_.V < (m.s_.Mem.length : Int)) from fun w => h w.1)]; rfl
def mm (s : api_State) (v : Int) : api_Atom := s.Mem.getD v.toNat ⟨0, 0⟩
theorem mm_at {s : api_State} {v : Int} (h0 : 0 <= v) (h1 : v < (s.Mem.length : Int)) : lAt s.Mem v = some (mm s v) := by
 have e : v = ((v.toNat : Nat) : Int) := by omega
 have hlt : v.toNat < s.Mem.length := by omega
 unfold mm
 rw [List.getD_eq_getElem?_getD, List.getElem?_eq_getElem hlt]
 conv => lhs; rw [e]
 rw [lAt_some hlt]; rfl
def loadM (m : step_machine) : step_machine := ⟨m.l_, m.s_, m.x_, sl m.s_.Stack 0, m.b_, m.r_, (m.s_.Stack.length : Int) - 1, ⟨(sl m.s_.Stack 0).L, (mm m.s_ (sl m.s_.Stack 0).V).L, m.one_.x2_⟩⟩
theorem loads_m {m : step_machine} (hn : m.s_.Stack.length <= 1000) : step_machine_loads.f m = some (if okT m.s_.Stack 0 = true /\ okC (firstM m) = true then .inr (loadM m) else .inl 3) := by
 unfold step_machine_loads.f
 rw [first_m hn, bsome]
 cases h0 : okT m.s_.Stack 0 with
 | false => rfl
 | true =>
  show (step_machine_cell.f (firstM m) >>= _) = _
  rw [cell_m, bsome]
  cases h1 : okC (firstM m) with
  | false => rfl
  | true =>
   unfold okC at h1
   obtain ⟨a, b⟩ := of_decide_eq_true h1
   show (lAt m.s_.Mem (sl m.s_.Stack 0).V >>= _) = _
   rw [show lAt m.s_.Mem (sl m.s_.Stack 0).V = some (mm m.s_ (sl m.s_.Stack 0).V) from mm_at a b, bsome]; rfl
def storeM (m : step_machine) : step_machine := ⟨m.l_, m.s_, m.x_, sl m.s_.Stack 0, sl m.s_.Stack 1, m.r_, (m.s_.Stack.length : Int) - 2, ⟨(sl m.s_.Stack 0).L, (sl m.s_.Stack 1).L, (mm m.s_ (sl m.s_.Stack 0).V).L⟩⟩
theorem stores_m {m : step_machine} (hn : m.s_.Stack.length <= 1000) : step_machine_stores.f m = some (if (okT m.s_.Stack 0 = true /\ okT m.s_.Stack 1 = true) /\ okC (firstM m) = true then .inr (storeM m) else .inl 3) := by
 unfold step_machine_stores.f
 rw [both_m hn, bsome]
 by_cases h : okT m.s_.Stack 0 = true /\ okT m.s_.Stack 1 = true
 ·rw [if_pos h]
  show (step_machine_cell.f (bothM m) >>= _) = _
  rw [cell_m, bsome]
  have e : okC (bothM m) = okC (firstM m) := rfl
  rw [e]
  cases h1 : okC (firstM m) with
  | false => rw [if_neg (show ¬ ((okT m.s_.Stack 0 = true /\ okT m.s_.Stack 1 = true) /\ false = true) from fun w => by cases w.2)]; rfl
  | true =>
   rw [if_pos (show ((okT m.s_.Stack 0 = true /\ okT m.s_.Stack 1 = true) /\ true = true) from ⟨h, rfl⟩)]
   unfold okC at h1
   obtain ⟨a, b⟩ := of_decide_eq_true h1
   show (lAt m.s_.Mem (sl m.s_.Stack 0).V >>= _) = _
   rw [show lAt m.s_.Mem (sl m.s_.Stack 0).V = some (mm m.s_ (sl m.s_.Stack 0).V) from mm_at a b, bsome]; rfl
 ·rw [if_neg h, if_neg (show ¬ ((okT m.s_.Stack 0 = true /\ okT m.s_.Stack 1 = true) /\ okC (firstM m) = true) from fun w => h w.1)]
theorem goes_m {m : step_machine} (hn : m.s_.Stack.length <= 1000) : step_machine_goes.f m = some (if okT m.s_.Stack 0 = true /\ plaB (sl m.s_.Stack 0).V = true then .inr (firstM m) else .inl 3) := by
 unfold step_machine_goes.f
 rw [first_m hn, bsome]
 cases h0 : okT m.s_.Stack 0 with
 | false => rfl
 | true =>
  show (((if (sl m.s_.Stack 0).V >= 0 then (step_need.f (decide ((sl m.s_.Stack 0).V <= 12)) >>= _) else (step_need.f false >>= _)) : Option ((Pn ⊕ step_machine) ⊕ Unit)) >>= _) = _
  unfold plaB
  by_cases h : (sl m.s_.Stack 0).V >= 0
  ·rw [if_pos h, need_p, bsome]
   by_cases q : (sl m.s_.Stack 0).V <= 12
   ·rw [decide_eq_true q, decide_eq_true (show (sl m.s_.Stack 0).V >= 0 /\ (sl m.s_.Stack 0).V <= 12 from ⟨h, q⟩)]; rfl
   ·rw [decide_eq_false q, decide_eq_false (show ¬ ((sl m.s_.Stack 0).V >= 0 /\ (sl m.s_.Stack 0).V <= 12) from fun w => q w.2)]; rfl
  ·rw [if_neg h, need_p, bsome, decide_eq_false (show ¬ ((sl m.s_.Stack 0).V >= 0 /\ (sl m.s_.Stack 0).V <= 12) from fun w => h w.1)]; rfl
def frU (S : List api_Slot) : Nat -> Nat
 | 0 => 0
 | k + 1 => if (S.getD k ⟨true, 0, 0⟩).Ret = true then k + 1 else frU S k
theorem frU_le (S : List api_Slot) : ∀ k, frU S k <= k
 | 0 => Nat.le_refl _
 | k + 1 => by
  unfold frU
  split
  ·exact Nat.le_refl _
  ·exact Nat.le_succ_of_le (frU_le S k)
theorem ret_l {m : step_machine} (hn : m.s_.Stack.length <= 1000) : ∀ k, k <= m.s_.Stack.length -> step_machine_returns.l0 m (k : Int) = some (frU m.s_.Stack k : Int) /\ step_machine_returns.l1 m (k : Int) = some (frU m.s_.Stack k : Int)
 | 0, _ => by
  constructor
  ·rw [step_machine_returns.l0, if_neg (by omega), bsome, if_neg (by decide)]; rfl
  ·rw [step_machine_returns.l1, if_neg (by omega), bsome, if_neg (by decide)]; rfl
 | k + 1, h => by
  obtain ⟨i0, i1⟩ := ret_l hn k (by omega)
  have e : IntKind.i64.wrap (((k + 1 : Nat) : Int) - 1) = (k : Int) := by rw [wrapZ (by omega) (by omega)]; omega
  have g : m.s_.Stack.getD k ⟨true, 0, 0⟩ = m.s_.Stack[k] := by simp [show k < m.s_.Stack.length by omega]
  constructor
  ·rw [step_machine_returns.l0, if_pos (by omega), e, lAt_some (by omega), bsome, bsome]
   unfold frU
   rw [g]
   cases hr : m.s_.Stack[k].Ret with
   | true => rw [if_neg (show ¬ (!true) = true by decide), if_pos (show true = true from rfl)]
   | false => rw [if_pos (show (!false) = true from rfl), if_neg (show ¬ false = true by decide)]; exact i0
  ·rw [step_machine_returns.l1, if_pos (by omega), e, lAt_some (by omega), bsome, bsome]
   unfold frU
   rw [g]
   cases hr : m.s_.Stack[k].Ret with
   | true => rw [if_neg (show ¬ (!true) = true by decide), if_pos (show true = true from rfl)]
   | false => rw [if_pos (show (!false) = true from rfl), if_neg (show ¬ false = true by decide)]; exact i1
end Go.Proofs.YtmegdednaimgcaaGreatDoor.Ss
namespace Go.Proofs.YtmegdednaimgcaaGreatDoor.Ss
open Go Go.Proofs.YtmegdednaimgcaaGreatDoor.Ab Go.Proofs.YtmegdednaimgcaaGreatDoor.TT
def callB (S : List api_Slot) : Nat -> Nat -> Bool
 | _, 0 => true
 | i, k + 1 => okT S (1 + i) && callB S (i + 1) k
theorem callB_len {S : List api_Slot} : ∀ {k i : Nat}, callB S i (k + 1) = true -> 1 + i + k < S.length
 | 0, i, h => by
  unfold callB okT at h
  rw [Bool.and_eq_true, Bool.and_eq_true, decide_eq_true_eq] at h
  exact h.1.1
 | k + 1, i, h => by
  unfold callB at h
  rw [Bool.and_eq_true] at h
  have := callB_len h.2
  omega
theorem call_l {y m : step_machine} (hn : m.s_.Stack.length <= 1000) : ∀ k i : Nat, y.x_.N = ((i + k : Nat) : Int) -> i + k <= 900 ->
  step_machine_calls.l0 y m (i : Int) = some (if callB m.s_.Stack i k = true then .inr m else .inl (.inl 3))
 | 0, i, h, hb => by
  rw [step_machine_calls.l0, if_neg (by omega)]; rfl
 | k + 1, i, h, hb => by
  rw [step_machine_calls.l0, if_pos (by omega)]
  have e1 : IntKind.i64.wrap (1 + (i : Int)) = ((1 + i : Nat) : Int) := by rw [wrapZ (by omega) (by omega)]; omega
  have e2 : IntKind.i64.wrap ((i : Int) + 1) = ((i + 1 : Nat) : Int) := by rw [wrapZ (by omega) (by omega)]; omega
  rw [e1, atom_m hn (by omega), bsome]
  unfold callB
  cases h0 : okT m.s_.Stack (1 + i) with
  | false => rfl
  | true =>
   rw [Bool.true_and]
   show step_machine_calls.l0 y m (IntKind.i64.wrap ((i : Int) + 1)) = _
   rw [e2]
   exact call_l hn k (i + 1) (by omega) (by omega)
theorem calls_m {m : step_machine} (hn : m.s_.Stack.length <= 1000) {k : Nat} (hk : m.x_.N = (k : Int)) (hb : k <= 900) :
  step_machine_calls.f m = some (if (okT m.s_.Stack 0 = true /\ plaB (sl m.s_.Stack 0).V = true) /\ callB m.s_.Stack 0 k = true then .inr (firstM m) else .inl 3) := by
 unfold step_machine_calls.f
 rw [goes_m hn, bsome]
 by_cases h : okT m.s_.Stack 0 = true /\ plaB (sl m.s_.Stack 0).V = true
 ·rw [if_pos h]
  show (step_machine_calls.l0 (firstM m) (firstM m) 0 >>= _) = _
  have q := call_l (y := firstM m) (m := firstM m) hn k 0 (by rw [Nat.zero_add]; exact hk) (by omega)
  rw [show ((0 : Nat) : Int) = 0 from rfl] at q
  rw [q, bsome]
  show (match (if callB m.s_.Stack 0 k = true then .inr (firstM m) else .inl (.inl 3) : (Pn ⊕ step_machine) ⊕ step_machine) with | .inl r => some r | .inr x14 => some (.inr x14)) = _
  cases h1 : callB m.s_.Stack 0 k with
  | false => rw [if_neg (show ¬ ((okT m.s_.Stack 0 = true /\ plaB (sl m.s_.Stack 0).V = true) /\ false = true) from fun w => by cases w.2)]; rfl
  | true => rw [if_pos (show ((okT m.s_.Stack 0 = true /\ plaB (sl m.s_.Stack 0).V = true) /\ true = true) from ⟨h, rfl⟩)]; rfl
 ·rw [if_neg h, if_neg (show ¬ ((okT m.s_.Stack 0 = true /\ plaB (sl m.s_.Stack 0).V = true) /\ callB m.s_.Stack 0 k = true) from fun w => h w.1)]
def retM (m : step_machine) (k : Nat) : step_machine := ⟨m.l_, m.s_, m.x_, m.a_, m.b_, m.s_.Stack.getD (k - 1) ⟨true, 0, 0⟩, (k : Int) - 1, ⟨m.one_.x0_, (m.s_.Stack.getD (k - 1) ⟨true, 0, 0⟩).L, m.one_.x2_⟩⟩
theorem getD_is {S : List api_Slot} {k : Nat} (h : k < S.length) : S.getD k ⟨true, 0, 0⟩ = S[k] := by simp [h]
theorem ret_end {m : step_machine} (hn : m.s_.Stack.length <= 1000) {k : Nat} (hk : k <= m.s_.Stack.length) :
  (step_need.f (decide ((k : Int) > 0)) >>= fun z25 => match z25 with | .inl p26 => (some (.inl p26) : Option (Pn ⊕ step_machine)) | .inr y27 => lAt m.s_.Stack (IntKind.i64.wrap ((k : Int) - 1)) >>= fun y28 => some (.inr (⟨m.l_, m.s_, m.x_, m.a_, m.b_, y28, IntKind.i64.wrap ((k : Int) - 1), ⟨m.one_.x0_, y28.L, m.one_.x2_⟩⟩ : step_machine))) = some (if 0 < k then .inr (retM m k) else .inl 3) := by
 rw [need_p, bsome]
 by_cases h : 0 < k
 ·rw [decide_eq_true (show (k : Int) > 0 by omega), if_pos h]
  have e : IntKind.i64.wrap ((k : Int) - 1) = ((k - 1 : Nat) : Int) := by rw [wrapZ (by omega) (by omega)]; omega
  have e' : (k : Int) - 1 = ((k - 1 : Nat) : Int) := by omega
  show (lAt m.s_.Stack (IntKind.i64.wrap ((k : Int) - 1)) >>= _) = _
  rw [e, lAt_some (by omega), bsome]
  unfold retM
  rw [getD_is (by omega), e']
 ·rw [decide_eq_false (show ¬ (k : Int) > 0 by omega), if_neg h]; rfl
theorem returns_m {m : step_machine} (hn : m.s_.Stack.length <= 1000) :
  step_machine_returns.f m = some (if m.x_.N = 1 then (if okT m.s_.Stack 0 = true /\ 0 < frU m.s_.Stack (m.s_.Stack.length - 1) then .inr (retM (firstM m) (frU m.s_.Stack (m.s_.Stack.length - 1))) else .inl 3) else (if 0 < frU m.s_.Stack m.s_.Stack.length then .inr (retM m (frU m.s_.Stack m.s_.Stack.length)) else .inl 3)) := by
 unfold step_machine_returns.f
 by_cases h : m.x_.N = 1
 ·rw [if_pos h, if_pos h]
  have q := first_m (m := ⟨m.l_, m.s_, m.x_, m.a_, m.b_, m.r_, (m.s_.Stack.length : Int), m.one_⟩) hn
  rw [q, bsome]
  show (match (if okT m.s_.Stack 0 = true then .inr (firstM m) else .inl 3 : Pn ⊕ step_machine) with | .inl p3 => _ | .inr y4 => _) = _
  cases h0 : okT m.s_.Stack 0 with
  | false => rw [if_neg (show ¬ (false = true /\ 0 < frU m.s_.Stack (m.s_.Stack.length - 1)) from fun w => by cases w.1)]; rfl
  | true =>
   have hp : 0 < m.s_.Stack.length := by
    unfold okT at h0
    rw [Bool.and_eq_true, decide_eq_true_eq] at h0
    exact h0.1
   have e : (m.s_.Stack.length : Int) - 1 = ((m.s_.Stack.length - 1 : Nat) : Int) := by omega
   have hf := frU_le m.s_.Stack (m.s_.Stack.length - 1)
   show (step_machine_returns.l0 (firstM m) ((m.s_.Stack.length : Int) - 1) >>= _) = _
   rw [e, (ret_l (m := firstM m) hn (m.s_.Stack.length - 1) (show m.s_.Stack.length - 1 <= m.s_.Stack.length by omega)).1, bsome]
   have q := ret_end (m := firstM m) hn (k := frU m.s_.Stack (m.s_.Stack.length - 1)) (show _ <= m.s_.Stack.length by omega)
   refine Eq.trans q ?_
   simp only [true_and]
 ·rw [if_neg h, if_neg h, (ret_l hn m.s_.Stack.length (Nat.le_refl _)).2, bsome]
  exact ret_end hn (frU_le _ _)
end Go.Proofs.YtmegdednaimgcaaGreatDoor.Ss
namespace Go.Proofs.YtmegdednaimgcaaGreatDoor.Ss
open Go Go.Proofs.YtmegdednaimgcaaGreatDoor.Ab Go.Proofs.YtmegdednaimgcaaGreatDoor.TT
structure Fine (P : Int -> Prop) (a m : step_machine) : Prop where
 l : m.l_ = a.l_
 s : m.s_ = a.s_
 x : m.x_ = a.x_
 lo : 0 <= m.below_
 hi : m.below_ <= (a.s_.Stack.length : Int)
 o0 : P m.one_.x0_
 o1 : P m.one_.x1_
 o2 : P m.one_.x2_
 c : a.x_.Op = 5 ∨ a.x_.Op = 6 -> okC m = true
 g : a.x_.Op = 9 -> a.x_.N <= m.below_
structure Start (P : Int -> Prop) (a : step_machine) : Prop where
 n : a.s_.Stack.length <= 1000
 o0 : P a.one_.x0_
 o1 : P a.one_.x1_
 o2 : P a.one_.x2_
 st : ∀ x ∈ a.s_.Stack, P x.L
 me : ∀ x ∈ a.s_.Mem, P x.L
 op : 0 <= a.x_.Op /\ a.x_.Op <= 12
 im : a.x_.Op = 1 -> P a.x_.L
 cn : a.x_.Op = 9 -> 0 <= a.x_.N /\ a.x_.N <= 3
theorem sl_P {P : Int -> Prop} {S : List api_Slot} (h : ∀ x ∈ S, P x.L) {d : Nat} (k : okT S d = true) : P (sl S d).L := by
 unfold okT at k
 rw [Bool.and_eq_true, decide_eq_true_eq] at k
 rw [sl_at k.1]
 exact h _ (List.getElem_mem _)
theorem okT_lt {S : List api_Slot} {d : Nat} (k : okT S d = true) : d < S.length := by
 unfold okT at k
 rw [Bool.and_eq_true, decide_eq_true_eq] at k
 exact k.1
theorem mm_P {P : Int -> Prop} {m : step_machine} (h : ∀ x ∈ m.s_.Mem, P x.L) (k : okC m = true) : P (mm m.s_ m.a_.V).L := by
 unfold okC at k
 have k := of_decide_eq_true k
 have hlt : m.a_.V.toNat < m.s_.Mem.length := by omega
 unfold mm
 rw [List.getD_eq_getElem?_getD, List.getElem?_eq_getElem hlt]
 exact h _ (List.getElem_mem _)
theorem getD_P {P : Int -> Prop} {S : List api_Slot} (h : ∀ x ∈ S, P x.L) {k : Nat} (hk : k < S.length) : P (S.getD k ⟨true, 0, 0⟩).L := by
 rw [getD_is hk]
 exact h _ (List.getElem_mem _)
theorem fine_first {P : Int -> Prop} {a m : step_machine} (z : Start P a) (hm : m.l_ = a.l_ /\ m.s_ = a.s_ /\ m.x_ = a.x_ /\ m.one_ = a.one_) (k : okT a.s_.Stack 0 = true) (n5 : ¬ (a.x_.Op = 5 ∨ a.x_.Op = 6)) (n9 : a.x_.Op = 9 -> a.x_.N <= (a.s_.Stack.length : Int) - 1) : Fine P a (firstM m) := by
 obtain ⟨h1, h2, h3, h4⟩ := hm
 have hp := okT_lt k
 refine ⟨h1, h2, h3, ?_, ?_, ?_, ?_, ?_, fun w => absurd w n5, ?_⟩
 ·show 0 <= (m.s_.Stack.length : Int) - 1
  rw [h2]; omega
 ·show (m.s_.Stack.length : Int) - 1 <= _
  rw [h2]; omega
 ·show P (sl m.s_.Stack 0).L
  rw [h2]; exact sl_P z.st k
 ·show P m.one_.x1_
  rw [h4]; exact z.o1
 ·show P m.one_.x2_
  rw [h4]; exact z.o2
 ·intro w
  show a.x_.N <= (m.s_.Stack.length : Int) - 1
  rw [h2]; exact n9 w
theorem fine_both {P : Int -> Prop} {a m : step_machine} (z : Start P a) (hm : m.l_ = a.l_ /\ m.s_ = a.s_ /\ m.x_ = a.x_ /\ m.one_ = a.one_) (k : okT a.s_.Stack 0 = true) (k1 : okT a.s_.Stack 1 = true) (n5 : ¬ (a.x_.Op = 5 ∨ a.x_.Op = 6)) (n9 : a.x_.Op ≠ 9) : Fine P a (bothM m) := by
 obtain ⟨h1, h2, h3, h4⟩ := hm
 have hp := okT_lt k1
 refine ⟨h1, h2, h3, ?_, ?_, ?_, ?_, ?_, fun w => absurd w n5, fun w => absurd w n9⟩
 ·show 0 <= (m.s_.Stack.length : Int) - 2
  rw [h2]; omega
 ·show (m.s_.Stack.length : Int) - 2 <= _
  rw [h2]; omega
 ·show P (sl m.s_.Stack 0).L
  rw [h2]; exact sl_P z.st k
 ·show P (sl m.s_.Stack 1).L
  rw [h2]; exact sl_P z.st k1
 ·show P m.one_.x2_
  rw [h4]; exact z.o2
end Go.Proofs.YtmegdednaimgcaaGreatDoor.Ss
namespace Go.Proofs.YtmegdednaimgcaaGreatDoor.Ss
open Go Go.Proofs.YtmegdednaimgcaaGreatDoor.Ab Go.Proofs.YtmegdednaimgcaaGreatDoor.TT
def Ans (P : Int -> Prop) (a : step_machine) (e : Option (Pn ⊕ step_machine)) : Prop :=
 ∃ r, e = some r /\ (match r with | .inl p => p = 3 | .inr m => Fine P a m)
theorem ans_if {P : Int -> Prop} {a m : step_machine} {c : Prop} [Decidable c] {e : Option (Pn ⊕ step_machine)} (h : e = some (if c then .inr m else .inl 3)) (k : c -> Fine P a m) : Ans P a (e >>= fun z => match z with | .inl p => some (.inl p) | .inr y => some (.inr y)) := by
 rw [h, bsome]
 by_cases q : c
 ·rw [if_pos q]; exact ⟨_, rfl, k q⟩
 ·rw [if_neg q]; exact ⟨_, rfl, rfl⟩
def topM (a : step_machine) : step_machine := ⟨a.l_, a.s_, a.x_, a.a_, a.b_, a.r_, (a.s_.Stack.length : Int), a.one_⟩
theorem fine_ret {P : Int -> Prop} {a m : step_machine} (z : Start P a) (hm : m.l_ = a.l_ /\ m.s_ = a.s_ /\ m.x_ = a.x_) (o0 : P m.one_.x0_) (o2 : P m.one_.x2_) {k : Nat} (h0 : 0 < k) (hk : k <= a.s_.Stack.length) (n5 : ¬ (a.x_.Op = 5 ∨ a.x_.Op = 6)) (n9 : a.x_.Op ≠ 9) : Fine P a (retM m k) := by
 obtain ⟨h1, h2, h3⟩ := hm
 refine ⟨h1, h2, h3, ?_, ?_, o0, ?_, o2, fun w => absurd w n5, fun w => absurd w n9⟩
 ·show 0 <= (k : Int) - 1
  omega
 ·show (k : Int) - 1 <= _
  omega
 ·show P (m.s_.Stack.getD (k - 1) ⟨true, 0, 0⟩).L
  rw [h2]
  exact getD_P z.st (by omega)
theorem needs_a {P : Int -> Prop} {a : step_machine} (z : Start P a) : Ans P a (step_machine_needs.f a) := by
 have hn : (topM a).s_.Stack.length <= 1000 := z.n
 have hop := z.op
 have same : (topM a).l_ = a.l_ /\ (topM a).s_ = a.s_ /\ (topM a).x_ = a.x_ /\ (topM a).one_ = a.one_ := ⟨rfl, rfl, rfl, rfl⟩
 unfold step_machine_needs.f
 by_cases c0 : a.x_.Op = 0
 ·rw [if_pos c0]
  exact ⟨_, rfl, ⟨rfl, rfl, rfl, Int.natCast_nonneg _, Int.le_refl _, z.o0, z.o1, z.o2, fun w => by omega, fun w => by omega⟩⟩
 rw [if_neg c0]
 by_cases c12 : a.x_.Op = 12
 ·rw [if_pos c12]
  exact ⟨_, rfl, ⟨rfl, rfl, rfl, Int.natCast_nonneg _, Int.le_refl _, z.o0, z.o1, z.o2, fun w => by omega, fun w => by omega⟩⟩
 rw [if_neg c12]
 by_cases c1 : a.x_.Op = 1
 ·rw [if_pos c1]
  exact ⟨_, rfl, ⟨rfl, rfl, rfl, Int.natCast_nonneg _, Int.le_refl _, z.im c1, z.o1, z.o2, fun w => by omega, fun w => by omega⟩⟩
 rw [if_neg c1]
 by_cases c2 : a.x_.Op = 2
 ·rw [if_pos c2]
  exact ans_if (first_m (m := topM a) hn) (fun q => fine_first z same q (by omega) (by omega))
 rw [if_neg c2]
 by_cases c11 : a.x_.Op = 11
 ·rw [if_pos c11]
  exact ans_if (first_m (m := topM a) hn) (fun q => fine_first z same q (by omega) (by omega))
 rw [if_neg c11]
 by_cases c3 : a.x_.Op = 3
 ·rw [if_pos c3]
  exact ans_if (both_m (m := topM a) hn) (fun q => fine_both z same q.1 q.2 (by omega) (by omega))
 rw [if_neg c3]
 by_cases c4 : a.x_.Op = 4
 ·rw [if_pos c4]
  exact ans_if (both_m (m := topM a) hn) (fun q => fine_both z same q.1 q.2 (by omega) (by omega))
 rw [if_neg c4]
 by_cases c5 : a.x_.Op = 5
 ·rw [if_pos c5]
  refine ans_if (loads_m (m := topM a) hn) (fun q => ?_)
  have hp := okT_lt q.1
  refine ⟨rfl, rfl, rfl, ?_, ?_, sl_P z.st q.1, mm_P (m := firstM (topM a)) z.me q.2, z.o2, fun _ => q.2, fun w => by omega⟩
  ·show 0 <= (a.s_.Stack.length : Int) - 1
   have : 0 < a.s_.Stack.length := hp
   omega
  ·show (a.s_.Stack.length : Int) - 1 <= _
   omega
 rw [if_neg c5]
 by_cases c6 : a.x_.Op = 6
 ·rw [if_pos c6]
  refine ans_if (stores_m (m := topM a) hn) (fun q => ?_)
  have hp := okT_lt q.1.2
  refine ⟨rfl, rfl, rfl, ?_, ?_, sl_P z.st q.1.1, sl_P z.st q.1.2, mm_P (m := firstM (topM a)) z.me q.2, fun _ => q.2, fun w => by omega⟩
  ·show 0 <= (a.s_.Stack.length : Int) - 2
   have : 1 < a.s_.Stack.length := hp
   omega
  ·show (a.s_.Stack.length : Int) - 2 <= _
   omega
 rw [if_neg c6]
 by_cases c7 : a.x_.Op = 7
 ·rw [if_pos c7]
  exact ans_if (goes_m (m := topM a) hn) (fun q => fine_first z same q.1 (by omega) (by omega))
 rw [if_neg c7]
 by_cases c8 : a.x_.Op = 8
 ·rw [if_pos c8]
  exact ans_if (first_m (m := topM a) hn) (fun q => fine_first z same q (by omega) (by omega))
 rw [if_neg c8]
 by_cases c9 : a.x_.Op = 9
 ·rw [if_pos c9]
  obtain ⟨q0, q3⟩ := z.cn c9
  have e : (topM a).x_.N = ((a.x_.N.toNat : Nat) : Int) := by show a.x_.N = _; omega
  refine ans_if (calls_m (m := topM a) hn e (by omega)) (fun q => fine_first z same q.1.1 (by omega) (fun _ => ?_))
  have hp : 0 < a.s_.Stack.length := okT_lt q.1.1
  cases hN : a.x_.N.toNat with
  | zero => omega
  | succ k =>
   have q2 := q.2
   rw [hN] at q2
   have : 1 + 0 + k < a.s_.Stack.length := callB_len q2
   omega
 rw [if_neg c9]
 have c10 : a.x_.Op = 10 := by omega
 rw [if_pos c10]
 have r := returns_m (m := topM a) hn
 by_cases cN : (topM a).x_.N = 1
 ·rw [if_pos cN] at r
  refine ans_if r (fun q => ?_)
  have hf := frU_le a.s_.Stack (a.s_.Stack.length - 1)
  exact fine_ret (m := firstM (topM a)) z ⟨rfl, rfl, rfl⟩ (sl_P z.st q.1) z.o2 q.2 (Nat.le_trans hf (Nat.sub_le _ _)) (by omega) (by omega)
 ·rw [if_neg cN] at r
  refine ans_if r (fun q => ?_)
  exact fine_ret (m := topM a) z ⟨rfl, rfl, rfl⟩ z.o0 z.o2 q (frU_le _ _) (by omega) (by omega)
end Go.Proofs.YtmegdednaimgcaaGreatDoor.Ss
namespace Go.Proofs.YtmegdednaimgcaaGreatDoor.Ss
open Go Go.Proofs.YtmegdednaimgcaaGreatDoor.Ab Go.Proofs.YtmegdednaimgcaaGreatDoor.TT
theorem clone_s {S : List api_Slot} (h : S.length <= 1000) : slices_Clone_api_Slot_api_Slot_nn.f S = some S := by
 have hB : 100000 <= big := by decide
 unfold slices_Clone_api_Slot_api_Slot_nn.f
 rw [if_pos (show (([] : List api_Slot).length + S.length) * 24 <= big by simp; omega)]; rfl
theorem clone_a {S : List api_Atom} (h : S.length <= 1000) : slices_Clone_api_Atom_api_Atom_nn.f S = some S := by
 have hB : 100000 <= big := by decide
 unfold slices_Clone_api_Atom_api_Atom_nn.f
 rw [if_pos (show (([] : List api_Atom).length + S.length) * 16 <= big by simp; omega)]; rfl
theorem put_m {m : step_machine} (h : m.s_.Stack.length <= 1000) (v l : Int) : step_machine_put.f m v l = some ⟨m.l_, ⟨m.s_.Pc, m.s_.Code, m.s_.Mem, m.s_.Stack ++ [⟨false, v, l⟩], m.s_.Out⟩, m.x_, m.a_, m.b_, m.r_, m.below_, m.one_⟩ := by
 have hB : 100000 <= big := by decide
 unfold step_machine_put.f
 rw [if_pos (show (m.s_.Stack.length + ([(⟨false, v, l⟩ : api_Slot)] : List api_Slot).length) * 24 <= big by simp; omega)]
theorem flat_len_le {xss : List (List api_Slot)} (h : ∀ x ∈ xss, x.length <= 1000) : xss.flatten.length <= xss.length * 1000 := by
 induction xss with
 | nil => simp
 | cons a r ih =>
  have ha := h a (by simp)
  have := ih (fun x hx => h x (by simp [hx]))
  simp only [List.flatten_cons, List.length_append, List.length_cons, Nat.succ_mul]
  omega
theorem concat_l0 {xss : List (List api_Slot)} (hn : xss.length <= 100) (h : ∀ x ∈ xss, x.length <= 1000) : ∀ (d k : Nat) (v : Nat), xss.length = k + d -> v <= k * 1000 -> slices_Concat_api_Slot_api_Slot.l0 xss (k : Int) (v : Int) = some ((v + (xss.drop k).flatten.length : Nat) : Int)
 | 0, k, v, e, hv => by
  rw [slices_Concat_api_Slot_api_Slot.l0, if_neg (by omega), List.drop_of_length_le (by omega)]; simp
 | d + 1, k, v, e, hv => by
  have hk : k < xss.length := by omega
  have hx := h xss[k] (List.getElem_mem hk)
  have ih := concat_l0 hn h d (k + 1) (v + xss[k].length) (by omega) (by rw [Nat.succ_mul]; omega)
  have hw : IntKind.i64.wrap ((v : Int) + (xss[k].length : Int)) = ((v + xss[k].length : Nat) : Int) := by rw [wrapZ (by omega) (by omega)]; omega
  rw [slices_Concat_api_Slot_api_Slot.l0, if_pos (by omega), lAt_some hk, bsome, hw, if_neg (by omega), bsome, wS (by omega), ih, List.drop_eq_getElem_cons hk]
  simp only [List.flatten_cons, List.length_append]
  rw [Nat.add_assoc]
theorem concat_l1 {xss : List (List api_Slot)} (hn : xss.length <= 100) (h : ∀ x ∈ xss, x.length <= 1000) : ∀ (d k : Nat) (v : List api_Slot), xss.length = k + d -> v.length <= k * 1000 -> slices_Concat_api_Slot_api_Slot.l1 xss v (k : Int) = some (v ++ (xss.drop k).flatten)
 | 0, k, v, e, hv => by
  rw [slices_Concat_api_Slot_api_Slot.l1, if_neg (by omega), List.drop_of_length_le (by omega)]; simp
 | d + 1, k, v, e, hv => by
  have hk : k < xss.length := by omega
  have hx := h xss[k] (List.getElem_mem hk)
  have hB : 10000000 <= big := by decide
  have ih := concat_l1 hn h d (k + 1) (v ++ xss[k]) (by omega) (by rw [Nat.succ_mul]; simp; omega)
  rw [slices_Concat_api_Slot_api_Slot.l1, if_pos (by omega), lAt_some hk, bsome, if_pos (by omega), wS (by omega), ih, List.drop_eq_getElem_cons hk]
  simp only [List.flatten_cons, List.append_assoc]
theorem grow_eq {n : Nat} (h : n <= 100000) : slices_Grow_api_Slot_api_Slot_nil.f (n : Int) = some [] := by
 unfold slices_Grow_api_Slot_api_Slot_nil.f
 have h1 : IntKind.i64.wrap (0 - (([] : List api_Slot).length : Int)) = 0 := by decide
 have h2 : IntKind.i64.wrap ((n : Int) - 0) = (n : Int) := by rw [wrapZ (by omega) (by omega)]; omega
 have hB : 10000000 <= big := by decide
 rw [if_neg (by omega), h1, h2]
 by_cases h0 : (n : Int) > 0
 ·rw [if_pos h0, if_pos ⟨h0, by simp; omega⟩, if_pos ⟨by simp, by simp⟩]; rfl
 ·rw [if_neg h0]
theorem concat_eq {xss : List (List api_Slot)} (hn : xss.length <= 100) (h : ∀ x ∈ xss, x.length <= 1000) : slices_Concat_api_Slot_api_Slot.f xss = some xss.flatten := by
 unfold slices_Concat_api_Slot_api_Slot.f
 have h1 := concat_l0 hn h xss.length 0 0 (by omega) (by omega)
 have h2 := concat_l1 hn h xss.length 0 [] (by omega) (by simp)
 have h3 := flat_len_le h
 have h4 : xss.length * 1000 <= 100 * 1000 := Nat.mul_le_mul_right _ hn
 rw [show ((0 : Nat) : Int) = 0 from rfl, List.drop_zero, Nat.zero_add] at h1
 rw [show ((0 : Nat) : Int) = 0 from rfl, List.drop_zero, List.nil_append] at h2
 rw [h1, bsome, grow_eq (by omega), bsome, h2, bsome]
end Go.Proofs.YtmegdednaimgcaaGreatDoor.Ss
namespace Go.Proofs.YtmegdednaimgcaaGreatDoor.Ss
open Go Go.Proofs.YtmegdednaimgcaaGreatDoor.Ab Go.Proofs.YtmegdednaimgcaaGreatDoor.TT
structure Kept (a m : step_machine) : Prop where
 code : m.s_.Code = a.s_.Code
 mem : m.s_.Mem.length = a.s_.Mem.length
 st : m.s_.Stack.length <= a.s_.Stack.length + 1
 out : m.s_.Out = a.s_.Out ∨ ∃ x, m.s_.Out = a.s_.Out ++ [x]
theorem kept_bind {a : step_machine} {e : Option (step_machine × Int)} (h : ∃ m p, e = some (m, p) /\ Kept a m) : ∃ m, (e >>= fun o => match o with | (x28, x29) => some (⟨x28.l_, ⟨⟨x29, x28.s_.Pc.L⟩, x28.s_.Code, x28.s_.Mem, x28.s_.Stack, x28.s_.Out⟩, x28.x_, x28.a_, x28.b_, x28.r_, x28.below_, x28.one_⟩ : step_machine)) = some m /\ Kept a m := by
 obtain ⟨m, p, h1, h2⟩ := h
 rw [h1, bsome]
 exact ⟨_, rfl, ⟨h2.code, h2.mem, h2.st, h2.out⟩⟩
theorem lCut_len {α : Type} {xs : List α} {b : Int} : (lCut xs 0 b).length <= xs.length := by
 simp [lCut]; omega
theorem does_m {m : step_machine} (hn : m.s_.Stack.length <= 900) (hm : m.s_.Mem.length <= 900) (ho : m.s_.Out.length <= 900) (lo : 0 <= m.below_) (hi : m.below_ <= (m.s_.Stack.length : Int)) (c : m.x_.Op = 5 ∨ m.x_.Op = 6 -> okC m = true) (g : m.x_.Op = 9 -> 0 <= m.x_.N /\ m.x_.N <= m.below_) (v : Int) :
  ∃ r, step_machine_does.f m v = some r /\ Kept m r := by
 have hc := lCut_len (xs := m.s_.Stack) (b := m.below_)
 have hB : 100000 <= big := by decide
 unfold step_machine_does.f
 rw [if_pos ⟨lo, hi⟩, clone_s (by omega), bsome]
 refine kept_bind ?_
 have hput : ∀ (x : Int), step_machine_put.f (⟨m.l_, ⟨m.s_.Pc, m.s_.Code, m.s_.Mem, lCut m.s_.Stack 0 m.below_, m.s_.Out⟩, m.x_, m.a_, m.b_, m.r_, m.below_, m.one_⟩ : step_machine) x v = some ⟨m.l_, ⟨m.s_.Pc, m.s_.Code, m.s_.Mem, lCut m.s_.Stack 0 m.below_ ++ [⟨false, x, v⟩], m.s_.Out⟩, m.x_, m.a_, m.b_, m.r_, m.below_, m.one_⟩ := fun x => put_m (show (lCut m.s_.Stack 0 m.below_).length <= 1000 by omega) x v
 have hst : ∀ x : Int, (lCut m.s_.Stack 0 m.below_ ++ [(⟨false, x, v⟩ : api_Slot)]).length <= m.s_.Stack.length + 1 := fun x => by simp only [List.length_append, List.length_singleton]; omega
 by_cases c1 : m.x_.Op = 1
 ·rw [if_pos c1, hput, bsome]; exact ⟨_, _, rfl, ⟨rfl, rfl, hst _, .inl rfl⟩⟩
 rw [if_neg c1]
 by_cases c3 : m.x_.Op = 3
 ·rw [if_pos c3, hput, bsome]; exact ⟨_, _, rfl, ⟨rfl, rfl, hst _, .inl rfl⟩⟩
 rw [if_neg c3]
 by_cases c4 : m.x_.Op = 4
 ·rw [if_pos c4, hput, bsome]; exact ⟨_, _, rfl, ⟨rfl, rfl, hst _, .inl rfl⟩⟩
 rw [if_neg c4]
 by_cases c5 : m.x_.Op = 5
 ·have k := of_decide_eq_true (c (.inl c5))
  rw [if_pos c5, mm_at k.1 k.2, bsome, hput, bsome]; exact ⟨_, _, rfl, ⟨rfl, rfl, hst _, .inl rfl⟩⟩
 rw [if_neg c5]
 by_cases c6 : m.x_.Op = 6
 ·have k := of_decide_eq_true (c (.inr c6))
  rw [if_pos c6, clone_a (by omega), bsome, mm_at k.1 k.2, bsome]
  exact ⟨_, _, rfl, ⟨rfl, List.length_set, Nat.le_succ_of_le hc, .inl rfl⟩⟩
 rw [if_neg c6]
 by_cases c11 : m.x_.Op = 11
 ·rw [if_pos c11, clone_a (by omega), bsome, if_pos (show (m.s_.Out.length + ([(⟨m.a_.V, v⟩ : api_Atom)] : List api_Atom).length) * 16 <= big by simp; omega)]
  exact ⟨_, _, rfl, ⟨rfl, rfl, Nat.le_succ_of_le hc, .inr ⟨_, rfl⟩⟩⟩
 rw [if_neg c11]
 by_cases c7 : m.x_.Op = 7
 ·rw [if_pos c7]; exact ⟨_, _, rfl, ⟨rfl, rfl, Nat.le_succ_of_le hc, .inl rfl⟩⟩
 rw [if_neg c7]
 by_cases c8 : m.x_.Op = 8
 ·rw [if_pos c8]
  split <;> exact ⟨_, _, rfl, ⟨rfl, rfl, Nat.le_succ_of_le hc, .inl rfl⟩⟩
 rw [if_neg c8]
 by_cases c9 : m.x_.Op = 9
 ·obtain ⟨g0, g1⟩ := g c9
  have e : IntKind.i64.wrap (m.below_ - m.x_.N) = m.below_ - m.x_.N := wrapZ (by omega) (by omega)
  rw [if_pos c9, e, if_pos (by omega), if_pos (by omega), concat_eq (by simp) (by
   intro x hx
   simp only [List.mem_cons, List.not_mem_nil, or_false] at hx
   rcases hx with rfl | rfl | rfl <;> simp [lCut] <;> omega), bsome]
  refine ⟨_, _, rfl, ⟨rfl, rfl, ?_, .inl rfl⟩⟩
  simp [lCut]; omega
 rw [if_neg c9]
 by_cases c10 : m.x_.Op = 10
 ·rw [if_pos c10]
  by_cases cn : m.x_.N = 1
  ·rw [if_pos cn, hput, bsome]; exact ⟨_, _, rfl, ⟨rfl, rfl, hst _, .inl rfl⟩⟩
  ·rw [if_neg cn]; exact ⟨_, _, rfl, ⟨rfl, rfl, Nat.le_succ_of_le hc, .inl rfl⟩⟩
 rw [if_neg c10]
 exact ⟨_, _, rfl, ⟨rfl, rfl, Nat.le_succ_of_le hc, .inl rfl⟩⟩
end Go.Proofs.YtmegdednaimgcaaGreatDoor.Ss
namespace Go.Proofs.YtmegdednaimgcaaGreatDoor.Ss
open Go Go.Proofs.YtmegdednaimgcaaGreatDoor.Ab Go.Proofs.YtmegdednaimgcaaGreatDoor.TT
theorem cond_any {l : api_Lattice} {U : List Nat} (h : Nm l U) {r labels : List Int} (hr : r.length <= 900) (hl : labels.length <= 900) : ∃ b q, judge_Cond.f l r labels = some (b, q) := by
 by_cases hm : mayS l U r labels false = 0
 ·obtain ⟨hc, hR, h4, ha⟩ := mayS_zero hm
  obtain ⟨t, h1, h2, h3, _⟩ := right_wf hR
  obtain ⟨E, _⟩ := je_of h hc h4 ha
  subst h3
  exact ⟨_, _, cond_is h E h1 h2 hr hl hm⟩
 ·exact ⟨_, _, cond_no h hr hl hm⟩
theorem label_any {l : api_Lattice} {U : List Nat} (h : Nm l U) {r labels : List Int} (hr : r.length <= 900) (hl : labels.length <= 900) : ∃ b q, judge_Label.f l r labels = some (b, q) := by
 by_cases hm : mayS l U r labels true = 0
 ·obtain ⟨hc, hR, h4, ha⟩ := mayS_zero hm
  obtain ⟨t, h1, h2, h3, _⟩ := right_wf hR
  obtain ⟨E, _⟩ := je_of h hc h4 ha
  subst h3
  exact ⟨_, _, label_is h E h1 h2 hr hl hm⟩
 ·exact ⟨_, _, label_no h hr hl hm⟩
end Go.Proofs.YtmegdednaimgcaaGreatDoor.Ss
namespace Go.Proofs.YtmegdednaimgcaaGreatDoor.Ss
open Go Go.Proofs.YtmegdednaimgcaaGreatDoor.Ab Go.Proofs.YtmegdednaimgcaaGreatDoor.TT
theorem ins_of {n : Int} {x : api_Instr} (h : insB n x = true) : (0 <= x.Op /\ x.Op <= 12) /\ (x.Op = 9 -> 0 <= x.N /\ x.N <= 3) := by
 unfold insB at h
 by_cases c1 : x.Op = 1
 ·exact ⟨by omega, fun w => by omega⟩
 ·rw [if_neg c1] at h
  obtain ⟨a, b, _, d⟩ := of_decide_eq_true h
  refine ⟨⟨a, b⟩, fun w => ?_⟩
  rw [if_neg (by omega), if_pos w] at d
  exact d
theorem plc_of {v : Int} (h : plaB v = true) : 0 <= v /\ v <= 12 := by
 have := of_decide_eq_true h
 exact ⟨this.1, this.2⟩
structure RightS (n : Int) (s : api_State) : Prop where
 code : s.Code.length <= 12
 ins : ∀ x ∈ s.Code, insB n x = true
 pc : 0 <= s.Pc.V /\ s.Pc.V <= 12
 mem : s.Mem.length <= 6
 stack : s.Stack.length <= 12
 out : s.Out.length <= 8
theorem rs_of {n : Int} {s : api_State} (h : rightS n s = true) : RightS n s := by
 unfold rightS at h
 simp only [Bool.and_eq_true] at h
 obtain ⟨⟨⟨⟨⟨⟨h1, h2⟩, h3⟩, ⟨h4, h5⟩, h6⟩, h7⟩, h8⟩, h9⟩ := h
 unfold rightB at h1
 rw [Bool.and_eq_true] at h1
 exact ⟨of_decide_eq_true h1.1, List.all_eq_true.1 h1.2, plc_of h2, of_decide_eq_true h4, of_decide_eq_true h5, of_decide_eq_true h6⟩
theorem RightS.sz {n : Int} {s : api_State} (h : RightS n s) : Sz s := ⟨by have := h.code; omega, by have := h.mem; omega, by have := h.stack; omega, by have := h.out; omega⟩
def K (l : api_Lattice) (s : api_State) (m : step_machine) (row : api_Row) : Option (Pn ⊕ (api_State × Int)) :=
 judge_Cond.f l row.May ([s.Pc.L, m.one_.x0_, m.one_.x1_, m.one_.x2_] : List Int) >>= fun y11 => if (!y11.1) = true then (some (.inl 2)) else (judge_Label.f l row.Res ([s.Pc.L, m.one_.x0_, m.one_.x1_, m.one_.x2_] : List Int) >>= fun y13 => judge_Label.f l row.Pc ([s.Pc.L, m.one_.x0_, m.one_.x1_, m.one_.x2_] : List Int) >>= fun y14 => step_machine_does.f m y13.1 >>= fun y15 => state_Right.f l (⟨⟨y15.s_.Pc.V, y14.1⟩, y15.s_.Code, y15.s_.Mem, y15.s_.Stack, y15.s_.Out⟩ : api_State) >>= fun y16 => step_need.f y16 >>= fun z17 => match z17 with | .inl p18 => some (.inl p18) | .inr y19 => some (.inr ((⟨⟨y15.s_.Pc.V, y14.1⟩, y15.s_.Code, y15.s_.Mem, y15.s_.Stack, y15.s_.Out⟩ : api_State), 0)))
def mach (l : api_Lattice) (s : api_State) (x : api_Instr) (y : Int) : step_machine := ⟨l, s, x, ⟨false, 0, 0⟩, ⟨false, 0, 0⟩, ⟨false, 0, 0⟩, 0, ⟨y, y, y⟩⟩
theorem code_at {n : Int} {s : api_State} (h : RightS n s) (h0 : s.Pc.V < (s.Code.length : Int)) : ∃ x, lAt s.Code s.Pc.V = some x /\ x ∈ s.Code := by
 have p := h.pc
 have hlt : s.Pc.V.toNat < s.Code.length := by omega
 have e : s.Pc.V = ((s.Pc.V.toNat : Nat) : Int) := by omega
 refine ⟨s.Code[s.Pc.V.toNat], ?_, List.getElem_mem hlt⟩
 have := lAt_some (xs := s.Code) hlt
 rwa [<- e] at this
inductive Way (l : api_Lattice) (s : api_State) : Prop where
 | off (h : ¬ s.Pc.V < (s.Code.length : Int)) (e : ∀ R, step_step.B l ⟨R⟩ s = some (.inl 3)) : Way l s
 | no (x : api_Instr) (hx : lAt s.Code s.Pc.V = some x) (h : s.Pc.V < (s.Code.length : Int)) (e : ∀ R, step_step.B l ⟨R⟩ s = some (.inl 3)) : Way l s
 | halt (x : api_Instr) (hx : lAt s.Code s.Pc.V = some x) (h : s.Pc.V < (s.Code.length : Int)) (e : ∀ R, step_step.B l ⟨R⟩ s = some (.inl 1)) : Way l s
 | go (x : api_Instr) (m : step_machine) (y : Int) (hx : lAt s.Code s.Pc.V = some x) (h : s.Pc.V < (s.Code.length : Int)) (op : 0 <= x.Op /\ x.Op <= 12) (cn : x.Op = 9 -> 0 <= x.N /\ x.N <= 3) (hm : Fine (fun _ => True) (mach l s x y) m) (e : ∀ R, step_step.B l ⟨R⟩ s = (lAt R x.Op >>= fun r => K l s m r)) : Way l s
theorem way {l : api_Lattice} {U : List Nat} (h : Nm l U) (hc : chk l U = 0) {n : Int} {s : api_State} (z : RightS n s) : Way l s := by
 obtain ⟨y, _, hb⟩ := bot_prog h hc
 have hS := z.stack
 by_cases h0 : s.Pc.V < (s.Code.length : Int)
 ·obtain ⟨x, ea, hm⟩ := code_at z h0
  obtain ⟨i0, i1⟩ := ins_of (z.ins x hm)
  obtain ⟨r, hr, hq⟩ := needs_a (P := fun _ => True) (a := mach l s x y) ⟨by show s.Stack.length <= 1000; omega, trivial, trivial, trivial, fun _ _ => trivial, fun _ _ => trivial, i0, fun _ => trivial, i1⟩
  have hB : ∀ R, step_step.B l ⟨R⟩ s = (match r with | .inl p7 => some (.inl p7) | .inr y8 => if y8.x_.Op = 12 then (some (.inl 1)) else (lAt R y8.x_.Op >>= fun y10 => K l s y8 y10) : Option (Pn ⊕ (api_State × Int))) := by
   intro R
   unfold step_step.B
   rw [need_p, bsome, decide_eq_true h0]
   show (lattice_Bottom.f l >>= _) = _
   rw [hb, bsome, ea, bsome]
   unfold mach at hr
   show (step_machine_needs.f (⟨l, s, x, ⟨false, 0, 0⟩, ⟨false, 0, 0⟩, ⟨false, 0, 0⟩, 0, ⟨(y : Int), (y : Int), (y : Int)⟩⟩ : step_machine) >>= _) = _
   rw [hr, bsome]
   cases r <;> rfl
  cases r with
  | inl p =>
   have hp : p = 3 := hq
   subst hp
   exact .no x ea h0 hB
  | inr m =>
   have hq : Fine (fun _ => True) (mach l s x y) m := hq
   have hx : m.x_ = x := hq.x
   by_cases h12 : x.Op = 12
   ·refine .halt x ea h0 fun R => ?_
    rw [hB R]
    show (if m.x_.Op = 12 then _ else _) = _
    rw [hx, if_pos h12]
   ·refine .go x m y ea h0 i0 i1 hq fun R => ?_
    rw [hB R]
    show (if m.x_.Op = 12 then _ else _) = _
    rw [hx, if_neg h12]
 ·refine .off h0 fun R => ?_
  unfold step_step.B
  rw [need_p, bsome, decide_eq_false h0]; rfl
def Went (n : Int) (s : api_State) : Pn ⊕ (api_State × Int) -> Prop
 | .inl p => p = 1 ∨ p = 2 ∨ p = 3
 | .inr (t, q) => q = 0 /\ rightS n t = true /\ t.Code = s.Code /\ t.Mem.length = s.Mem.length /\ t.Stack.length <= s.Stack.length + 1 /\ (t.Out = s.Out ∨ ∃ x, t.Out = s.Out ++ [x])
theorem K_m {l : api_Lattice} {U : List Nat} (h : Nm l U) (hc : chk l U = 0) {n : Int} {s : api_State} (z : RightS n s) {x : api_Instr} {m : step_machine} {y : Int} (op : 0 <= x.Op /\ x.Op <= 12) (cn : x.Op = 9 -> 0 <= x.N /\ x.N <= 3) (hm : Fine (fun _ => True) (mach l s x y) m) {row : api_Row} (h1 : row.May.length <= 900) (h2 : row.Res.length <= 900) (h3 : row.Pc.length <= 900) :
  ∃ r, K l s m row = some r /\ Went (l.Up.length : Int) s r /\ (∀ p, r = .inl p -> p = 2 ∨ p = 3) := by
 have es : m.s_ = s := hm.s
 have ex : m.x_ = x := hm.x
 have zs := z.stack
 have zm := z.mem
 have zo := z.out
 have zc := z.code
 unfold K
 obtain ⟨b, q, e1⟩ := cond_any h (r := row.May) (labels := [s.Pc.L, m.one_.x0_, m.one_.x1_, m.one_.x2_]) h1 (by simp)
 rw [e1, bsome]
 cases b with
 | false => exact ⟨_, rfl, .inr (.inl rfl), fun p hp => by cases hp; exact .inl rfl⟩
 | true =>
  show ∃ r, (judge_Label.f l row.Res _ >>= _) = some r /\ _
  obtain ⟨v, q2, e2⟩ := label_any h (r := row.Res) (labels := [s.Pc.L, m.one_.x0_, m.one_.x1_, m.one_.x2_]) h2 (by simp)
  obtain ⟨w, q3, e3⟩ := label_any h (r := row.Pc) (labels := [s.Pc.L, m.one_.x0_, m.one_.x1_, m.one_.x2_]) h3 (by simp)
  obtain ⟨r, e4, k⟩ := does_m (m := m) (by rw [es]; omega) (by rw [es]; omega) (by rw [es]; omega) hm.lo (by rw [es]; exact hm.hi) (fun w => by rw [ex] at w; exact hm.c w) (fun w => by rw [ex] at w ⊢; exact ⟨(cn w).1, hm.g w⟩) v
  have k1 : r.s_.Code = s.Code := by rw [k.code, es]
  have k2 : r.s_.Mem.length = s.Mem.length := by rw [k.mem, es]
  have k3 : r.s_.Stack.length <= s.Stack.length + 1 := by have := k.st; rw [es] at this; exact this
  have k4 : r.s_.Out = s.Out ∨ ∃ x, r.s_.Out = s.Out ++ [x] := by have := k.out; rw [es] at this; exact this
  have k5 : r.s_.Out.length <= 1000 := by
   rcases k4 with e | ⟨x, e⟩ <;> rw [e]
   ·omega
   ·rw [List.length_append, List.length_singleton]; omega
  rw [e2, bsome, e3, bsome, e4, bsome, right_s h hc (s := ⟨⟨r.s_.Pc.V, w⟩, r.s_.Code, r.s_.Mem, r.s_.Stack, r.s_.Out⟩) ⟨by show r.s_.Code.length <= 1000; rw [k1]; omega, by show r.s_.Mem.length <= 1000; omega, by show r.s_.Stack.length <= 1000; omega, k5⟩, bsome, need_p, bsome]
  cases hR : rightS (l.Up.length : Int) (⟨⟨r.s_.Pc.V, w⟩, r.s_.Code, r.s_.Mem, r.s_.Stack, r.s_.Out⟩ : api_State) with
  | false => exact ⟨_, rfl, .inr (.inr rfl), fun p hp => by cases hp; exact .inr rfl⟩
  | true => exact ⟨_, rfl, ⟨rfl, hR, k1, k2, k3, k4⟩, fun p hp => by cases hp⟩
theorem B_m {l : api_Lattice} {U : List Nat} (h : Nm l U) (hc : chk l U = 0) {n : Int} {s : api_State} (z : RightS n s) {R : List api_Row} (hF : Few R) (h13 : R.length = 13) : ∃ r, step_step.B l ⟨R⟩ s = some r /\ Went (l.Up.length : Int) s r := by
 cases way h hc z with
 | off _ e => exact ⟨_, e R, .inr (.inr rfl)⟩
 | no x hx _ e => exact ⟨_, e R, .inr (.inr rfl)⟩
 | halt x hx _ e => exact ⟨_, e R, .inl rfl⟩
 | go x m y hx h0 op cn hm e =>
  have eo : x.Op = ((x.Op.toNat : Nat) : Int) := by omega
  have hlt : x.Op.toNat < R.length := by omega
  have hmem := List.getElem_mem hlt
  obtain ⟨r, e1, e2, _⟩ := K_m h hc z op cn hm (row := R[x.Op.toNat]) (by have := hF.may _ hmem; omega) (by have := hF.res _ hmem; omega) (by have := hF.pc _ hmem; omega)
  refine ⟨r, ?_, e2⟩
  rw [e R, eo, lAt_some hlt, bsome]; exact e1
end Go.Proofs.YtmegdednaimgcaaGreatDoor.Ss
namespace Go.Proofs.YtmegdednaimgcaaGreatDoor.Ss
open Go Go.Proofs.YtmegdednaimgcaaGreatDoor.Ab Go.Proofs.YtmegdednaimgcaaGreatDoor.TT
theorem same_atoms {x : List api_Atom} (hx : x.length <= 1000) : reticentref09_AtomsSame.f x x = some true := by
 unfold reticentref09_AtomsSame.f
 have : ∀ (d k : Nat), x.length = k + d -> reticentref09_AtomsSame.l0 x x (k : Int) = some (.inr ()) := by
  intro d
  induction d with
  | zero => intro k h; rw [reticentref09_AtomsSame.l0, if_neg (by omega)]
  | succ d ih => intro k h; rw [reticentref09_AtomsSame.l0, if_pos (by omega), lAt_some (by omega), bsome, bsome, if_pos rfl, wS (by omega)]; exact ih (k + 1) (by omega)
 rw [if_pos rfl, show reticentref09_AtomsSame.l0 x x 0 = _ from this x.length 0 (by omega)]; rfl
theorem same_state {x : api_State} (z : Sz x) : reticentref09_Same.f x x = some true := by
 unfold reticentref09_Same.f
 have : ∀ (d k : Nat), x.Stack.length = k + d -> reticentref09_Same.l0 x x (k : Int) = some (.inr ()) := by
  have hx := z.stack
  intro d
  induction d with
  | zero => intro k h; rw [reticentref09_Same.l0, if_neg (by omega)]
  | succ d ih => intro k h; rw [reticentref09_Same.l0, if_pos (by omega), lAt_some (by omega), bsome, bsome, if_pos rfl, wS (by omega)]; exact ih (k + 1) (by omega)
 rw [if_pos rfl, same_self z.code, bsome, if_neg (by decide), same_atoms z.mem, bsome, if_neg (by decide), same_atoms z.out, bsome, if_neg (by decide), decide_eq_true rfl, bsome, if_neg (by decide), show reticentref09_Same.l0 x x 0 = _ from this x.Stack.length 0 (by omega)]; rfl
noncomputable def mayO (l : api_Lattice) (U : List Nat) (R : List api_Row) (s : api_State) : Int := if chk l U = 0 then (if (chT R).2 = 0 then (if rightS (l.Up.length : Int) s = true then 0 else 1) else (chT R).2) else chk l U
def nilS : api_State := ⟨⟨0, 0⟩, [], [], [], []⟩
theorem one_no {l : api_Lattice} {U : List Nat} (h : Nm l U) {R : List api_Row} (hF : Few R) {s : api_State} (z : Sz s) (hm : mayO l U R s ≠ 0) : step_One.f l ⟨R⟩ s = some (nilS, 0, mayO l U R s) := by
 unfold mayO at hm ⊢
 unfold step_One.f
 rw [check_eq h, bsome]
 by_cases hc : chk l U = 0
 ·rw [if_pos hc, if_pos hc, tcheck_eq hF, bsome]
  by_cases hT : (chT R).2 = 0
  ·rw [if_pos hT, if_pos hT, right_s h hc z, bsome]
   rw [if_pos hc, if_pos hT] at hm
   cases hr : rightS (l.Up.length : Int) s with
   | false => rfl
   | true => rw [hr] at hm; exact absurd rfl hm
  ·rw [if_neg hT, if_neg hT]; rfl
 ·rw [if_neg hc, if_neg hc]; rfl
theorem mayO_zero {l : api_Lattice} {U : List Nat} {R : List api_Row} {s : api_State} (hm : mayO l U R s = 0) : chk l U = 0 /\ (chT R).2 = 0 /\ rightS (l.Up.length : Int) s = true := by
 unfold mayO at hm
 by_cases hc : chk l U = 0
 ·rw [if_pos hc] at hm
  by_cases hT : (chT R).2 = 0
  ·rw [if_pos hT] at hm
   cases hr : rightS (l.Up.length : Int) s with
   | false => rw [hr] at hm; cases hm
   | true => exact ⟨hc, hT, rfl⟩
  ·rw [if_neg hT] at hm; exact absurd hm hT
 ·rw [if_neg hc] at hm; exact absurd hm hc
theorem one_yes {l : api_Lattice} {U : List Nat} (h : Nm l U) {R : List api_Row} (hF : Few R) {s : api_State} (z : Sz s) (hm : mayO l U R s = 0) {r : Pn ⊕ (api_State × Int)} (hb : step_step.B l ⟨R⟩ s = some r) : step_One.f l ⟨R⟩ s = some ((finD s r).1, (finD s r).2, 0) := by
 obtain ⟨hc, hT, hr⟩ := mayO_zero hm
 unfold step_One.f step_step.f
 rw [check_eq h, bsome, if_pos hc, tcheck_eq hF, bsome, if_pos hT, right_s h hc z, bsome, hr, if_neg (by decide), hb, bsome, bsome]
structure Stays (n : Int) (s t : api_State) (q : Int) : Prop where
 right : rightS n t = true
 code : t.Code = s.Code
 mem : t.Mem.length = s.Mem.length
 out : t.Out = s.Out ∨ ∃ x, t.Out = s.Out ++ [x]
 st : t.Stack.length <= s.Stack.length + 1
 q : q = 0 ∨ (q = 1 ∨ q = 2 ∨ q = 3) /\ t = s
theorem stays {n : Int} {s : api_State} (hr : rightS n s = true) {r : Pn ⊕ (api_State × Int)} (w : Went n s r) : Stays n s (finD s r).1 (finD s r).2 := by
 cases r with
 | inl p =>
  rcases w with rfl | rfl | rfl
  ·exact ⟨hr, rfl, rfl, .inl rfl, Nat.le_succ _, .inr ⟨.inl rfl, rfl⟩⟩
  ·exact ⟨hr, rfl, rfl, .inl rfl, Nat.le_succ _, .inr ⟨.inr (.inl rfl), rfl⟩⟩
  ·exact ⟨hr, rfl, rfl, .inl rfl, Nat.le_succ _, .inr ⟨.inr (.inr rfl), rfl⟩⟩
 | inr p =>
  obtain ⟨t, q⟩ := p
  obtain ⟨h0, h1, h2, h3, h4, h5⟩ := w
  exact ⟨h1, h2, h3, h5, h4, .inl h0⟩
end Go.Proofs.YtmegdednaimgcaaGreatDoor.Ss
namespace Go.Proofs.YtmegdednaimgcaaGreatDoor.Ss
open Go Go.Proofs.YtmegdednaimgcaaGreatDoor.Ab Go.Proofs.YtmegdednaimgcaaGreatDoor.TT
theorem alive11 : reticentlaw11_alive.f = some true := reticentlaw11_alive.f_le 60 _ (by kernel_rfl)
structure StepOk (l : api_Lattice) (R : List api_Row) (st : api_State -> api_State × Int) (G : api_State -> Prop) : Prop where
 one : ∀ s, G s -> step_One.f l ⟨R⟩ s = some ((st s).1, (st s).2, 0)
 next : ∀ s, G s -> G (st s).1
 sz : ∀ s, G s -> Sz s
theorem step_ok {l : api_Lattice} {U : List Nat} (h : Nm l U) {R : List api_Row} (hF : Few R) (hc : chk l U = 0) (hT : (chT R).2 = 0) : ∃ st, StepOk l R st (fun s => rightS (l.Up.length : Int) s = true) := by
 refine ⟨fun s => match step_One.f l ⟨R⟩ s with | some (t, q, _) => (t, q) | none => (s, 3), ?_⟩
 have key : ∀ s, rightS (l.Up.length : Int) s = true -> ∃ t q, step_One.f l ⟨R⟩ s = some (t, q, 0) /\ rightS (l.Up.length : Int) t = true := by
  intro s hr
  have zr := rs_of hr
  have hm : mayO l U R s = 0 := by unfold mayO; rw [if_pos hc, if_pos hT, if_pos hr]
  obtain ⟨r, hb, w⟩ := B_m h hc zr hF (chT_zero hT).1
  exact ⟨_, _, one_yes h hF zr.sz hm hb, (stays hr w).right⟩
 refine ⟨fun s hs => ?_, fun s hs => ?_, fun s hs => (rs_of hs).sz⟩
 ·obtain ⟨t, q, e, _⟩ := key s hs
  simp only [e]
 ·obtain ⟨t, q, e, w⟩ := key s hs
  simp only [e]; exact w
def runL (st : api_State -> api_State × Int) : Nat -> api_State -> List api_State × Int
 | 0, s => ([s], 0)
 | k + 1, s => if (st s).2 = 0 then (s :: (runL st k (st s).1).1, (runL st k (st s).1).2) else ([s], (st s).2)
section
variable {st : api_State -> api_State × Int}
theorem runL_len : ∀ (k : Nat) (s : api_State), 1 <= (runL st k s).1.length /\ (runL st k s).1.length <= k + 1
 | 0, s => ⟨Nat.le_refl _, Nat.le_refl _⟩
 | k + 1, s => by
  have := runL_len k (st s).1
  unfold runL
  split
  ·simp only [List.length_cons]; omega
  ·simp only [List.length_singleton]; omega
theorem runL_all {G : api_State -> Prop} (hn : ∀ s, G s -> G (st s).1) : ∀ (k : Nat) (s : api_State), G s -> ∀ x ∈ (runL st k s).1, G x
 | 0, s, h, x, hx => by
  obtain rfl := List.mem_singleton.1 hx
  exact h
 | k + 1, s, h, x, hx => by
  unfold runL at hx
  split at hx
  ·rcases List.mem_cons.1 hx with rfl | hx
   ·exact h
   ·exact runL_all hn k _ (hn s h) x hx
  ·obtain rfl := List.mem_singleton.1 hx
   exact h
end
theorem yield_eq {w : Int} {acc : List api_State} (h : acc.length <= 1000) (x : api_State) (q : Int) : yOf run_Run.y0 ((w, acc), 0) x q = some (true, ((q, acc ++ [x]), 0)) := by
 have hB : 200000 <= big := by decide
 show run_Run.y0 (w, acc) x q = _
 unfold run_Run.y0
 rw [if_pos (by simp; omega)]
section
variable {l : api_Lattice} {R : List api_Row} {st : api_State -> api_State × Int} {G : api_State -> Prop} (K : StepOk l R st G)
include K
theorem states_l0 {k : Nat} (hk : k <= 900) : ∀ (d i : Nat) (s : api_State) (w : Int) (acc : List api_State), G s -> k = i + d -> acc.length <= i ->
  (run_states_1.l0 (yOf run_Run.y0) (k : Int) l ⟨R⟩ s ((w, acc), 0) (i : Int) >>= fun o => match o with | .inl r => some r | .inr (x22, x23) => yOf run_Run.y0 x23 x22 0 >>= fun y43 => some y43.2) = some (((runL st d s).2, acc ++ (runL st d s).1), 0)
 | 0, i, s, w, acc, hs, e, ha => by
  rw [run_states_1.l0, if_neg (by omega), bsome]
  show (yOf run_Run.y0 ((w, acc), 0) s 0 >>= _) = _
  rw [yield_eq (by omega), bsome]; rfl
 | d + 1, i, s, w, acc, hs, e, ha => by
  rw [run_states_1.l0, if_pos (by omega)]
  show ((step_One.f l ⟨R⟩ s >>= _) >>= _) = _
  rw [K.one s hs, bsome]
  show (((yOf run_Run.y0 ((w, acc), 0) s (st s).2 >>= _) >>= _) >>= _) = _
  rw [yield_eq (by omega), bsome]
  show (((if (!true) = true then _ else _) >>= _) >>= _) = _
  rw [if_neg (show ¬ (!true) = true by decide), bsome]
  by_cases q : (st s).2 = 0
  ·have hq : runL st (d + 1) s = (s :: (runL st d (st s).1).1, (runL st d (st s).1).2) := by
    show (if (st s).2 = 0 then _ else _) = _
    rw [if_pos q]
   show ((if (!decide ((st s).2 = 0)) = true then _ else run_states_1.l0 (yOf run_Run.y0) (k : Int) l ⟨R⟩ (st s).1 (((st s).2, acc ++ [s]), 0) (IntKind.i64.wrap ((i : Int) + 1))) >>= _) = _
   rw [decide_eq_true q, if_neg (by decide), wS (by omega), states_l0 hk d (i + 1) (st s).1 _ _ (K.next s hs) (by omega) (by simp; omega), hq]
   simp
  ·have hq : runL st (d + 1) s = ([s], (st s).2) := by
    show (if (st s).2 = 0 then _ else _) = _
    rw [if_neg q]
   show ((if (!decide ((st s).2 = 0)) = true then some (Sum.inl (((st s).2, acc ++ [s]), 0)) else _) >>= _) = _
   rw [decide_eq_false q, if_pos (by decide), bsome, hq]
theorem run_eq {s : api_State} (hs : G s) {k : Nat} (hk : k <= 40) : run_Run.f l ⟨R⟩ s (k : Int) = some ((runL st k s).1, (runL st k s).2, 0) := by
 unfold run_Run.f run_may.f
 rw [K.one s hs, bsome, if_pos rfl, if_neg (by omega), bsome, decide_eq_false (show ¬ (k : Int) > 40 by omega), if_neg (by decide), bsome, if_pos rfl]
 unfold run_states.f
 rw [bsome]
 show (run_states_1.f (yOf run_Run.y0) ((0, []), 0) (k : Int) l ⟨R⟩ s >>= _) = _
 have h := states_l0 K (k := k) (by omega) k 0 s 0 [] hs (by omega) (Nat.le_refl _)
 rw [show ((0 : Nat) : Int) = 0 from rfl] at h
 have h2 : run_states_1.f (yOf run_Run.y0) ((0, []), 0) (k : Int) l ⟨R⟩ s = some (((runL st k s).2, [] ++ (runL st k s).1), 0) := by
  refine Eq.trans ?_ h
  unfold run_states_1.f
  refine congrArg (fun F => run_states_1.l0 (yOf run_Run.y0) (k : Int) l ⟨R⟩ s ((0, []), 0) 0 >>= F) (funext fun o => ?_)
  rcases o with r | ⟨x22, x23⟩ <;> rfl
 rw [h2, bsome, if_pos rfl]; rfl
end
theorem run_no {l : api_Lattice} {U : List Nat} (h : Nm l U) {R : List api_Row} (hF : Few R) {s : api_State} (z : Sz s) (hm : mayO l U R s ≠ 0) (k : Int) : run_Run.f l ⟨R⟩ s k = some ([], 0, mayO l U R s) := by
 unfold run_Run.f run_may.f
 rw [one_no h hF z hm, bsome]
 show ((if mayO l U R s = 0 then _ else some (mayO l U R s)) >>= _) = _
 rw [if_neg hm, bsome, if_neg hm]
theorem same_list {xs : List api_State} (h : ∀ x ∈ xs, Sz x) (hl : xs.length <= 1000) : reticentlaw11_same.f xs xs = some true := by
 unfold reticentlaw11_same.f
 have : ∀ (d k : Nat), xs.length = k + d -> reticentlaw11_same.l0 xs xs (k : Int) = some (.inr ()) := by
  intro d
  induction d with
  | zero => intro k h; rw [reticentlaw11_same.l0, if_neg (by omega)]
  | succ d ih =>
   intro k e
   rw [reticentlaw11_same.l0, if_pos (by omega), lAt_some (by omega), bsome, bsome, same_state (h _ (List.getElem_mem _)), bsome, if_neg (by decide), wS (by omega)]
   exact ih (k + 1) (by omega)
 rw [if_pos rfl, show reticentlaw11_same.l0 xs xs 0 = _ from this xs.length 0 (by omega)]; rfl
end Go.Proofs.YtmegdednaimgcaaGreatDoor.Ss
namespace Go.Proofs.YtmegdednaimgcaaGreatDoor.Ss
open Go Go.Proofs.YtmegdednaimgcaaGreatDoor.Ab Go.Proofs.YtmegdednaimgcaaGreatDoor.TT
def N0 : reticentref10_N := ⟨false, ⟨false, 0, 0⟩, ⟨false, 0, 0⟩, ⟨false, 0, 0⟩, 0, 0, 0, 0⟩
theorem ins_n {n : Int} {x : api_Instr} (h : insB n x = true) : (x.Op = 7 -> x.N = 0) /\ (x.Op = 10 -> 0 <= x.N /\ x.N <= 1) := by
 unfold insB at h
 by_cases c1 : x.Op = 1
 ·exact ⟨fun w => by omega, fun w => by omega⟩
 ·rw [if_neg c1] at h
  obtain ⟨a, b, _, d⟩ := of_decide_eq_true h
  refine ⟨fun w => ?_, fun w => ?_⟩
  ·rw [if_neg (by omega), if_neg (by omega), if_neg (by omega)] at d
   exact d
  ·rw [if_neg (by omega), if_neg (by omega), if_pos w] at d
   exact d
theorem atom_r {s : api_State} (hn : s.Stack.length <= 1000) {d : Nat} (hd : d <= 1000) : reticentref10_atom.f s (d : Int) = some (okT s.Stack d) := by
 unfold reticentref10_atom.f okT
 have e1 : IntKind.i64.wrap ((s.Stack.length : Int) - 1) = (s.Stack.length : Int) - 1 := wrapZ (by omega) (by omega)
 have e2 : IntKind.i64.wrap ((s.Stack.length : Int) - 1 - (d : Int)) = (s.Stack.length : Int) - 1 - (d : Int) := wrapZ (by omega) (by omega)
 rw [e1, e2]
 by_cases h : d < s.Stack.length
 ·have e3 : (s.Stack.length : Int) - 1 - (d : Int) = ((s.Stack.length - 1 - d : Nat) : Int) := by omega
  rw [if_pos (by omega), e3, lAt_some (by omega), bsome, bsome, sl_at h, decide_eq_true h]
  cases hr : s.Stack[s.Stack.length - 1 - d].Ret <;> rfl
 ·rw [if_neg (by omega), bsome, decide_eq_false h]; rfl
def takeB (S : List api_Slot) : Nat -> Nat -> Bool
 | _, 0 => true
 | i, k + 1 => okT S i && takeB S (i + 1) k
theorem l0_r {s : api_State} {x : api_Instr} {k : Nat} (ht : reticentref10_takes.f x = some (k : Int)) (hn : s.Stack.length <= 1000) (hk : k <= 900) : ∀ d i : Nat, k = i + d -> reticentref10_Needs.l0 s x (i : Int) = some (if takeB s.Stack i d = true then .inr () else .inl N0)
 | 0, i, e => by
  rw [reticentref10_Needs.l0, ht, bsome, if_neg (by omega)]; rfl
 | d + 1, i, e => by
  rw [reticentref10_Needs.l0, ht, bsome, if_pos (by omega), atom_r hn (by omega), bsome]
  unfold takeB
  cases h0 : okT s.Stack i with
  | false => rfl
  | true =>
   rw [Bool.true_and]
   show reticentref10_Needs.l0 s x (IntKind.i64.wrap ((i : Int) + 1)) = _
   rw [wS (by omega)]
   exact l0_r ht hn hk d (i + 1) (by omega)
theorem l4_r {s : api_State} {x : api_Instr} (hn : s.Stack.length <= 1000) : ∀ d i : Nat, x.N = ((i + d : Nat) : Int) -> i + d <= 900 -> reticentref10_Needs.l4 s x (i : Int) = some (if callB s.Stack i d = true then .inr () else .inl N0)
 | 0, i, e, hb => by
  rw [reticentref10_Needs.l4, if_neg (by omega)]; rfl
 | d + 1, i, e, hb => by
  have e1 : IntKind.i64.wrap (1 + (i : Int)) = ((1 + i : Nat) : Int) := by rw [wrapZ (by omega) (by omega)]; omega
  rw [reticentref10_Needs.l4, if_pos (by omega), e1, atom_r hn (by omega), bsome]
  unfold callB
  cases h0 : okT s.Stack (1 + i) with
  | false => rfl
  | true =>
   rw [Bool.true_and]
   show reticentref10_Needs.l4 s x (IntKind.i64.wrap ((i : Int) + 1)) = _
   rw [wS (by omega)]
   exact l4_r hn d (i + 1) (by omega) (by omega)
theorem frame_l0 {s : api_State} (hn : s.Stack.length <= 1000) : ∀ k, k <= s.Stack.length -> reticentref10_frame.l0 s ((k : Int) - 1) = some (if 0 < frU s.Stack k then .inl ((frU s.Stack k : Int) - 1) else .inr ())
 | 0, _ => by
  rw [reticentref10_frame.l0, if_neg (by omega)]; rfl
 | k + 1, h => by
  have e : ((k + 1 : Nat) : Int) - 1 = (k : Int) := by omega
  rw [e, reticentref10_frame.l0, if_pos (by omega), lAt_some (by omega), bsome]
  unfold frU
  rw [getD_is (by omega)]
  cases hr : s.Stack[k].Ret with
  | true => rw [if_pos rfl, if_pos rfl, if_pos (by omega), e]
  | false =>
   rw [if_neg ff, if_neg ff, wrapZ (by omega) (by omega)]
   exact frame_l0 hn k (by omega)
theorem frame_r {s : api_State} (hn : s.Stack.length <= 1000) {k : Nat} (hk : k <= s.Stack.length) : reticentref10_frame.f s (k : Int) = some ((frU s.Stack k : Int) - 1) := by
 unfold reticentref10_frame.f
 rw [wrapZ (by omega) (by omega), frame_l0 hn k hk, bsome]
 by_cases h : 0 < frU s.Stack k
 ·rw [if_pos h]
 ·rw [if_neg h]
  have : frU s.Stack k = 0 := by omega
  rw [this]; rfl
theorem top_at {S : List api_Slot} (hn : S.length <= 1000) (h : 0 < S.length) : lAt S (IntKind.i64.wrap ((S.length : Int) - 1)) = some (sl S 0) := by
 have e : IntKind.i64.wrap ((S.length : Int) - 1) = ((S.length - 1 - 0 : Nat) : Int) := by rw [wrapZ (by omega) (by omega)]; omega
 rw [e, lAt_some (by omega), sl_at h]
theorem snd_at {S : List api_Slot} (hn : S.length <= 1000) (h : 1 < S.length) : lAt S (IntKind.i64.wrap ((S.length : Int) - 2)) = some (sl S 1) := by
 have e : IntKind.i64.wrap ((S.length : Int) - 2) = ((S.length - 1 - 1 : Nat) : Int) := by rw [wrapZ (by omega) (by omega)]; omega
 rw [e, lAt_some (by omega), sl_at h]
def zS : api_Slot := ⟨false, 0, 0⟩
def nX (S : List api_Slot) (k : Nat) (y : Int) : reticentref10_N := ⟨false, if 0 < k then sl S 0 else zS, if 1 < k then sl S 1 else zS, zS, if 0 < k then (sl S 0).L else y, if 1 < k then (sl S 1).L else y, y, (S.length : Int) - (k : Int)⟩
def needsT (a1 : api_State) (y1 : api_Instr) (x27 : reticentref10_N) : Option reticentref10_N :=
 ((((if y1.Op = 1 then (some (.inr (⟨true, x27.A, x27.B, x27.R, y1.L, x27.Two, x27.Three, x27.Below⟩ : reticentref10_N))) else (((if y1.Op = 5 then (some (decide (y1.Op = 5))) else (some (decide (y1.Op = 6))) : Option Bool) >>= fun x138 => if x138 = true then (((if x27.A.V < 0 then (some true) else (some (decide (x27.A.V >= (a1.Mem.length : Int)))) : Option Bool) >>= fun x142 => if x142 = true then (some (.inl (⟨false, ⟨false, 0, 0⟩, ⟨false, 0, 0⟩, ⟨false, 0, 0⟩, 0, 0, 0, 0⟩ : reticentref10_N))) else (if y1.Op = 5 then (lAt a1.Mem x27.A.V >>= fun y146 => some (.inr (⟨true, x27.A, x27.B, x27.R, x27.One, y146.L, x27.Three, x27.Below⟩ : reticentref10_N))) else (lAt a1.Mem x27.A.V >>= fun y147 => some (.inr (⟨true, x27.A, x27.B, x27.R, x27.One, x27.Two, y147.L, x27.Below⟩ : reticentref10_N)))))) else (((if y1.Op = 7 then (some (decide (y1.Op = 7))) else (some (decide (y1.Op = 9))) : Option Bool) >>= fun x149 => if x149 = true then (((if x27.A.V < 0 then (some true) else (some (decide (x27.A.V > 12))) : Option Bool) >>= fun x153 => if x153 = true then (some (.inl (⟨false, ⟨false, 0, 0⟩, ⟨false, 0, 0⟩, ⟨false, 0, 0⟩, 0, 0, 0, 0⟩ : reticentref10_N))) else ((reticentref10_Needs.l4 a1 y1 0 >>= fun o => match o with | .inl r => some (.inl r) | .inr () => some (.inr (⟨true, x27.A, x27.B, x27.R, x27.One, x27.Two, x27.Three, x27.Below⟩ : reticentref10_N)))))) else (if y1.Op = 10 then (reticentref10_frame.f a1 x27.Below >>= fun y167 => if y167 < 0 then (some (.inl (⟨false, ⟨false, 0, 0⟩, ⟨false, 0, 0⟩, ⟨false, 0, 0⟩, 0, 0, 0, 0⟩ : reticentref10_N))) else (lAt a1.Stack y167 >>= fun y169 => some (.inr (⟨true, x27.A, x27.B, y169, x27.One, y169.L, x27.Three, y167⟩ : reticentref10_N)))) else (some (.inr (⟨true, x27.A, x27.B, x27.R, x27.One, x27.Two, x27.Three, x27.Below⟩ : reticentref10_N)))))))) : Option (reticentref10_N ⊕ reticentref10_N)) >>= fun o => match o with | .inl r => some (.inl r) | .inr x135 => some (.inr x135)) : Option (reticentref10_N ⊕ reticentref10_N)) >>= fun o => match o with | .inl r => some r | .inr x100 => some x100)
theorem needs_r1 {l : api_Lattice} {s : api_State} {x : api_Instr} {y : Int} {k : Nat} (hx : lAt s.Code s.Pc.V = some x) (hb : reticentref01_Bottom.f l = some y) (ht : reticentref10_takes.f x = some (k : Int)) (hk : k <= 2) (hn : s.Stack.length <= 1000) :
  reticentref10_Needs.f l s = (if takeB s.Stack 0 k = true then needsT s x (nX s.Stack k y) else some N0) := by
 unfold reticentref10_Needs.f
 have h0 := l0_r (s := s) ht hn (by omega) k 0 (by omega)
 rw [show ((0 : Nat) : Int) = 0 from rfl] at h0
 have ew : IntKind.i64.wrap ((s.Stack.length : Int) - (k : Int)) = (s.Stack.length : Int) - (k : Int) := wrapZ (by omega) (by omega)
 rw [hx, bsome, hb, bsome, ht, bsome, h0, bsome, ew]
 cases hB : takeB s.Stack 0 k with
 | false => rw [if_neg ff, if_neg ff]
 | true =>
  rw [if_pos rfl, if_pos rfl]
  match k, hk with
  | 0, _ => rfl
  | 1, _ =>
   have h1 : 0 < s.Stack.length := by
    unfold takeB at hB
    rw [Bool.and_eq_true] at hB
    exact okT_lt hB.1
   rw [bsome, if_pos (show ((1 : Nat) : Int) > 0 by decide), top_at hn h1]; rfl
  | 2, _ =>
   have h1 : 1 < s.Stack.length := by
    unfold takeB at hB
    rw [Bool.and_eq_true] at hB
    have h2 := hB.2
    unfold takeB at h2
    rw [Bool.and_eq_true] at h2
    exact okT_lt h2.1
   rw [bsome, if_pos (show ((2 : Nat) : Int) > 0 by decide), top_at hn (by omega), bsome, bsome, bsome, if_pos (show ((2 : Nat) : Int) > 1 by decide), snd_at hn h1]; rfl
end Go.Proofs.YtmegdednaimgcaaGreatDoor.Ss
namespace Go.Proofs.YtmegdednaimgcaaGreatDoor.Ss
open Go Go.Proofs.YtmegdednaimgcaaGreatDoor.Ab Go.Proofs.YtmegdednaimgcaaGreatDoor.TT
def mOf (l : api_Lattice) (s : api_State) (x : api_Instr) (n : reticentref10_N) : step_machine := ⟨l, s, x, n.A, n.B, n.R, n.Below, ⟨n.One, n.Two, n.Three⟩⟩
def Two (l : api_Lattice) (s : api_State) (x : api_Instr) (p : Option (Pn ⊕ step_machine)) (q : Option reticentref10_N) : Prop :=
 ∃ n, q = some n /\ p = some (if n.Is = true then .inr (mOf l s x n) else .inl 3)
theorem two_if {l : api_Lattice} {s : api_State} {x : api_Instr} {c : Prop} [Decidable c] {e : Option (Pn ⊕ step_machine)} {m : step_machine} {n : reticentref10_N} (h : e = some (if c then .inr m else .inl 3)) (hn : n.Is = true) (hm : mOf l s x n = m) : Two l s x (e >>= fun z => match z with | .inl p => some (.inl p) | .inr y => some (.inr y)) (if c then some n else some N0) := by
 rw [h, bsome]
 by_cases q : c
 ·rw [if_pos q, if_pos q]
  exact ⟨n, rfl, by rw [if_pos hn, hm]⟩
 ·rw [if_neg q, if_neg q]
  exact ⟨N0, rfl, rfl⟩
section
variable {l : api_Lattice} {s : api_State} {x : api_Instr} {y : Int} (hx : lAt s.Code s.Pc.V = some x) (hb : reticentref01_Bottom.f l = some y) (hn : s.Stack.length <= 1000)
include hx hb hn
theorem tk0 (h : reticentref10_takes.f x = some 0) : reticentref10_Needs.f l s = needsT s x (nX s.Stack 0 y) := by
 rw [needs_r1 hx hb (k := 0) h (by omega) hn]; rfl
theorem tk1 (h : reticentref10_takes.f x = some 1) : reticentref10_Needs.f l s = if okT s.Stack 0 = true then needsT s x (nX s.Stack 1 y) else some N0 := by
 rw [needs_r1 hx hb (k := 1) h (by omega) hn]
 unfold takeB takeB
 rw [Bool.and_true]
theorem tk2 (h : reticentref10_takes.f x = some 2) : reticentref10_Needs.f l s = if okT s.Stack 0 = true /\ okT s.Stack 1 = true then needsT s x (nX s.Stack 2 y) else some N0 := by
 rw [needs_r1 hx hb (k := 2) h (by omega) hn]
 unfold takeB takeB takeB
 rw [Bool.and_true]
 cases okT s.Stack 0 <;> cases okT s.Stack 1 <;> rfl
end
theorem takes_is {x : api_Instr} {c k : Int} (h : x.Op = c) (h10 : c ≠ 10) (hl : lAt ([0, 0, 1, 2, 2, 1, 2, 1, 1, 1, 0, 1, 0] : List Int) c = some k) : reticentref10_takes.f x = some k := by
 unfold reticentref10_takes.f
 rw [h, if_neg h10, hl, bsome]
theorem bad_mem {m : List api_Atom} {v : Int} : ((if v < 0 then (some true) else (some (decide (v >= (m.length : Int)))) : Option Bool)) = some (!decide (0 <= v /\ v < (m.length : Int))) := by
 by_cases h : v < 0
 ·rw [if_pos h, decide_eq_false (by omega)]; rfl
 ·rw [if_neg h]
  by_cases q : v >= (m.length : Int)
  ·rw [decide_eq_true q, decide_eq_false (by omega)]; rfl
  ·rw [decide_eq_false q, decide_eq_true (by omega)]; rfl
theorem bad_pla {v : Int} : ((if v < 0 then (some true) else (some (decide (v > 12))) : Option Bool)) = some (!plaB v) := by
 unfold plaB
 by_cases h : v < 0
 ·rw [if_pos h, decide_eq_false (by omega)]; rfl
 ·rw [if_neg h]
  by_cases q : v > 12
  ·rw [decide_eq_true q, decide_eq_false (by omega)]; rfl
  ·rw [decide_eq_false q, decide_eq_true (by omega)]; rfl
section
variable {s : api_State} {x : api_Instr} {n : reticentref10_N}
theorem nt_el (h1 : x.Op ≠ 1) (h5 : x.Op ≠ 5) (h6 : x.Op ≠ 6) (h7 : x.Op ≠ 7) (h9 : x.Op ≠ 9) (h10 : x.Op ≠ 10) : needsT s x n = some ⟨true, n.A, n.B, n.R, n.One, n.Two, n.Three, n.Below⟩ := by
 unfold needsT
 rw [if_neg h1, if_neg h5, decide_eq_false h6, bsome, if_neg ff, if_neg h7, decide_eq_false h9, bsome, if_neg ff, if_neg h10]; rfl
theorem nt_1 (h1 : x.Op = 1) : needsT s x n = some ⟨true, n.A, n.B, n.R, x.L, n.Two, n.Three, n.Below⟩ := by
 unfold needsT
 rw [if_pos h1]; rfl
theorem nt_5 (h : x.Op = 5) : needsT s x n = if 0 <= n.A.V /\ n.A.V < (s.Mem.length : Int) then some ⟨true, n.A, n.B, n.R, n.One, (mm s n.A.V).L, n.Three, n.Below⟩ else some N0 := by
 unfold needsT
 rw [if_neg (show ¬ x.Op = 1 by omega), if_pos h, decide_eq_true h, bsome, if_pos rfl, bad_mem, bsome]
 by_cases q : 0 <= n.A.V /\ n.A.V < (s.Mem.length : Int)
 ·rw [decide_eq_true q, if_neg (show ¬ (!true) = true by decide), if_pos q, if_pos h, mm_at q.1 q.2]; rfl
 ·rw [decide_eq_false q, if_pos (show (!false) = true by decide), if_neg q]; rfl
theorem nt_6 (h : x.Op = 6) : needsT s x n = if 0 <= n.A.V /\ n.A.V < (s.Mem.length : Int) then some ⟨true, n.A, n.B, n.R, n.One, n.Two, (mm s n.A.V).L, n.Below⟩ else some N0 := by
 unfold needsT
 rw [if_neg (show ¬ x.Op = 1 by omega), if_neg (show ¬ x.Op = 5 by omega), decide_eq_true h, bsome, if_pos rfl, bad_mem, bsome]
 by_cases q : 0 <= n.A.V /\ n.A.V < (s.Mem.length : Int)
 ·rw [decide_eq_true q, if_neg (show ¬ (!true) = true by decide), if_pos q, if_neg (show ¬ x.Op = 5 by omega), mm_at q.1 q.2]; rfl
 ·rw [decide_eq_false q, if_pos (show (!false) = true by decide), if_neg q]; rfl
theorem nt_79 (hn : s.Stack.length <= 1000) {k : Nat} (hk : x.N = (k : Int)) (hb : k <= 900) (h : x.Op = 7 ∨ x.Op = 9) : needsT s x n = if plaB n.A.V = true /\ callB s.Stack 0 k = true then some ⟨true, n.A, n.B, n.R, n.One, n.Two, n.Three, n.Below⟩ else some N0 := by
 unfold needsT
 have e : ((if x.Op = 7 then (some (decide (x.Op = 7))) else (some (decide (x.Op = 9))) : Option Bool)) = some true := by
  rcases h with h | h
  ·rw [if_pos h, decide_eq_true h]
  ·rw [if_neg (by omega), decide_eq_true h]
 have q4 := l4_r (s := s) (x := x) hn k 0 (by rw [Nat.zero_add]; exact hk) (by omega)
 rw [show ((0 : Nat) : Int) = 0 from rfl] at q4
 rw [if_neg (show ¬ x.Op = 1 by omega), if_neg (show ¬ x.Op = 5 by omega), decide_eq_false (show ¬ x.Op = 6 by omega), bsome, if_neg ff, e, bsome, if_pos rfl, bad_pla, bsome, q4, bsome]
 cases plaB n.A.V with
 | false => rfl
 | true => cases callB s.Stack 0 k <;> rfl
theorem nt_10 (hn : s.Stack.length <= 1000) {k : Nat} (hk : n.Below = (k : Int)) (hb : k <= s.Stack.length) (h : x.Op = 10) : needsT s x n = if 0 < frU s.Stack k then some ⟨true, n.A, n.B, s.Stack.getD (frU s.Stack k - 1) ⟨true, 0, 0⟩, n.One, (s.Stack.getD (frU s.Stack k - 1) ⟨true, 0, 0⟩).L, n.Three, (frU s.Stack k : Int) - 1⟩ else some N0 := by
 unfold needsT
 have hf := frU_le s.Stack k
 rw [if_neg (show ¬ x.Op = 1 by omega), if_neg (show ¬ x.Op = 5 by omega), decide_eq_false (show ¬ x.Op = 6 by omega), bsome, if_neg ff, if_neg (show ¬ x.Op = 7 by omega), decide_eq_false (show ¬ x.Op = 9 by omega), bsome, if_neg ff, if_pos h, hk, frame_r hn hb, bsome]
 by_cases q : 0 < frU s.Stack k
 ·have e : (frU s.Stack k : Int) - 1 = ((frU s.Stack k - 1 : Nat) : Int) := by omega
  rw [if_neg (show ¬ (frU s.Stack k : Int) - 1 < 0 by omega), if_pos q, e, lAt_some (show frU s.Stack k - 1 < s.Stack.length by omega), bsome, getD_is (show frU s.Stack k - 1 < s.Stack.length by omega)]; rfl
 ·rw [if_pos (show (frU s.Stack k : Int) - 1 < 0 by omega), if_neg q]; rfl
end
end Go.Proofs.YtmegdednaimgcaaGreatDoor.Ss
namespace Go.Proofs.YtmegdednaimgcaaGreatDoor.Ss
open Go Go.Proofs.YtmegdednaimgcaaGreatDoor.Ab Go.Proofs.YtmegdednaimgcaaGreatDoor.TT
theorem nX0 {S : List api_Slot} {y : Int} : nX S 0 y = ⟨false, zS, zS, zS, y, y, y, (S.length : Int)⟩ := by
 unfold nX
 rw [if_neg (by decide), if_neg (by decide), if_neg (by decide), if_neg (by decide), show ((0 : Nat) : Int) = 0 from rfl, Int.sub_zero]
theorem nX1 {S : List api_Slot} {y : Int} : nX S 1 y = ⟨false, sl S 0, zS, zS, (sl S 0).L, y, y, (S.length : Int) - 1⟩ := rfl
theorem nX2 {S : List api_Slot} {y : Int} : nX S 2 y = ⟨false, sl S 0, sl S 1, zS, (sl S 0).L, (sl S 1).L, y, (S.length : Int) - 2⟩ := rfl
theorem if_nest {α : Type} {a b c : Prop} [Decidable a] [Decidable b] [Decidable c] (h : c ↔ a /\ b) {X Y : α} : (if a then (if b then X else Y) else Y) = if c then X else Y := by
 by_cases ha : a
 ·by_cases hb : b
  ·rw [if_pos ha, if_pos hb, if_pos (h.2 ⟨ha, hb⟩)]
  ·rw [if_pos ha, if_neg hb, if_neg (fun q => hb (h.1 q).2)]
 ·rw [if_neg ha, if_neg (fun q => ha (h.1 q).1)]
section
variable {l : api_Lattice} {s : api_State} {x : api_Instr} {y : Int} (hx : lAt s.Code s.Pc.V = some x) (hb : reticentref01_Bottom.f l = some y) (hn : s.Stack.length <= 1000)
include hx hb hn
theorem needs_two (op : 0 <= x.Op /\ x.Op <= 12) (n7 : x.Op = 7 -> x.N = 0) (n9 : x.Op = 9 -> 0 <= x.N /\ x.N <= 3) (n10 : x.Op = 10 -> 0 <= x.N /\ x.N <= 1) : Two l s x (step_machine_needs.f (mach l s x y)) (reticentref10_Needs.f l s) := by
 have hn' : (topM (mach l s x y)).s_.Stack.length <= 1000 := hn
 unfold step_machine_needs.f
 show Two l s x (if x.Op = 0 then _ else (if x.Op = 12 then _ else (if x.Op = 1 then _ else (if x.Op = 2 then _ else (if x.Op = 11 then _ else (if x.Op = 3 then _ else (if x.Op = 4 then _ else (if x.Op = 5 then _ else (if x.Op = 6 then _ else (if x.Op = 7 then _ else (if x.Op = 8 then _ else (if x.Op = 9 then _ else (if x.Op = 10 then _ else _))))))))))))) _
 by_cases c0 : x.Op = 0
 ·rw [if_pos c0, tk0 hx hb hn (takes_is (c := 0) c0 (by decide) rfl), nt_el (by omega) (by omega) (by omega) (by omega) (by omega) (by omega), nX0]
  exact ⟨_, rfl, rfl⟩
 rw [if_neg c0]
 by_cases c12 : x.Op = 12
 ·rw [if_pos c12, tk0 hx hb hn (takes_is (c := 12) c12 (by decide) rfl), nt_el (by omega) (by omega) (by omega) (by omega) (by omega) (by omega), nX0]
  exact ⟨_, rfl, rfl⟩
 rw [if_neg c12]
 by_cases c1 : x.Op = 1
 ·rw [if_pos c1, tk0 hx hb hn (takes_is (c := 1) c1 (by decide) rfl), nt_1 c1, nX0]
  exact ⟨_, rfl, rfl⟩
 rw [if_neg c1]
 by_cases c2 : x.Op = 2
 ·rw [if_pos c2, tk1 hx hb hn (takes_is (c := 2) c2 (by decide) rfl), nt_el (by omega) (by omega) (by omega) (by omega) (by omega) (by omega), nX1]
  exact two_if (first_m hn') rfl rfl
 rw [if_neg c2]
 by_cases c11 : x.Op = 11
 ·rw [if_pos c11, tk1 hx hb hn (takes_is (c := 11) c11 (by decide) rfl), nt_el (by omega) (by omega) (by omega) (by omega) (by omega) (by omega), nX1]
  exact two_if (first_m hn') rfl rfl
 rw [if_neg c11]
 by_cases c3 : x.Op = 3
 ·rw [if_pos c3, tk2 hx hb hn (takes_is (c := 3) c3 (by decide) rfl), nt_el (by omega) (by omega) (by omega) (by omega) (by omega) (by omega), nX2]
  exact two_if (both_m hn') rfl rfl
 rw [if_neg c3]
 by_cases c4 : x.Op = 4
 ·rw [if_pos c4, tk2 hx hb hn (takes_is (c := 4) c4 (by decide) rfl), nt_el (by omega) (by omega) (by omega) (by omega) (by omega) (by omega), nX2]
  exact two_if (both_m hn') rfl rfl
 rw [if_neg c4]
 have hC : okC (firstM (topM (mach l s x y))) = decide (0 <= (sl s.Stack 0).V /\ (sl s.Stack 0).V < (s.Mem.length : Int)) := rfl
 by_cases c5 : x.Op = 5
 ·rw [if_pos c5, tk1 hx hb hn (takes_is (c := 5) c5 (by decide) rfl), nt_5 c5, nX1]
  rw [if_nest (c := okT (topM (mach l s x y)).s_.Stack 0 = true /\ okC (firstM (topM (mach l s x y))) = true) (by rw [hC, decide_eq_true_iff]; exact Iff.rfl)]
  exact two_if (loads_m hn') rfl rfl
 rw [if_neg c5]
 by_cases c6 : x.Op = 6
 ·rw [if_pos c6, tk2 hx hb hn (takes_is (c := 6) c6 (by decide) rfl), nt_6 c6, nX2]
  rw [if_nest (c := (okT (topM (mach l s x y)).s_.Stack 0 = true /\ okT (topM (mach l s x y)).s_.Stack 1 = true) /\ okC (firstM (topM (mach l s x y))) = true) (by rw [hC, decide_eq_true_iff]; exact Iff.rfl)]
  exact two_if (stores_m hn') rfl rfl
 rw [if_neg c6]
 by_cases c7 : x.Op = 7
 ·rw [if_pos c7, tk1 hx hb hn (takes_is (c := 7) c7 (by decide) rfl), nt_79 hn (k := 0) (n7 c7) (by omega) (.inl c7), nX1]
  rw [if_nest (c := okT (topM (mach l s x y)).s_.Stack 0 = true /\ plaB (sl (topM (mach l s x y)).s_.Stack 0).V = true) (by exact ⟨fun q => ⟨q.1, q.2, rfl⟩, fun q => ⟨q.1, q.2.1⟩⟩)]
  exact two_if (goes_m hn') rfl rfl
 rw [if_neg c7]
 by_cases c8 : x.Op = 8
 ·rw [if_pos c8, tk1 hx hb hn (takes_is (c := 8) c8 (by decide) rfl), nt_el (by omega) (by omega) (by omega) (by omega) (by omega) (by omega), nX1]
  exact two_if (first_m hn') rfl rfl
 rw [if_neg c8]
 by_cases c9 : x.Op = 9
 ·obtain ⟨q0, q3⟩ := n9 c9
  have e : x.N = ((x.N.toNat : Nat) : Int) := by omega
  rw [if_pos c9, tk1 hx hb hn (takes_is (c := 9) c9 (by decide) rfl), nt_79 hn e (by omega) (.inr c9), nX1]
  rw [if_nest (c := (okT (topM (mach l s x y)).s_.Stack 0 = true /\ plaB (sl (topM (mach l s x y)).s_.Stack 0).V = true) /\ callB (topM (mach l s x y)).s_.Stack 0 x.N.toNat = true) (by exact ⟨fun q => ⟨q.1.1, q.1.2, q.2⟩, fun q => ⟨⟨q.1, q.2.1⟩, q.2.2⟩⟩)]
  exact two_if (calls_m (m := topM (mach l s x y)) hn' e (by omega)) rfl rfl
 rw [if_neg c9]
 have c10 : x.Op = 10 := by omega
 rw [if_pos c10]
 have r := returns_m (m := topM (mach l s x y)) hn'
 have ht : reticentref10_takes.f x = some x.N := by unfold reticentref10_takes.f; rw [if_pos c10]
 obtain ⟨q0, q1⟩ := n10 c10
 by_cases cN : x.N = 1
 ·rw [if_pos (show (topM (mach l s x y)).x_.N = 1 from cN)] at r
  rw [tk1 hx hb hn (by rw [ht, cN])]
  cases h0 : okT s.Stack 0 with
  | false =>
   rw [if_neg ff]
   refine ⟨N0, rfl, ?_⟩
   have r' : step_machine_returns.f (topM (mach l s x y)) = some (.inl 3) := by
    rw [r, if_neg (fun q => by have q1 : okT s.Stack 0 = true := q.1; rw [h0] at q1; cases q1)]
   show (step_machine_returns.f (topM (mach l s x y)) >>= _) = _
   rw [r']; rfl
  | true =>
   have hp := okT_lt h0
   rw [if_pos rfl, nX1, nt_10 (n := ⟨false, sl s.Stack 0, zS, zS, (sl s.Stack 0).L, y, y, (s.Stack.length : Int) - 1⟩) hn (k := s.Stack.length - 1) (by show (s.Stack.length : Int) - 1 = _; omega) (by omega) c10]
   have r' : step_machine_returns.f (topM (mach l s x y)) = some (if 0 < frU s.Stack (s.Stack.length - 1) then .inr (retM (firstM (topM (mach l s x y))) (frU s.Stack (s.Stack.length - 1))) else .inl 3) := by
    rw [r]
    congr 1
    have e1 : (okT (topM (mach l s x y)).s_.Stack 0 = true /\ 0 < frU (topM (mach l s x y)).s_.Stack ((topM (mach l s x y)).s_.Stack.length - 1)) ↔ 0 < frU s.Stack (s.Stack.length - 1) := ⟨fun q => q.2, fun q => ⟨h0, q⟩⟩
    by_cases q : 0 < frU s.Stack (s.Stack.length - 1)
    ·rw [if_pos (e1.2 q), if_pos q]; rfl
    ·rw [if_neg (fun w => q (e1.1 w)), if_neg q]
   exact two_if r' rfl rfl
 ·have c00 : x.N = 0 := by omega
  rw [if_neg (show ¬ (topM (mach l s x y)).x_.N = 1 from cN)] at r
  rw [tk0 hx hb hn (by rw [ht, c00]), nX0, nt_10 (n := ⟨false, zS, zS, zS, y, y, y, (s.Stack.length : Int)⟩) hn (k := s.Stack.length) rfl (Nat.le_refl _) c10]
  exact two_if r rfl rfl
end
end Go.Proofs.YtmegdednaimgcaaGreatDoor.Ss
namespace Go.Proofs.YtmegdednaimgcaaGreatDoor.Ss
open Go Go.Proofs.YtmegdednaimgcaaGreatDoor.Ab Go.Proofs.YtmegdednaimgcaaGreatDoor.TT
def memS (s : api_State) (x : api_Instr) (n : reticentref10_N) (v : Int) : List api_Atom := if x.Op = 6 then s.Mem.set n.A.V.toNat ⟨n.B.V, v⟩ else s.Mem
def restS (s : api_State) (n : reticentref10_N) : List api_Slot := lCut s.Stack 0 n.Below
def stackS (s : api_State) (x : api_Instr) (n : reticentref10_N) (v : Int) : List api_Slot :=
 if x.Op = 1 then restS s n ++ [⟨false, x.N, v⟩] else if x.Op = 3 then restS s n ++ [⟨false, IntKind.i64.wrap (n.B.V + n.A.V), v⟩] else if x.Op = 4 then restS s n ++ [⟨false, IntKind.i64.wrap (n.B.V - n.A.V), v⟩] else if x.Op = 5 then restS s n ++ [⟨false, (mm s n.A.V).V, v⟩]
 else if x.Op = 9 then lCut s.Stack 0 (n.Below - x.N) ++ [⟨true, IntKind.i64.wrap (s.Pc.V + 1), s.Pc.L⟩] ++ lCut s.Stack (n.Below - x.N) n.Below else if x.Op = 10 then (if x.N = 1 then restS s n ++ [⟨false, n.A.V, v⟩] else restS s n) else restS s n
def nextS (s : api_State) (x : api_Instr) (n : reticentref10_N) : Int := if x.Op = 7 ∨ x.Op = 9 then n.A.V else if x.Op = 10 then n.R.V else if x.Op = 8 /\ n.A.V ≠ 0 then x.N else IntKind.i64.wrap (s.Pc.V + 1)
def outS (s : api_State) (x : api_Instr) (n : reticentref10_N) (v : Int) : List api_Atom := if x.Op = 11 then s.Out ++ [⟨n.A.V, v⟩] else s.Out
theorem bind_x {e : Option (step_machine × Int)} {m : step_machine} {p : Int} (h : e = some (m, p)) : (e >>= fun o => match o with | (x28, x29) => some (⟨x28.l_, ⟨⟨x29, x28.s_.Pc.L⟩, x28.s_.Code, x28.s_.Mem, x28.s_.Stack, x28.s_.Out⟩, x28.x_, x28.a_, x28.b_, x28.r_, x28.below_, x28.one_⟩ : step_machine)) = some ⟨m.l_, ⟨⟨p, m.s_.Pc.L⟩, m.s_.Code, m.s_.Mem, m.s_.Stack, m.s_.Out⟩, m.x_, m.a_, m.b_, m.r_, m.below_, m.one_⟩ := by
 rw [h]; rfl
def stS (s : api_State) (x : api_Instr) (n : reticentref10_N) (v : Int) : api_State := ⟨⟨nextS s x n, s.Pc.L⟩, s.Code, memS s x n v, stackS s x n v, outS s x n v⟩
theorem does_x {l : api_Lattice} {s : api_State} {x : api_Instr} {n : reticentref10_N} (hn : s.Stack.length <= 900) (hm : s.Mem.length <= 900) (ho : s.Out.length <= 900) (lo : 0 <= n.Below) (hi : n.Below <= (s.Stack.length : Int)) (c : x.Op = 5 ∨ x.Op = 6 -> 0 <= n.A.V /\ n.A.V < (s.Mem.length : Int)) (g : x.Op = 9 -> 0 <= x.N /\ x.N <= n.Below) (v : Int) :
  ∃ r, step_machine_does.f (mOf l s x n) v = some r /\ r.s_ = stS s x n v := by
 have hc := lCut_len (xs := s.Stack) (b := n.Below)
 have hB : 100000 <= big := by decide
 have hput : ∀ (z : Int), step_machine_put.f (⟨l, ⟨s.Pc, s.Code, s.Mem, lCut s.Stack 0 n.Below, s.Out⟩, x, n.A, n.B, n.R, n.Below, ⟨n.One, n.Two, n.Three⟩⟩ : step_machine) z v = some ⟨l, ⟨s.Pc, s.Code, s.Mem, lCut s.Stack 0 n.Below ++ [⟨false, z, v⟩], s.Out⟩, x, n.A, n.B, n.R, n.Below, ⟨n.One, n.Two, n.Three⟩⟩ := fun z => put_m (show (lCut s.Stack 0 n.Below).length <= 1000 by omega) z v
 unfold step_machine_does.f
 show ∃ r, (if (0 : Int) <= n.Below /\ n.Below <= (s.Stack.length : Int) then (slices_Clone_api_Slot_api_Slot_nn.f (lCut s.Stack 0 n.Below) >>= _) else _) = some r /\ _
 rw [if_pos ⟨lo, hi⟩, clone_s (by omega), bsome]
 have fin : ∀ (e : Option (step_machine × Int)) (m : step_machine) (p : Int), e = some (m, p) -> (⟨⟨p, m.s_.Pc.L⟩, m.s_.Code, m.s_.Mem, m.s_.Stack, m.s_.Out⟩ : api_State) = stS s x n v -> ∃ r, (e >>= fun o => match o with | (x28, x29) => some (⟨x28.l_, ⟨⟨x29, x28.s_.Pc.L⟩, x28.s_.Code, x28.s_.Mem, x28.s_.Stack, x28.s_.Out⟩, x28.x_, x28.a_, x28.b_, x28.r_, x28.below_, x28.one_⟩ : step_machine)) = some r /\ r.s_ = stS s x n v := fun e m p h1 h2 => ⟨_, bind_x h1, h2⟩
 refine fin _ ⟨l, ⟨s.Pc, s.Code, memS s x n v, stackS s x n v, outS s x n v⟩, x, n.A, n.B, n.R, n.Below, ⟨n.One, n.Two, n.Three⟩⟩ (nextS s x n) ?_ rfl
 show (if x.Op = 1 then _ else if x.Op = 3 then _ else if x.Op = 4 then _ else if x.Op = 5 then _ else if x.Op = 6 then _ else if x.Op = 11 then _ else if x.Op = 7 then _ else if x.Op = 8 then _ else if x.Op = 9 then _ else if x.Op = 10 then _ else _) = _
 have nx : x.Op ≠ 7 -> x.Op ≠ 9 -> x.Op ≠ 10 -> x.Op ≠ 8 -> nextS s x n = IntKind.i64.wrap (s.Pc.V + 1) := fun a b c d => by
  unfold nextS
  rw [if_neg (fun w => by omega), if_neg c, if_neg (fun w => d w.1)]
 have mx : x.Op ≠ 6 -> memS s x n v = s.Mem := fun a => by unfold memS; rw [if_neg a]
 have ox : x.Op ≠ 11 -> outS s x n v = s.Out := fun a => by unfold outS; rw [if_neg a]
 have sx : x.Op ≠ 1 -> x.Op ≠ 3 -> x.Op ≠ 4 -> x.Op ≠ 5 -> x.Op ≠ 9 -> x.Op ≠ 10 -> stackS s x n v = lCut s.Stack 0 n.Below := fun a b c d e f => by
  unfold stackS
  rw [if_neg a, if_neg b, if_neg c, if_neg d, if_neg e, if_neg f]; rfl
 by_cases c1 : x.Op = 1
 ·rw [if_pos c1, nx (by omega) (by omega) (by omega) (by omega), mx (by omega), ox (by omega)]
  have hs : stackS s x n v = lCut s.Stack 0 n.Below ++ [⟨false, x.N, v⟩] := by unfold stackS; rw [if_pos c1]; rfl
  rw [hs]
  show (step_machine_put.f (⟨l, ⟨s.Pc, s.Code, s.Mem, lCut s.Stack 0 n.Below, s.Out⟩, x, n.A, n.B, n.R, n.Below, ⟨n.One, n.Two, n.Three⟩⟩ : step_machine) x.N v >>= _) = _
  rw [hput]; rfl
 rw [if_neg c1]
 by_cases c3 : x.Op = 3
 ·rw [if_pos c3, nx (by omega) (by omega) (by omega) (by omega), mx (by omega), ox (by omega)]
  have hs : stackS s x n v = lCut s.Stack 0 n.Below ++ [⟨false, IntKind.i64.wrap (n.B.V + n.A.V), v⟩] := by unfold stackS; rw [if_neg c1, if_pos c3]; rfl
  rw [hs]
  show (step_machine_put.f (⟨l, ⟨s.Pc, s.Code, s.Mem, lCut s.Stack 0 n.Below, s.Out⟩, x, n.A, n.B, n.R, n.Below, ⟨n.One, n.Two, n.Three⟩⟩ : step_machine) (IntKind.i64.wrap (n.B.V + n.A.V)) v >>= _) = _
  rw [hput]; rfl
 rw [if_neg c3]
 by_cases c4 : x.Op = 4
 ·rw [if_pos c4, nx (by omega) (by omega) (by omega) (by omega), mx (by omega), ox (by omega)]
  have hs : stackS s x n v = lCut s.Stack 0 n.Below ++ [⟨false, IntKind.i64.wrap (n.B.V - n.A.V), v⟩] := by unfold stackS; rw [if_neg c1, if_neg c3, if_pos c4]; rfl
  rw [hs]
  show (step_machine_put.f (⟨l, ⟨s.Pc, s.Code, s.Mem, lCut s.Stack 0 n.Below, s.Out⟩, x, n.A, n.B, n.R, n.Below, ⟨n.One, n.Two, n.Three⟩⟩ : step_machine) (IntKind.i64.wrap (n.B.V - n.A.V)) v >>= _) = _
  rw [hput]; rfl
 rw [if_neg c4]
 by_cases c5 : x.Op = 5
 ·obtain ⟨k1, k2⟩ := c (.inl c5)
  rw [if_pos c5, nx (by omega) (by omega) (by omega) (by omega), mx (by omega), ox (by omega)]
  have hs : stackS s x n v = lCut s.Stack 0 n.Below ++ [⟨false, (mm s n.A.V).V, v⟩] := by unfold stackS; rw [if_neg c1, if_neg c3, if_neg c4, if_pos c5]; rfl
  rw [hs]
  show (lAt s.Mem n.A.V >>= _) = _
  rw [mm_at k1 k2, bsome]
  show (step_machine_put.f (⟨l, ⟨s.Pc, s.Code, s.Mem, lCut s.Stack 0 n.Below, s.Out⟩, x, n.A, n.B, n.R, n.Below, ⟨n.One, n.Two, n.Three⟩⟩ : step_machine) (mm s n.A.V).V v >>= _) = _
  rw [hput]; rfl
 rw [if_neg c5]
 by_cases c6 : x.Op = 6
 ·obtain ⟨k1, k2⟩ := c (.inr c6)
  have hmS : memS s x n v = s.Mem.set n.A.V.toNat ⟨n.B.V, v⟩ := by unfold memS; rw [if_pos c6]
  rw [if_pos c6, nx (by omega) (by omega) (by omega) (by omega), hmS, ox (by omega), sx c1 c3 c4 c5 (by omega) (by omega)]
  show (slices_Clone_api_Atom_api_Atom_nn.f s.Mem >>= _) = _
  rw [clone_a (by omega), bsome]
  show (lAt s.Mem n.A.V >>= _) = _
  rw [mm_at k1 k2]; rfl
 rw [if_neg c6]
 by_cases c11 : x.Op = 11
 ·have hoS : outS s x n v = s.Out ++ [⟨n.A.V, v⟩] := by unfold outS; rw [if_pos c11]
  rw [if_pos c11, nx (by omega) (by omega) (by omega) (by omega), mx (by omega), hoS, sx c1 c3 c4 c5 (by omega) (by omega)]
  show (slices_Clone_api_Atom_api_Atom_nn.f s.Out >>= _) = _
  rw [clone_a (by omega), bsome]
  show (if (s.Out.length + ([(⟨n.A.V, v⟩ : api_Atom)] : List api_Atom).length) * 16 <= big then _ else _) = _
  rw [if_pos (by simp; omega)]; rfl
 rw [if_neg c11]
 by_cases c7 : x.Op = 7
 ·have hx : nextS s x n = n.A.V := by unfold nextS; rw [if_pos (.inl c7)]
  rw [if_pos c7, hx, mx (by omega), ox (by omega), sx c1 c3 c4 c5 (by omega) (by omega)]; rfl
 rw [if_neg c7]
 by_cases c8 : x.Op = 8
 ·rw [if_pos c8, mx (by omega), ox (by omega), sx c1 c3 c4 c5 (by omega) (by omega)]
  show (if n.A.V = 0 then _ else _) = _
  by_cases ca : n.A.V = 0
  ·have hx : nextS s x n = IntKind.i64.wrap (s.Pc.V + 1) := by unfold nextS; rw [if_neg (by omega), if_neg (by omega), if_neg (fun w => w.2 ca)]
   rw [if_pos ca, hx]; rfl
  ·have hx : nextS s x n = x.N := by unfold nextS; rw [if_neg (by omega), if_neg (by omega), if_pos ⟨c8, ca⟩]
   rw [if_neg ca, hx]; rfl
 rw [if_neg c8]
 by_cases c9 : x.Op = 9
 ·obtain ⟨g0, g1⟩ := g c9
  have e : IntKind.i64.wrap (n.Below - x.N) = n.Below - x.N := wrapZ (by omega) (by omega)
  have hx : nextS s x n = n.A.V := by unfold nextS; rw [if_pos (.inr c9)]
  have hs : stackS s x n v = lCut s.Stack 0 (n.Below - x.N) ++ [⟨true, IntKind.i64.wrap (s.Pc.V + 1), s.Pc.L⟩] ++ lCut s.Stack (n.Below - x.N) n.Below := by unfold stackS; rw [if_neg c1, if_neg c3, if_neg c4, if_neg c5, if_pos c9]
  rw [if_pos c9, hx, mx (by omega), ox (by omega), hs]
  show (if (0 : Int) <= IntKind.i64.wrap (n.Below - x.N) /\ IntKind.i64.wrap (n.Below - x.N) <= n.Below /\ n.Below <= (s.Stack.length : Int) then (if (0 : Int) <= IntKind.i64.wrap (n.Below - x.N) /\ IntKind.i64.wrap (n.Below - x.N) <= (s.Stack.length : Int) then (slices_Concat_api_Slot_api_Slot.f ([lCut s.Stack 0 (IntKind.i64.wrap (n.Below - x.N)), ([(⟨true, IntKind.i64.wrap (s.Pc.V + 1), s.Pc.L⟩ : api_Slot)] : List api_Slot), lCut s.Stack (IntKind.i64.wrap (n.Below - x.N)) n.Below] : List (List api_Slot)) >>= _) else _) else _) = _
  rw [e, if_pos (by omega), if_pos (by omega), concat_eq (by simp) (by
   intro z hz
   simp only [List.mem_cons, List.not_mem_nil, or_false] at hz
   rcases hz with rfl | rfl | rfl <;> simp [lCut] <;> omega), bsome]
  rw [show ([lCut s.Stack 0 (n.Below - x.N), ([(⟨true, IntKind.i64.wrap (s.Pc.V + 1), s.Pc.L⟩ : api_Slot)] : List api_Slot), lCut s.Stack (n.Below - x.N) n.Below] : List (List api_Slot)).flatten = lCut s.Stack 0 (n.Below - x.N) ++ [⟨true, IntKind.i64.wrap (s.Pc.V + 1), s.Pc.L⟩] ++ lCut s.Stack (n.Below - x.N) n.Below by simp]
  rfl
 rw [if_neg c9]
 by_cases c10 : x.Op = 10
 ·have hx : nextS s x n = n.R.V := by unfold nextS; rw [if_neg (by omega), if_pos c10]
  rw [if_pos c10, hx, mx (by omega), ox (by omega)]
  show (if x.N = 1 then _ else _) = _
  by_cases cn : x.N = 1
  ·have hs : stackS s x n v = lCut s.Stack 0 n.Below ++ [⟨false, n.A.V, v⟩] := by unfold stackS; rw [if_neg c1, if_neg c3, if_neg c4, if_neg c5, if_neg c9, if_pos c10, if_pos cn]; rfl
   rw [if_pos cn, hs]
   show (step_machine_put.f (⟨l, ⟨s.Pc, s.Code, s.Mem, lCut s.Stack 0 n.Below, s.Out⟩, x, n.A, n.B, n.R, n.Below, ⟨n.One, n.Two, n.Three⟩⟩ : step_machine) n.A.V v >>= _) = _
   rw [hput]; rfl
  ·have hs : stackS s x n v = lCut s.Stack 0 n.Below := by unfold stackS; rw [if_neg c1, if_neg c3, if_neg c4, if_neg c5, if_neg c9, if_pos c10, if_neg cn]; rfl
   rw [if_neg cn, hs]; rfl
 rw [if_neg c10, nx (by omega) (by omega) (by omega) (by omega), mx (by omega), ox (by omega), sx c1 c3 c4 c5 c9 c10]; rfl
end Go.Proofs.YtmegdednaimgcaaGreatDoor.Ss
namespace Go.Proofs.YtmegdednaimgcaaGreatDoor.Ss
open Go Go.Proofs.YtmegdednaimgcaaGreatDoor.Ab Go.Proofs.YtmegdednaimgcaaGreatDoor.TT
section
variable {s : api_State} {x : api_Instr} {n : reticentref10_N} (hx : lAt s.Code s.Pc.V = some x)
include hx
theorem next_r : reticentref10_next.f s n = some (nextS s x n) := by
 unfold reticentref10_next.f nextS
 rw [hx, bsome]
 have e : ((if x.Op = 7 then (some true) else (some (decide (x.Op = 9))) : Option Bool)) = some (decide (x.Op = 7 ∨ x.Op = 9)) := by
  by_cases h : x.Op = 7
  ·rw [if_pos h, decide_eq_true (.inl h)]
  ·rw [if_neg h]
   by_cases q : x.Op = 9
   ·rw [decide_eq_true q, decide_eq_true (.inr q)]
   ·rw [decide_eq_false q, decide_eq_false (fun w => w.elim h q)]
 have e2 : ((if x.Op = 8 then (some (!decide (n.A.V = 0))) else (some false) : Option Bool)) = some (decide (x.Op = 8 /\ n.A.V ≠ 0)) := by
  by_cases h : x.Op = 8
  ·rw [if_pos h]
   by_cases q : n.A.V = 0
   ·rw [decide_eq_true q, decide_eq_false (fun w => w.2 q)]; rfl
   ·rw [decide_eq_false q, decide_eq_true ⟨h, q⟩]; rfl
  ·rw [if_neg h, decide_eq_false (fun w => h w.1)]
 rw [e, bsome]
 by_cases h : x.Op = 7 ∨ x.Op = 9
 ·rw [decide_eq_true h, if_pos rfl, if_pos h]
 ·rw [decide_eq_false h, if_neg ff, if_neg h]
  by_cases q : x.Op = 10
  ·rw [if_pos q, if_pos q]
  ·rw [if_neg q, if_neg q, e2, bsome]
   by_cases w : x.Op = 8 /\ n.A.V ≠ 0
   ·rw [decide_eq_true w, if_pos rfl, if_pos w]
   ·rw [decide_eq_false w, if_neg ff, if_neg w]
def memL (op : Bool) (v : Int) (b : api_Atom) : List api_Atom -> Nat -> List api_Atom
 | [], _ => []
 | a :: r, k => (if op = true /\ (k : Int) = v then b else a) :: memL op v b r (k + 1)
omit hx in
theorem memL_set {v : Nat} {b : api_Atom} : ∀ {m : List api_Atom} {k : Nat}, memL true ((k + v : Nat) : Int) b m k = m.set v b
 | [], k => rfl
 | a :: r, k => by
  unfold memL
  cases v with
  | zero =>
   have h : ∀ (r : List api_Atom) (j : Nat), k < j -> memL true ((k + 0 : Nat) : Int) b r j = r := by
    intro r
    induction r with
    | nil => intro j _; rfl
    | cons a r ih =>
     intro j hj
     unfold memL
     rw [if_neg (fun w => by have := w.2; omega), ih (j + 1) (by omega)]
   rw [if_pos ⟨rfl, by omega⟩, h r (k + 1) (by omega)]; rfl
  | succ v =>
   have e : ((k + (v + 1) : Nat) : Int) = ((k + 1 + v : Nat) : Int) := by omega
   rw [if_neg (fun w => by have := w.2; omega), e, memL_set (v := v) (m := r) (k := k + 1)]; rfl
omit hx in
theorem memL_no {v : Int} {b : api_Atom} : ∀ {m : List api_Atom} {k : Nat}, memL false v b m k = m
 | [], k => rfl
 | a :: r, k => by
  unfold memL
  rw [if_neg (fun w => by cases w.1), memL_no]
theorem mem_l0 {v : Int} (hm : s.Mem.length <= 900) : ∀ (d k : Nat) (acc : List api_Atom), s.Mem.length = k + d -> acc.length = k -> reticentref10_mem.l0 s n v acc (k : Int) = some (acc ++ memL (decide (x.Op = 6)) n.A.V ⟨n.B.V, v⟩ (s.Mem.drop k) k)
 | 0, k, acc, e, ha => by
  rw [reticentref10_mem.l0, if_neg (by omega), List.drop_of_length_le (by omega)]
  unfold memL
  rw [List.append_nil]
 | d + 1, k, acc, e, ha => by
  have hk : k < s.Mem.length := by omega
  have hB : 100000 <= big := by decide
  have ih := fun z => mem_l0 (v := v) hm d (k + 1) (acc ++ [z]) (by omega) (by simp [ha])
  rw [reticentref10_mem.l0, if_pos (by omega), lAt_some hk, bsome, hx, bsome, List.drop_eq_getElem_cons hk]
  unfold memL
  have e2 : ((if x.Op = 6 then (some (decide ((k : Int) = n.A.V))) else (some false) : Option Bool)) = some (decide (decide (x.Op = 6) = true /\ (k : Int) = n.A.V)) := by
   by_cases h : x.Op = 6
   ·rw [if_pos h]
    congr 1
    exact decide_eq_decide.2 ⟨fun w => ⟨decide_eq_true h, w⟩, fun w => w.2⟩
   ·rw [if_neg h, decide_eq_false (fun w => h (of_decide_eq_true w.1))]
  rw [e2, bsome]
  by_cases w : decide (x.Op = 6) = true /\ (k : Int) = n.A.V
  ·rw [if_pos w, decide_eq_true w, if_pos rfl, if_pos (by simp; omega), bsome, wS (by omega), ih, List.append_assoc]; rfl
  ·rw [if_neg w, decide_eq_false w, if_neg ff, if_pos (by simp; omega), bsome, wS (by omega), ih, List.append_assoc]; rfl
theorem mem_r {v : Int} (hm : s.Mem.length <= 900) (h6 : x.Op = 6 -> 0 <= n.A.V) : reticentref10_mem.f s n v = some (memS s x n v) := by
 unfold reticentref10_mem.f memS
 have h := mem_l0 hx (n := n) (v := v) hm s.Mem.length 0 [] (by omega) rfl
 rw [show ((0 : Nat) : Int) = 0 from rfl, List.nil_append, List.drop_zero] at h
 rw [h, bsome]
 by_cases q : x.Op = 6
 ·have e : n.A.V = ((0 + n.A.V.toNat : Nat) : Int) := by have := h6 q; omega
  rw [if_pos q, decide_eq_true q]
  conv => lhs; rw [e]
  rw [memL_set]
 ·rw [if_neg q, decide_eq_false q, memL_no]
omit hx in
theorem with_r {S : List api_Slot} {z : api_Slot} (h : S.length <= 900) : reticentref10_with.f S z = some (S ++ [z]) /\ reticentref10_with_row.f S z = some (S ++ [z]) := by
 have hB : 100000 <= big := by decide
 unfold reticentref10_with.f reticentref10_with_row.f
 rw [if_pos (by simp; omega), if_pos (by simp; omega)]
 exact ⟨rfl, rfl⟩
omit hx in
theorem cut_cut {S : List api_Slot} {a b : Int} (h0 : 0 <= a) (h1 : a <= b) (h2 : b <= (S.length : Int)) : lCut (lCut S 0 b) 0 a = lCut S 0 a /\ lCut (lCut S 0 b) a ((lCut S 0 b).length : Int) = lCut S a b := by
 have hl : (lCut S 0 b).length = b.toNat := by simp [lCut]; omega
 rw [hl]
 unfold lCut
 constructor
 ·simp only [Int.toNat_zero, List.drop_zero, Nat.sub_zero, List.take_take]
  congr 1; omega
 ·simp only [Int.toNat_zero, List.drop_zero, Nat.sub_zero, List.drop_take, List.take_take]
  congr 1
  omega
theorem stack_rx {v : Int} (hn : s.Stack.length <= 900) (lo : 0 <= n.Below) (hi : n.Below <= (s.Stack.length : Int)) (c : x.Op = 5 -> 0 <= n.A.V /\ n.A.V < (s.Mem.length : Int)) (g : x.Op = 9 -> 0 <= x.N /\ x.N <= n.Below) : reticentref10_stack.f s n v = some (stackS s x n v) := by
 have hc := lCut_len (xs := s.Stack) (b := n.Below)
 have hB : 100000 <= big := by decide
 have hW : ∀ z, reticentref10_with.f (lCut s.Stack 0 n.Below) z = some (lCut s.Stack 0 n.Below ++ [z]) := fun z => (with_r (by omega)).1
 unfold reticentref10_stack.f stackS restS
 rw [hx, bsome, if_pos ⟨lo, hi⟩]
 by_cases c1 : x.Op = 1
 ·rw [if_pos c1, if_pos c1, hW]; rfl
 rw [if_neg c1, if_neg c1]
 by_cases c3 : x.Op = 3
 ·rw [if_pos c3, if_pos c3, hW]; rfl
 rw [if_neg c3, if_neg c3]
 by_cases c4 : x.Op = 4
 ·rw [if_pos c4, if_pos c4, hW]; rfl
 rw [if_neg c4, if_neg c4]
 by_cases c5 : x.Op = 5
 ·obtain ⟨k1, k2⟩ := c c5
  rw [if_pos c5, if_pos c5, mm_at k1 k2, bsome, hW]; rfl
 rw [if_neg c5, if_neg c5]
 by_cases c9 : x.Op = 9
 ·obtain ⟨g0, g1⟩ := g c9
  have e : IntKind.i64.wrap (n.Below - x.N) = n.Below - x.N := wrapZ (by omega) (by omega)
  obtain ⟨q1, q2⟩ := cut_cut (S := s.Stack) (a := n.Below - x.N) (b := n.Below) (by omega) (by omega) hi
  have hl : (lCut s.Stack 0 n.Below).length = n.Below.toNat := by simp [lCut]; omega
  have hA : (lCut s.Stack 0 (n.Below - x.N)).length <= 900 := Nat.le_trans lCut_len hn
  have hD : (lCut s.Stack (n.Below - x.N) n.Below).length <= 900 := by simp [lCut]; omega
  rw [if_pos c9, if_pos c9, e, if_pos (by omega), q1, (with_r hA).2, bsome, if_pos (by omega), q2, if_pos (by simp only [List.length_append, List.length_singleton]; omega)]; rfl
 rw [if_neg c9, if_neg c9]
 by_cases c10 : x.Op = 10
 ·rw [if_pos c10, if_pos c10]
  by_cases cn : x.N = 1
  ·rw [if_pos cn, if_pos cn, hW]; rfl
  ·rw [if_neg cn, if_neg cn]; rfl
 ·rw [if_neg c10, if_neg c10]; rfl
end
end Go.Proofs.YtmegdednaimgcaaGreatDoor.Ss
namespace Go.Proofs.YtmegdednaimgcaaGreatDoor.Ss
open Go Go.Proofs.YtmegdednaimgcaaGreatDoor.Ab Go.Proofs.YtmegdednaimgcaaGreatDoor.TT
theorem inn_lab {n : Nat} {a : Int} (h : labB (n : Int) a = true) : inn n a = true := by
 have := of_decide_eq_true h
 unfold inn
 rw [decide_eq_true this.1, decide_eq_true this.2]; rfl
structure Labs (n : Int) (s : api_State) : Prop where
 pc : labB n s.Pc.L = true
 st : ∀ x ∈ s.Stack, labB n x.L = true
 me : ∀ x ∈ s.Mem, labB n x.L = true
theorem labs_of {n : Int} {s : api_State} (h : rightS n s = true) : Labs n s := by
 unfold rightS at h
 simp only [Bool.and_eq_true] at h
 obtain ⟨⟨⟨⟨⟨⟨h1, h2⟩, h3⟩, ⟨h4, h5⟩, h6⟩, h7⟩, h8⟩, h9⟩ := h
 refine ⟨h3, fun x hx => ?_, fun x hx => ?_⟩
 ·have := List.all_eq_true.1 h8 x hx
  unfold okS at this
  rw [Bool.and_eq_true] at this
  exact this.1
 ·have := List.all_eq_true.1 h7 x hx
  unfold okA at this
  rw [Bool.and_eq_true] at this
  exact this.2
theorem ins_l {n : Int} {x : api_Instr} (h : insB n x = true) (h1 : x.Op = 1) : labB n x.L = true := by
 unfold insB at h
 rw [if_pos h1] at h
 have := of_decide_eq_true h
 unfold labB
 exact decide_eq_true ⟨this.2.2.1, this.2.2.2⟩
section
variable {l : api_Lattice} {U : List Nat} (h : Nm l U) (hc : chk l U = 0)
include h hc
theorem judged {labels : List Int} (h4 : labels.length = 4) (ha : labels.all (inn U.length) = true) {r : List Int} {b : Bool} (hr : right r = some b) :
  (b = false -> ∃ c : Bool, judge_Cond.f l r labels = some (c, 0) /\ reticentref07_Judge.f l r labels = some ⟨c, 0, 0⟩) /\ (b = true -> ∃ v : Int, judge_Label.f l r labels = some (v, 0) /\ reticentref07_Judge.f l r labels = some ⟨false, v, 0⟩) := by
 obtain ⟨E, hn, hle, hJ, hM, hb, ht, _⟩ := je_of h hc h4 ha
 have R := je_ref h hc hn hle hJ hM hb ht
 obtain ⟨t, h1, h2, h3, h40⟩ := right_wf hr
 subst h3
 have hm : mayS l U t.flat labels b = 0 := by
  unfold mayS okL
  rw [if_pos hc, if_pos hr, decide_eq_true h4, ha]; rfl
 constructor
 ·intro e
  subst e
  refine ⟨(ev E t).1, cond_is h E h1 h2 (by omega) (by omega) hm, ?_⟩
  rw [judge_ref E R h1 (by omega)]
  unfold vis via
  rw [h2]; rfl
 ·intro e
  subst e
  refine ⟨((ev E t).2 : Int), label_is h E h1 h2 (by omega) (by omega) hm, ?_⟩
  rw [judge_ref E R h1 (by omega)]
  unfold vis via
  rw [h2]; rfl
theorem bots : ∃ y : Nat, y < U.length /\ lattice_Bottom.f l = some ((y : Int), 0) /\ reticentref01_Bottom.f l = some (y : Int) := by
 obtain ⟨y0, ⟨hy, _⟩, _⟩ := bot_prog h hc
 have h0 : inn U.length 0 = true := by
  have := inn_of (n := U.length) (k := 0) (by omega)
  simpa using this
 obtain ⟨E, hn, hle, hJ, hM, hb, ht, _⟩ := je_of h hc (labels := [0, 0, 0, 0]) rfl (by simp [h0])
 have R := je_ref h hc hn hle hJ hM hb ht
 exact ⟨E.bot, by rw [<- hn]; exact E.hbot.1, E.hbot.2, R.rbot⟩
end
def TT (s : api_State) (x : api_Instr) (n : reticentref10_N) (v w : Int) : api_State := ⟨⟨nextS s x n, w⟩, s.Code, memS s x n v, stackS s x n v, outS s x n v⟩
def KR (a0 : api_Lattice) (a2 : api_State) (y2 : reticentref10_N) (y3 : api_Instr) (y6 : api_Row) : Option reticentref10_O :=
 reticentref07_Judge.f a0 y6.May ([a2.Pc.L, y2.One, y2.Two, y2.Three] : List Int) >>= fun y7 => if (!y7.Is) = true then (some (⟨a2, 2⟩ : reticentref10_O)) else (reticentref07_Judge.f a0 y6.Res ([a2.Pc.L, y2.One, y2.Two, y2.Three] : List Int) >>= fun y9 => reticentref10_mem.f a2 y2 y9.A >>= fun y10 => reticentref10_stack.f a2 y2 y9.A >>= fun y11 => reticentref10_next.f a2 y2 >>= fun y12 => reticentref07_Judge.f a0 y6.Pc ([a2.Pc.L, y2.One, y2.Two, y2.Three] : List Int) >>= fun y13 => if y3.Op = 11 then (if (([] : List api_Atom).length + a2.Out.length) * 16 <= big then (if ((([] : List api_Atom) ++ a2.Out).length + ([(⟨y2.A.V, y9.A⟩ : api_Atom)] : List api_Atom).length) * 16 <= big then (reticentref09_Right.f a0 (⟨⟨y12, y13.A⟩, a2.Code, y10, y11, (([] : List api_Atom) ++ a2.Out) ++ ([(⟨y2.A.V, y9.A⟩ : api_Atom)] : List api_Atom)⟩ : api_State) >>= fun y17 => if (!y17) = true then (some (⟨a2, 3⟩ : reticentref10_O)) else (some (⟨⟨⟨y12, y13.A⟩, a2.Code, y10, y11, (([] : List api_Atom) ++ a2.Out) ++ ([(⟨y2.A.V, y9.A⟩ : api_Atom)] : List api_Atom)⟩, 0⟩ : reticentref10_O))) else none) else none) else (reticentref09_Right.f a0 (⟨⟨y12, y13.A⟩, a2.Code, y10, y11, a2.Out⟩ : api_State) >>= fun y19 => if (!y19) = true then (some (⟨a2, 3⟩ : reticentref10_O)) else (some (⟨⟨⟨y12, y13.A⟩, a2.Code, y10, y11, a2.Out⟩, 0⟩ : reticentref10_O))))
structure Can (s : api_State) (x : api_Instr) (n : reticentref10_N) : Prop where
 lo : 0 <= n.Below
 hi : n.Below <= (s.Stack.length : Int)
 c : x.Op = 5 ∨ x.Op = 6 -> 0 <= n.A.V /\ n.A.V < (s.Mem.length : Int)
 g : x.Op = 9 -> 0 <= x.N /\ x.N <= n.Below
theorem TT_sz {l : api_Lattice} {s : api_State} {x : api_Instr} {n : reticentref10_N} {v w : Int} {N : Int} (z : RightS N s) (C : Can s x n) : Sz (TT s x n v w) := by
 have zs := z.stack
 have zm := z.mem
 have zo := z.out
 have zc := z.code
 obtain ⟨d, d1, d2⟩ := does_x (l := l) (x := x) (n := n) (by omega : s.Stack.length <= 900) (by omega) (by omega) C.lo C.hi C.c C.g v
 obtain ⟨d', d1', k⟩ := does_m (m := mOf l s x n) (by show s.Stack.length <= 900; omega) (by show s.Mem.length <= 900; omega) (by show s.Out.length <= 900; omega) C.lo C.hi (fun q => decide_eq_true (C.c q)) C.g v
 rw [d1] at d1'
 obtain rfl := Option.some.inj d1'
 have k2 : (memS s x n v).length = s.Mem.length := by have := k.mem; rw [d2] at this; exact this
 have k3 : (stackS s x n v).length <= s.Stack.length + 1 := by have := k.st; rw [d2] at this; exact this
 refine ⟨by show s.Code.length <= 1000; omega, by show (memS s x n v).length <= 1000; omega, by show (stackS s x n v).length <= 1000; omega, ?_⟩
 show (outS s x n v).length <= 1000
 unfold outS
 split
 ·rw [List.length_append, List.length_singleton]; omega
 ·omega
section
variable {l : api_Lattice} {U : List Nat} (h : Nm l U) (hc : chk l U = 0) {s : api_State} {x : api_Instr} {n : reticentref10_N} (z : RightS (l.Up.length : Int) s) (C : Can s x n) {row : api_Row} {c : Bool} {v w : Int}
include h hc z C
theorem K_eq (c1 : judge_Cond.f l row.May [s.Pc.L, n.One, n.Two, n.Three] = some (c, 0)) (v1 : judge_Label.f l row.Res [s.Pc.L, n.One, n.Two, n.Three] = some (v, 0)) (w1 : judge_Label.f l row.Pc [s.Pc.L, n.One, n.Two, n.Three] = some (w, 0)) :
  K l s (mOf l s x n) row = some (if c = true then (if rightS (l.Up.length : Int) (TT s x n v w) = true then .inr (TT s x n v w, 0) else .inl 3) else .inl 2) := by
 have zs := z.stack
 have zm := z.mem
 have zo := z.out
 obtain ⟨d, d1, d2⟩ := does_x (l := l) (x := x) (n := n) (by omega : s.Stack.length <= 900) (by omega) (by omega) C.lo C.hi C.c C.g v
 unfold K
 show (judge_Cond.f l row.May [s.Pc.L, n.One, n.Two, n.Three] >>= _) = _
 rw [c1, bsome]
 cases c with
 | false => rfl
 | true =>
  show (judge_Label.f l row.Res [s.Pc.L, n.One, n.Two, n.Three] >>= _) = _
  rw [v1, bsome]
  show (judge_Label.f l row.Pc [s.Pc.L, n.One, n.Two, n.Three] >>= _) = _
  rw [w1, bsome, d1, bsome, d2]
  show (state_Right.f l (TT s x n v w) >>= _) = _
  rw [right_s h hc (TT_sz (l := l) z C), bsome, need_p, bsome]
  cases rightS (l.Up.length : Int) (TT s x n v w) <;> rfl
theorem KR_eq (hx : lAt s.Code s.Pc.V = some x) (c1 : reticentref07_Judge.f l row.May [s.Pc.L, n.One, n.Two, n.Three] = some ⟨c, 0, 0⟩) (v1 : reticentref07_Judge.f l row.Res [s.Pc.L, n.One, n.Two, n.Three] = some ⟨false, v, 0⟩) (w1 : reticentref07_Judge.f l row.Pc [s.Pc.L, n.One, n.Two, n.Three] = some ⟨false, w, 0⟩) :
  KR l s n x row = some (if c = true then (if rightS (l.Up.length : Int) (TT s x n v w) = true then ⟨TT s x n v w, 0⟩ else ⟨s, 3⟩) else ⟨s, 2⟩) := by
 have zs := z.stack
 have zm := z.mem
 have zo := z.out
 have hB : 100000 <= big := by decide
 have zz := TT_sz (l := l) (v := v) (w := w) z C
 unfold KR
 rw [c1, bsome]
 cases c with
 | false => rfl
 | true =>
  rw [if_neg (show ¬ (!true) = true by decide), if_pos rfl, v1, bsome]
  show (reticentref10_mem.f s n v >>= fun y10 => reticentref10_stack.f s n v >>= _) = _
  rw [mem_r hx (by omega) (fun q => (C.c (.inr q)).1), bsome, stack_rx hx (by omega) C.lo C.hi (fun q => C.c (.inl q)) C.g, bsome, next_r hx, bsome, w1, bsome]
  by_cases h11 : x.Op = 11
  ·have e : (⟨⟨nextS s x n, w⟩, s.Code, memS s x n v, stackS s x n v, ([] ++ s.Out) ++ [(⟨n.A.V, v⟩ : api_Atom)]⟩ : api_State) = TT s x n v w := by unfold TT outS; rw [if_pos h11]; rfl
   rw [if_pos h11, if_pos (show (([] : List api_Atom).length + s.Out.length) * 16 <= big by simp; omega), if_pos (show ((([] : List api_Atom) ++ s.Out).length + ([(⟨n.A.V, v⟩ : api_Atom)] : List api_Atom).length) * 16 <= big by simp; omega)]
   show (reticentref09_Right.f l (⟨⟨nextS s x n, w⟩, s.Code, memS s x n v, stackS s x n v, ([] ++ s.Out) ++ [(⟨n.A.V, v⟩ : api_Atom)]⟩ : api_State) >>= fun y17 => if (!y17) = true then some (⟨s, 3⟩ : reticentref10_O) else some (⟨(⟨⟨nextS s x n, w⟩, s.Code, memS s x n v, stackS s x n v, ([] ++ s.Out) ++ [(⟨n.A.V, v⟩ : api_Atom)]⟩ : api_State), 0⟩ : reticentref10_O)) = _
   rw [e, right_rs zz, bsome]
   cases rightS (l.Up.length : Int) (TT s x n v w) <;> rfl
  ·have e : (⟨⟨nextS s x n, w⟩, s.Code, memS s x n v, stackS s x n v, s.Out⟩ : api_State) = TT s x n v w := by unfold TT outS; rw [if_neg h11]
   rw [if_neg h11]
   show (reticentref09_Right.f l (⟨⟨nextS s x n, w⟩, s.Code, memS s x n v, stackS s x n v, s.Out⟩ : api_State) >>= fun y19 => if (!y19) = true then some (⟨s, 3⟩ : reticentref10_O) else some (⟨(⟨⟨nextS s x n, w⟩, s.Code, memS s x n v, stackS s x n v, s.Out⟩ : api_State), 0⟩ : reticentref10_O)) = _
   rw [e, right_rs zz, bsome]
   cases rightS (l.Up.length : Int) (TT s x n v w) <;> rfl
end
theorem stepR {l : api_Lattice} {R : List api_Row} {s : api_State} {n : reticentref10_N} {x : api_Instr} (h0 : s.Pc.V < (s.Code.length : Int)) (hx : lAt s.Code s.Pc.V = some x) (hN : reticentref10_Needs.f l s = some n) :
  reticentref10_Step.f l ⟨R⟩ s = (if (!n.Is) = true then (some (⟨s, 3⟩ : reticentref10_O)) else (if x.Op = 12 then (some (⟨s, 1⟩ : reticentref10_O)) else (lAt R x.Op >>= fun y6 => KR l s n x y6))) := by
 unfold reticentref10_Step.f KR
 rw [if_neg (show ¬ s.Pc.V >= (s.Code.length : Int) by omega), hN, bsome, hx, bsome]
theorem stepP {l : api_Lattice} {R : List api_Row} {s : api_State} {n : reticentref10_N} {x : api_Instr} {y : Int} (h0 : s.Pc.V < (s.Code.length : Int)) (hx : lAt s.Code s.Pc.V = some x) (hb : lattice_Bottom.f l = some (y, 0)) (hP : step_machine_needs.f (mach l s x y) = some (if n.Is = true then .inr (mOf l s x n) else .inl 3)) :
  step_step.B l ⟨R⟩ s = (if (!n.Is) = true then some (.inl 3) else (if x.Op = 12 then some (.inl 1) else (lAt R x.Op >>= fun y6 => K l s (mOf l s x n) y6))) := by
 unfold step_step.B
 rw [need_p, bsome, decide_eq_true h0, if_pos rfl]
 show (lattice_Bottom.f l >>= _) = _
 rw [hb, bsome, hx, bsome]
 show (step_machine_needs.f (mach l s x y) >>= _) = _
 rw [hP, bsome]
 cases n.Is <;> rfl
section
variable {l : api_Lattice} {U : List Nat} (h : Nm l U) (hc : chk l U = 0)
include h hc
theorem step_ref {s : api_State} (hr : rightS (l.Up.length : Int) s = true) {R : List api_Row} (hF : Few R) (hT : (chT R).2 = 0) :
  ∃ r o, step_step.B l ⟨R⟩ s = some r /\ reticentref10_Step.f l ⟨R⟩ s = some o /\ (finD s r).1 = o.S /\ (finD s r).2 = o.What := by
 have z := rs_of hr
 have L := labs_of hr
 have zs := z.stack
 obtain ⟨h13, _, hRr, _⟩ := chT_zero hT
 by_cases h0 : s.Pc.V < (s.Code.length : Int)
 ·obtain ⟨x, ea, hm⟩ := code_at z h0
  have hi := z.ins x hm
  obtain ⟨i0, i1⟩ := ins_of hi
  obtain ⟨n7, n10⟩ := ins_n hi
  obtain ⟨y, hy, hb, hbr⟩ := bots h hc
  have hyl : labB (l.Up.length : Int) (y : Int) = true := by
   unfold labB
   rw [h.n]
   exact decide_eq_true ⟨by omega, by omega⟩
  obtain ⟨n, hN, hP⟩ := needs_two (l := l) ea hbr (by omega) i0 n7 i1 n10
  obtain ⟨rr, hrr, hq⟩ := needs_a (P := fun v => labB (l.Up.length : Int) v = true) (a := mach l s x (y : Int)) ⟨by show s.Stack.length <= 1000; omega, hyl, hyl, hyl, L.st, L.me, i0, fun w => ins_l hi w, i1⟩
  rw [stepP h0 ea hb hP, stepR h0 ea hN]
  cases hI : n.Is with
  | false => exact ⟨_, _, rfl, rfl, rfl, rfl⟩
  | true =>
   rw [if_neg (show ¬ (!true) = true by decide), if_neg (show ¬ (!true) = true by decide)]
   rw [hI, if_pos rfl] at hP
   rw [hP] at hrr
   obtain rfl := Option.some.inj hrr
   have F : Fine (fun v => labB (l.Up.length : Int) v = true) (mach l s x (y : Int)) (mOf l s x n) := hq
   by_cases h12 : x.Op = 12
   ·rw [if_pos h12, if_pos h12]
    exact ⟨_, _, rfl, rfl, rfl, rfl⟩
   ·rw [if_neg h12, if_neg h12]
    have eo : x.Op = ((x.Op.toNat : Nat) : Int) := by omega
    have hlt : x.Op.toNat < R.length := by omega
    have hla : lAt R x.Op = some R[x.Op.toNat] := by
     have := lAt_some (xs := R) hlt
     rwa [<- eo] at this
    have hrow := hRr _ (List.getElem_mem hlt)
    rw [hla, bsome, bsome]
    generalize R[x.Op.toNat] = row at hrow
    have hlabs : ([s.Pc.L, n.One, n.Two, n.Three] : List Int).all (inn U.length) = true := by
     have e : (l.Up.length : Int) = (U.length : Int) := by rw [h.n]
     have a1 := L.pc
     have a2 : labB (l.Up.length : Int) n.One = true := F.o0
     have a3 : labB (l.Up.length : Int) n.Two = true := F.o1
     have a4 : labB (l.Up.length : Int) n.Three = true := F.o2
     rw [e] at a1 a2 a3 a4
     simp [inn_lab a1, inn_lab a2, inn_lab a3, inn_lab a4]
    obtain ⟨c, c1, c2⟩ := (judged h hc (labels := [s.Pc.L, n.One, n.Two, n.Three]) rfl hlabs hrow.may).1 rfl
    obtain ⟨v, v1, v2⟩ := (judged h hc (labels := [s.Pc.L, n.One, n.Two, n.Three]) rfl hlabs hrow.res).2 rfl
    obtain ⟨w, w1, w2⟩ := (judged h hc (labels := [s.Pc.L, n.One, n.Two, n.Three]) rfl hlabs hrow.pc).2 rfl
    have C : Can s x n := ⟨F.lo, F.hi, fun q => of_decide_eq_true (F.c q), fun q => ⟨(i1 q).1, F.g q⟩⟩
    rw [K_eq h hc z C c1 v1 w1, KR_eq h hc z C ea c2 v2 w2]
    refine ⟨_, _, rfl, rfl, ?_⟩
    cases c with
    | false => exact ⟨rfl, rfl⟩
    | true =>
     rw [if_pos rfl, if_pos rfl]
     cases rightS (l.Up.length : Int) (TT s x n v w) with
     | false => exact ⟨rfl, rfl⟩
     | true => exact ⟨rfl, rfl⟩
 ·unfold step_step.B reticentref10_Step.f
  rw [need_p, bsome, decide_eq_false h0, if_neg ff, if_pos (show s.Pc.V >= (s.Code.length : Int) by omega)]
  exact ⟨_, _, rfl, rfl, rfl, rfl⟩
end
theorem may_r {l : api_Lattice} {U : List Nat} (h : Nm l U) {R : List api_Row} (hF : Few R) {s : api_State} (z : Sz s) : reticentref10_May.f l ⟨R⟩ s = some (mayO l U R s) := by
 unfold reticentref10_May.f mayO
 rw [refCheck_eq h, bsome]
 by_cases hc : chk l U = 0
 ·rw [if_pos hc, if_pos hc, trefCheck_eq hF, bsome]
  by_cases hT : (chT R).2 = 0
  ·rw [if_pos hT, if_pos hT, right_rs z, bsome]
   cases rightS (l.Up.length : Int) s <;> rfl
  ·rw [if_neg hT, if_neg hT, bsome]
 ·rw [if_neg hc, if_neg hc]
end Go.Proofs.YtmegdednaimgcaaGreatDoor.Ss
namespace Go.Proofs.YtmegdednaimgcaaGreatDoor.Ss
open Go Go.Proofs.YtmegdednaimgcaaGreatDoor.Ab Go.Proofs.YtmegdednaimgcaaGreatDoor.TT
abbrev LastT := api_State × Int × Int × Int × (List api_Instr) × (List api_Atom) × (List api_Slot) × (List api_Atom)
def lastT (s : api_State) (q : Int) : LastT := (s, q, s.Pc.V, s.Pc.L, s.Code, s.Mem, s.Stack, s.Out)
theorem yieldL {a : LastT} (x : api_State) (q : Int) : yOf run_Last.y0 (a, 0) x q = some (true, (lastT x q, 0)) := rfl
def lastS (st : api_State -> api_State × Int) : Nat -> api_State -> api_State
 | 0, s => s
 | k + 1, s => if (st s).2 = 0 then lastS st k (st s).1 else s
theorem lastS_at {st : api_State -> api_State × Int} : ∀ (k : Nat) (s : api_State), ∃ pre, (runL st k s).1 = pre ++ [lastS st k s]
 | 0, s => ⟨[], rfl⟩
 | k + 1, s => by
  unfold runL lastS
  by_cases q : (st s).2 = 0
  ·rw [if_pos q, if_pos q]
   obtain ⟨pre, e⟩ := lastS_at k (st s).1
   exact ⟨s :: pre, by rw [e]; rfl⟩
  ·rw [if_neg q, if_neg q]
   exact ⟨[], rfl⟩
section
variable {l : api_Lattice} {R : List api_Row} {st : api_State -> api_State × Int} {G : api_State -> Prop} (K : StepOk l R st G)
include K
theorem last_l0 {k : Nat} (hk : k <= 900) : ∀ (d i : Nat) (s : api_State) (a : LastT), G s -> k = i + d ->
  (run_states_1.l0 (yOf run_Last.y0) (k : Int) l ⟨R⟩ s (a, 0) (i : Int) >>= fun o => match o with | .inl r => some r | .inr (x22, x23) => yOf run_Last.y0 x23 x22 0 >>= fun y43 => some y43.2) = some (lastT (lastS st d s) (runL st d s).2, 0)
 | 0, i, s, a, hs, e => by
  rw [run_states_1.l0, if_neg (by omega), bsome]
  show (yOf run_Last.y0 (a, 0) s 0 >>= _) = _
  rw [yieldL, bsome]; rfl
 | d + 1, i, s, a, hs, e => by
  rw [run_states_1.l0, if_pos (by omega)]
  show ((step_One.f l ⟨R⟩ s >>= _) >>= _) = _
  rw [K.one s hs, bsome]
  show (((yOf run_Last.y0 (a, 0) s (st s).2 >>= _) >>= _) >>= _) = _
  rw [yieldL, bsome]
  show (((if (!true) = true then _ else _) >>= _) >>= _) = _
  rw [if_neg (show ¬ (!true) = true by decide), bsome]
  by_cases q : (st s).2 = 0
  ·have hq : runL st (d + 1) s = (s :: (runL st d (st s).1).1, (runL st d (st s).1).2) := by
    show (if (st s).2 = 0 then _ else _) = _
    rw [if_pos q]
   have hl : lastS st (d + 1) s = lastS st d (st s).1 := by
    show (if (st s).2 = 0 then _ else _) = _
    rw [if_pos q]
   show ((if (!decide ((st s).2 = 0)) = true then _ else run_states_1.l0 (yOf run_Last.y0) (k : Int) l ⟨R⟩ (st s).1 (lastT s (st s).2, 0) (IntKind.i64.wrap ((i : Int) + 1))) >>= _) = _
   rw [decide_eq_true q, if_neg (by decide), wS (by omega), last_l0 hk d (i + 1) (st s).1 _ (K.next s hs) (by omega), hq, hl]
  ·have hq : runL st (d + 1) s = ([s], (st s).2) := by
    show (if (st s).2 = 0 then _ else _) = _
    rw [if_neg q]
   have hl : lastS st (d + 1) s = s := by
    show (if (st s).2 = 0 then _ else _) = _
    rw [if_neg q]
   show ((if (!decide ((st s).2 = 0)) = true then some (Sum.inl (lastT s (st s).2, 0)) else _) >>= _) = _
   rw [decide_eq_false q, if_pos (by decide), bsome, hq, hl]
theorem last_eq {s : api_State} (hs : G s) {k : Nat} (hk : k <= 40) : run_Last.f l ⟨R⟩ s (k : Int) = some (lastS st k s, (runL st k s).2, 0) := by
 unfold run_Last.f run_may.f
 rw [K.one s hs, bsome, if_pos rfl, if_neg (by omega), bsome, decide_eq_false (show ¬ (k : Int) > 40 by omega), if_neg (by decide), bsome, if_pos rfl]
 unfold run_states.f
 rw [bsome]
 show (run_states_1.f (yOf run_Last.y0) (lastT s 0, 0) (k : Int) l ⟨R⟩ s >>= _) = _
 have h := last_l0 K (k := k) (by omega) k 0 s (lastT s 0) hs (by omega)
 rw [show ((0 : Nat) : Int) = 0 from rfl] at h
 have h2 : run_states_1.f (yOf run_Last.y0) (lastT s 0, 0) (k : Int) l ⟨R⟩ s = some (lastT (lastS st k s) (runL st k s).2, 0) := by
  refine Eq.trans ?_ h
  unfold run_states_1.f
  refine congrArg (fun F => run_states_1.l0 (yOf run_Last.y0) (k : Int) l ⟨R⟩ s (lastT s 0, 0) 0 >>= F) (funext fun o => ?_)
  rcases o with r | ⟨x22, x23⟩ <;> rfl
 rw [h2, bsome, if_pos rfl]; rfl
theorem run_far {s : api_State} (hs : G s) {f : Int} (hf : f < 0 ∨ f > 40) : run_Run.f l ⟨R⟩ s f = some ([], 0, 1) /\ run_Last.f l ⟨R⟩ s f = some (nilS, 0, 1) := by
 have e : ((if f < 0 then (some true) else (some (decide (f > 40))) : Option Bool)) = some true := by
  by_cases q : f < 0
  ·rw [if_pos q]
  ·rw [if_neg q, decide_eq_true (by omega)]
 unfold run_Run.f run_Last.f run_may.f
 rw [K.one s hs, bsome, if_pos rfl, e, bsome, if_pos rfl, bsome]
 exact ⟨rfl, rfl⟩
end
theorem last_no {l : api_Lattice} {U : List Nat} (h : Nm l U) {R : List api_Row} (hF : Few R) {s : api_State} (z : Sz s) (hm : mayO l U R s ≠ 0) (k : Int) : run_Last.f l ⟨R⟩ s k = some (nilS, 0, mayO l U R s) := by
 unfold run_Last.f run_may.f
 rw [one_no h hF z hm, bsome]
 show ((if mayO l U R s = 0 then _ else some (mayO l U R s)) >>= _) = _
 rw [if_neg hm, bsome, if_neg hm]; rfl
structure StepRef (l : api_Lattice) (R : List api_Row) (st : api_State -> api_State × Int) (G : api_State -> Prop) : Prop where
 ref : ∀ s, G s -> reticentref10_Step.f l ⟨R⟩ s = some ⟨(st s).1, (st s).2⟩
theorem steps {l : api_Lattice} {U : List Nat} (h : Nm l U) {R : List api_Row} (hF : Few R) (hc : chk l U = 0) (hT : (chT R).2 = 0) : ∃ st, StepOk l R st (fun s => rightS (l.Up.length : Int) s = true) /\ StepRef l R st (fun s => rightS (l.Up.length : Int) s = true) := by
 obtain ⟨st, K⟩ := step_ok h hF hc hT
 refine ⟨st, K, ⟨fun s hs => ?_⟩⟩
 obtain ⟨r, o, h1, h2, h3, h4⟩ := step_ref h hc hs hF hT
 have hm : mayO l U R s = 0 := by unfold mayO; rw [if_pos hc, if_pos hT, if_pos hs]
 have e1 := one_yes h hF (rs_of hs).sz hm h1
 rw [K.one s hs] at e1
 have e2 := Option.some.inj e1
 have a1 : (st s).1 = (finD s r).1 := congrArg (fun x => x.1) e2
 have a2 : (st s).2 = (finD s r).2 := congrArg (fun x => x.2.1) e2
 rw [h2, a1, a2, h3, h4]
section
variable {l : api_Lattice} {R : List api_Row} {st : api_State -> api_State × Int} {G : api_State -> Prop} (K : StepOk l R st G) (F : StepRef l R st G)
include K F
theorem ref_l0 {k : Nat} (hk : k <= 900) : ∀ (d i : Nat) (s : api_State) (w : Int) (acc : List api_State), G s -> k = i + d -> acc.length <= i -> (d = 0 -> w = 0) ->
  (reticentref11_Run.l0 l ⟨R⟩ (k : Int) s w (acc ++ [s]) (i : Int) >>= fun o => match o with | .inl r => some r | .inr (x14, x15, x16) => some (⟨x16, x15⟩ : reticentref11_R)) = some ⟨acc ++ (runL st d s).1, (runL st d s).2⟩
 | 0, i, s, w, acc, hs, e, ha, hw => by
  rw [reticentref11_Run.l0, if_neg (by omega), bsome]
  show some (⟨acc ++ [s], w⟩ : reticentref11_R) = _
  rw [hw rfl]; rfl
 | d + 1, i, s, w, acc, hs, e, ha, hw => by
  have hB : 200000 <= big := by decide
  rw [reticentref11_Run.l0, if_pos (by omega), F.ref s hs, bsome]
  show ((if (st s).2 = 0 then (if ((acc ++ [s]).length + ([(st s).1] : List api_State).length) * 112 <= big then reticentref11_Run.l0 l ⟨R⟩ (k : Int) (st s).1 (st s).2 ((acc ++ [s]) ++ [(st s).1]) (IntKind.i64.wrap ((i : Int) + 1)) else none) else some (Sum.inl (⟨acc ++ [s], (st s).2⟩ : reticentref11_R))) >>= _) = _
  by_cases q : (st s).2 = 0
  ·have hq : runL st (d + 1) s = (s :: (runL st d (st s).1).1, (runL st d (st s).1).2) := by
    show (if (st s).2 = 0 then _ else _) = _
    rw [if_pos q]
   rw [if_pos q, if_pos (by simp; omega), wS (by omega), ref_l0 hk d (i + 1) (st s).1 _ (acc ++ [s]) (K.next s hs) (by omega) (by simp; omega) (fun _ => q), hq]
   simp
  ·have hq : runL st (d + 1) s = ([s], (st s).2) := by
    show (if (st s).2 = 0 then _ else _) = _
    rw [if_neg q]
   rw [if_neg q, bsome, hq]
theorem ref_run {s : api_State} (hs : G s) {k : Nat} (hk : k <= 40) : reticentref11_Run.f l ⟨R⟩ s (k : Int) = some ⟨(runL st k s).1, (runL st k s).2⟩ := by
 unfold reticentref11_Run.f
 have h := ref_l0 K F (k := k) (by omega) k 0 s 0 [] hs (by omega) (Nat.le_refl _) (fun _ => rfl)
 rw [show ((0 : Nat) : Int) = 0 from rfl] at h
 have hB : 200000 <= big := by decide
 rw [if_pos (show (([] : List api_State).length + ([s] : List api_State).length) * 112 <= big by simp; omega)]
 exact h
end
theorem states {l : api_Lattice} {t : api_Table} {s : api_State} {f : Int} (hl : ∃ H cs, (kR f_api_Lattice).reps H cs l) : reticentlaw11_RunStates.f l t s f = some true := by
 obtain ⟨l', U, e, h⟩ := few_eq hl
 obtain ⟨S, es, z⟩ := cut_eq s
 obtain ⟨R0⟩ := t
 have hF := tfew_ok (R := R0)
 have zN : Sz nilS := ⟨Nat.zero_le _, Nat.zero_le _, Nat.zero_le _, Nat.zero_le _⟩
 unfold reticentlaw11_RunStates.f
 rw [e, bsome, tfew_eq, bsome, es, bsome]
 generalize fewR R0 = R at hF
 by_cases hm : mayO l' U R S = 0
 ·obtain ⟨hc, hT, hr⟩ := mayO_zero hm
  obtain ⟨st, K, F⟩ := steps h hF hc hT
  have hr' : rightS (l'.Up.length : Int) S = true := hr
  by_cases hf : f < 0 ∨ f > 40
  ·obtain ⟨r1, r2⟩ := run_far K hr' hf
   have ef : ((if f < 0 then (some true) else (some (decide (f > 40))) : Option Bool)) = some true := by
    by_cases q : f < 0
    ·rw [if_pos q]
    ·rw [if_neg q, decide_eq_true (by omega)]
   rw [r1, bsome, r2, bsome, may_r h hF z, hm, bsome, if_pos rfl, ef, bsome, if_pos rfl, if_neg (by decide), alive11, bsome, if_pos rfl]
   show ((if (1 : Int) = 1 then (if (1 : Int) = 1 then (if (0 : Int) = 0 then (if (0 : Int) = 0 then (if (([] : List api_State).length : Int) = 0 then (reticentref09_Same.f nilS nilS >>= _) else _) else _) else _) else _) else _) >>= _) = _
   rw [if_pos rfl, if_pos rfl, if_pos rfl, if_pos rfl, if_pos (show (([] : List api_State).length : Int) = 0 from rfl), same_state zN]; rfl
  ·have ef : ((if f < 0 then (some true) else (some (decide (f > 40))) : Option Bool)) = some false := by
    rw [if_neg (by omega), decide_eq_false (by omega)]
   have en : f = ((f.toNat : Nat) : Int) := by omega
   have hk : f.toNat <= 40 := by omega
   generalize f.toNat = k at en hk
   subst en
   have A : ∀ x ∈ (runL st k S).1, Sz x := fun x hx => K.sz x (runL_all K.next k S hr' x hx)
   have L := runL_len (st := st) k S
   obtain ⟨pre, hp⟩ := lastS_at (st := st) k S
   have zL : Sz (lastS st k S) := A _ (by rw [hp]; simp)
   rw [run_eq K hr' hk, bsome, last_eq K hr' hk, bsome, may_r h hF z, hm, bsome, if_pos rfl, ef, bsome, if_neg ff, if_pos rfl, ref_run K F hr' hk, bsome, alive11, bsome, if_pos rfl]
   show ((if (0 : Int) = 0 then (if (0 : Int) = 0 then (if (runL st k S).2 = (runL st k S).2 then (if (runL st k S).2 = (runL st k S).2 then (reticentlaw11_same.f (runL st k S).1 (runL st k S).1 >>= fun y72 => if y72 = true then (reticentref11_Last.f ⟨(runL st k S).1, (runL st k S).2⟩ >>= _) else _) else _) else _) else _) else _) >>= _) = _
   have hl : reticentref11_Last.f ⟨(runL st k S).1, (runL st k S).2⟩ = some (lastS st k S) := by
    unfold reticentref11_Last.f
    show (lAt (runL st k S).1 (IntKind.i64.wrap (((runL st k S).1.length : Int) - 1)) >>= _) = _
    rw [w1 (by omega), hp, lAt_last, bsome]
   rw [if_pos rfl, if_pos rfl, if_pos rfl, if_pos rfl, same_list A (by omega), bsome, if_pos rfl, hl, bsome, same_state zL]; rfl
 ·rw [run_no h hF z hm, bsome, last_no h hF z hm, bsome, may_r h hF z, bsome, if_neg hm, bsome, if_neg ff, if_neg hm, alive11, bsome, if_pos rfl]
  show ((if mayO l' U R S = mayO l' U R S then (if mayO l' U R S = mayO l' U R S then (if (0 : Int) = 0 then (if (0 : Int) = 0 then (if (([] : List api_State).length : Int) = 0 then (reticentref09_Same.f nilS nilS >>= _) else _) else _) else _) else _) else _) >>= _) = _
  rw [if_pos rfl, if_pos rfl, if_pos rfl, if_pos rfl, if_pos (show (([] : List api_State).length : Int) = 0 from rfl), same_state zN]; rfl
end Go.Proofs.YtmegdednaimgcaaGreatDoor.Ss
