/- A step: clones and joins of lists. -/
import Derived.Test.YtmegdednaimgcaaDoorSs5
set_option linter.unusedVariables false
set_option linter.unusedSimpArgs false
set_option linter.unusedSectionVars false
namespace Go.Proofs.YtmegdednaimgcaaDoor.Ss
open Go Go.Proofs.YtmegdednaimgcaaDoor.Ab Go.Proofs.YtmegdednaimgcaaDoor.TT
theorem clone_s {S : List api_Slot} (h : S.length ≤ 1000) : slices_Clone_api_Slot_api_Slot_nn.f S = some S := by
  have hB : 100000 ≤ big := by decide
  unfold slices_Clone_api_Slot_api_Slot_nn.f
  rw [if_pos (show (([] : List api_Slot).length + S.length) * 24 ≤ big by simp; omega)]; rfl
theorem clone_a {S : List api_Atom} (h : S.length ≤ 1000) : slices_Clone_api_Atom_api_Atom_nn.f S = some S := by
  have hB : 100000 ≤ big := by decide
  unfold slices_Clone_api_Atom_api_Atom_nn.f
  rw [if_pos (show (([] : List api_Atom).length + S.length) * 16 ≤ big by simp; omega)]; rfl
theorem put_m {m : step_machine} (h : m.s_.Stack.length ≤ 1000) (v l : Int) : step_machine_put.f m v l = some ⟨m.l_, ⟨m.s_.Pc, m.s_.Code, m.s_.Mem, m.s_.Stack ++ [⟨false, v, l⟩], m.s_.Out⟩, m.x_, m.a_, m.b_, m.r_, m.below_, m.one_⟩ := by
  have hB : 100000 ≤ big := by decide
  unfold step_machine_put.f
  rw [if_pos (show (m.s_.Stack.length + ([(⟨false, v, l⟩ : api_Slot)] : List api_Slot).length) * 24 ≤ big by simp; omega)]
theorem flat_len_le {xss : List (List api_Slot)} (h : ∀ x ∈ xss, x.length ≤ 1000) : xss.flatten.length ≤ xss.length * 1000 := by
  induction xss with
  | nil => simp
  | cons a r ih =>
    have ha := h a (by simp)
    have := ih (fun x hx => h x (by simp [hx]))
    simp only [List.flatten_cons, List.length_append, List.length_cons, Nat.succ_mul]
    omega
theorem concat_l0 {xss : List (List api_Slot)} (hn : xss.length ≤ 100) (h : ∀ x ∈ xss, x.length ≤ 1000) : ∀ (d k : Nat) (v : Nat), xss.length = k + d → v ≤ k * 1000 → slices_Concat_api_Slot_api_Slot.l0 xss (k : Int) (v : Int) = some ((v + (xss.drop k).flatten.length : Nat) : Int)
  | 0, k, v, e, hv => by
    rw [slices_Concat_api_Slot_api_Slot.l0, if_neg (by omega), List.drop_of_length_le (by omega)]; simp
  | d + 1, k, v, e, hv => by
    have hk : k < xss.length := by omega
    have hx := h xss[k] (List.getElem_mem hk)
    have ih := concat_l0 hn h d (k + 1) (v + xss[k].length) (by omega) (by rw [Nat.succ_mul]; omega)
    have hw : IntKind.i64.wrap ((v : Int) + (xss[k].length : Int)) = ((v + xss[k].length : Nat) : Int) := by rw [wrapZ (by omega) (by omega)]; omega
    rw [slices_Concat_api_Slot_api_Slot.l0, if_pos (by omega), lAt_some hk, bsome, hw, if_neg (by omega), bsome, wS (by omega), ih, List.drop_eq_getElem_cons hk]
    simp only [List.flatten_cons, List.length_append]
    rw [Nat.add_assoc]
theorem concat_l1 {xss : List (List api_Slot)} (hn : xss.length ≤ 100) (h : ∀ x ∈ xss, x.length ≤ 1000) : ∀ (d k : Nat) (v : List api_Slot), xss.length = k + d → v.length ≤ k * 1000 → slices_Concat_api_Slot_api_Slot.l1 xss v (k : Int) = some (v ++ (xss.drop k).flatten)
  | 0, k, v, e, hv => by
    rw [slices_Concat_api_Slot_api_Slot.l1, if_neg (by omega), List.drop_of_length_le (by omega)]; simp
  | d + 1, k, v, e, hv => by
    have hk : k < xss.length := by omega
    have hx := h xss[k] (List.getElem_mem hk)
    have hB : 10000000 ≤ big := by decide
    have ih := concat_l1 hn h d (k + 1) (v ++ xss[k]) (by omega) (by rw [Nat.succ_mul]; simp; omega)
    rw [slices_Concat_api_Slot_api_Slot.l1, if_pos (by omega), lAt_some hk, bsome, if_pos (by omega), wS (by omega), ih, List.drop_eq_getElem_cons hk]
    simp only [List.flatten_cons, List.append_assoc]
theorem grow_eq {n : Nat} (h : n ≤ 100000) : slices_Grow_api_Slot_api_Slot_nil.f (n : Int) = some [] := by
  unfold slices_Grow_api_Slot_api_Slot_nil.f
  have h1 : IntKind.i64.wrap (0 - (([] : List api_Slot).length : Int)) = 0 := by decide
  have h2 : IntKind.i64.wrap ((n : Int) - 0) = (n : Int) := by rw [wrapZ (by omega) (by omega)]; omega
  have hB : 10000000 ≤ big := by decide
  rw [if_neg (by omega), h1, h2]
  by_cases h0 : (n : Int) > 0
  · rw [if_pos h0, if_pos ⟨h0, by simp; omega⟩, if_pos ⟨by simp, by simp⟩]; rfl
  · rw [if_neg h0]
theorem concat_eq {xss : List (List api_Slot)} (hn : xss.length ≤ 100) (h : ∀ x ∈ xss, x.length ≤ 1000) : slices_Concat_api_Slot_api_Slot.f xss = some xss.flatten := by
  unfold slices_Concat_api_Slot_api_Slot.f
  have h1 := concat_l0 hn h xss.length 0 0 (by omega) (by omega)
  have h2 := concat_l1 hn h xss.length 0 [] (by omega) (by simp)
  have h3 := flat_len_le h
  have h4 : xss.length * 1000 ≤ 100 * 1000 := Nat.mul_le_mul_right _ hn
  rw [show ((0 : Nat) : Int) = 0 from rfl, List.drop_zero, Nat.zero_add] at h1
  rw [show ((0 : Nat) : Int) = 0 from rfl, List.drop_zero, List.nil_append] at h2
  rw [h1, bsome, grow_eq (by omega), bsome, h2, bsome]
end Go.Proofs.YtmegdednaimgcaaDoor.Ss
