/- Programs: which may be, which two are the same, their text. -/
import Derived.Test.YtkmobcaobmchpaaDoorCgb1
import Derived.Test.YtkmobcaobmchpaaDoorGCG
set_option linter.unusedVariables false
set_option linter.unusedSimpArgs false
set_option linter.unusedSectionVars false
namespace Go.Proofs.YtkmobcaobmchpaaDoor.Cg
open Go Go.Proofs.YtkmobcaobmchpaaDoor.Ab Go.Proofs.YtkmobcaobmchpaaDoor.CG
/-! Two rows of instructions. -/
theorem isame_l0 {a b : List api_Instr} (h : a.length = b.length) (hl : a.length ≤ 1000) : ∀ (d k : Nat), a.length = k + d →
    reticentref08_Same.l0 a b (k : Int) = some (if a.drop k = b.drop k then .inr () else .inl false) ∧ slices_Equal_api_Instr_api_Instr.l0 a b (k : Int) = some (if a.drop k = b.drop k then .inr () else .inl false)
  | 0, k, e => by
    have hn : ¬ (k : Int) < (a.length : Int) := by omega
    rw [reticentref08_Same.l0, if_neg hn, slices_Equal_api_Instr_api_Instr.l0, if_neg hn, List.drop_of_length_le (by omega), List.drop_of_length_le (by omega), if_pos rfl]; exact ⟨rfl, rfl⟩
  | d + 1, k, e => by
    have hk : k < a.length := by omega
    have hk' : k < b.length := by omega
    obtain ⟨i1, i2⟩ := isame_l0 h hl d (k + 1) (by omega)
    have hp : (k : Int) < (a.length : Int) := by omega
    rw [reticentref08_Same.l0, if_pos hp, slices_Equal_api_Instr_api_Instr.l0, if_pos hp, lAt_some hk, lAt_some hk', bsome, bsome, bsome, bsome, wS (by omega), i1, i2, List.drop_eq_getElem_cons hk, List.drop_eq_getElem_cons hk']
    by_cases q : a[k] = b[k]
    · rw [if_pos q, q]
      simp only [List.cons.injEq, true_and, and_self]
    · rw [if_neg q, if_neg (fun h => q (List.cons.inj h).1)]; exact ⟨rfl, rfl⟩
theorem isame {a b : List api_Instr} (hl : a.length ≤ 1000) : reticentref08_Same.f a b = some (decide (a = b)) ∧ code_Like.f a b = some (decide (a = b)) := by
  unfold reticentref08_Same.f code_Like.f slices_Equal_api_Instr_api_Instr.f
  by_cases h : a.length = b.length
  · obtain ⟨h1, h2⟩ := isame_l0 h hl a.length 0 (by omega)
    rw [show ((0 : Nat) : Int) = 0 from rfl, List.drop_zero, List.drop_zero] at h1 h2
    have h' : (a.length : Int) = (b.length : Int) := by omega
    rw [if_pos h', if_pos h', h1, h2]
    by_cases q : a = b
    · rw [if_pos q, decide_eq_true q]; exact ⟨rfl, rfl⟩
    · rw [if_neg q, decide_eq_false q]; exact ⟨rfl, rfl⟩
  · have h' : ¬ (a.length : Int) = (b.length : Int) := by omega
    rw [if_neg h', if_neg h', decide_eq_false (fun q => h (by rw [q]))]; exact ⟨rfl, rfl⟩
/-! Which may be. -/
def rightB (n : Int) (code : List api_Instr) : Bool := decide (code.length ≤ 12) && code.all (insB n)
theorem rright_l0 {l : api_Lattice} {c : List api_Instr} (hl : c.length ≤ 1000) : ∀ (d k : Nat), c.length = k + d → reticentref08_Right.l0 l c (k : Int) = some (if (c.drop k).all (insB (l.Up.length : Int)) = true then .inr () else .inl false)
  | 0, k, e => by rw [reticentref08_Right.l0, if_neg (by omega), List.drop_of_length_le (by omega)]; rfl
  | d + 1, k, e => by
    have hk : k < c.length := by omega
    rw [reticentref08_Right.l0, if_pos (by omega), lAt_some hk, bsome, right_r, bsome, wS (by omega), rright_l0 hl d (k + 1) (by omega), List.drop_eq_getElem_cons hk, List.all_cons]
    cases insB (l.Up.length : Int) c[k] <;> simp
theorem rright_eq {l : api_Lattice} {c : List api_Instr} (hl : c.length ≤ 1000) : reticentref08_Right.f l c = some (rightB (l.Up.length : Int) c) := by
  unfold reticentref08_Right.f rightB
  have := rright_l0 (l := l) hl c.length 0 (by omega)
  rw [show ((0 : Nat) : Int) = 0 from rfl, List.drop_zero] at this
  rw [this, bsome]
  cases c.all (insB (l.Up.length : Int)) with
  | true => rw [if_pos rfl, Bool.and_true]; show some (decide ((c.length : Int) ≤ 12)) = _; congr 1; apply decide_eq_decide.2; omega
  | false => rw [if_neg (by decide), Bool.and_false]
theorem pright_l0 {l : api_Lattice} {c : List api_Instr} (hl : c.length ≤ 1000) : ∀ (d k : Nat), c.length = k + d → ∃ r : Int ⊕ Unit, slices_IndexFunc_api_Instr_api_Instr.l0 c (fun z0 => code_Right_1.f z0 l) (k : Int) = some r ∧ (match r with | .inl j => 0 ≤ j ∧ (c.drop k).all (insB (l.Up.length : Int)) = false | .inr () => (c.drop k).all (insB (l.Up.length : Int)) = true)
  | 0, k, e => by rw [slices_IndexFunc_api_Instr_api_Instr.l0, if_neg (by omega), List.drop_of_length_le (by omega)]; exact ⟨_, rfl, rfl⟩
  | d + 1, k, e => by
    have hk : k < c.length := by omega
    obtain ⟨r, h1, h2⟩ := pright_l0 (l := l) hl d (k + 1) (by omega)
    rw [slices_IndexFunc_api_Instr_api_Instr.l0, if_pos (by omega), lAt_some hk, bsome]
    show ∃ r, (code_Right_1.f c[k] l >>= _) = _ ∧ _
    have hr : code_Right_1.f c[k] l = some (!insB (l.Up.length : Int) c[k]) := by unfold code_Right_1.f; rw [right_p]; rfl
    rw [hr, bsome, wS (by omega), h1, List.drop_eq_getElem_cons hk, List.all_cons]
    cases q : insB (l.Up.length : Int) c[k] with
    | true => rw [if_neg (by decide), Bool.true_and]; exact ⟨r, rfl, h2⟩
    | false => rw [if_pos (by decide), Bool.false_and]; exact ⟨.inl (k : Int), rfl, by omega, rfl⟩
theorem pright_eq {l : api_Lattice} {U : List Nat} (h : Nm l U) {c : List api_Instr} (hl : c.length ≤ 1000) : code_Right.f l c = some (decide (chk l U = 0) && rightB (l.Up.length : Int) c) := by
  unfold code_Right.f rightB slices_ContainsFunc_api_Instr_api_Instr.f slices_IndexFunc_api_Instr_api_Instr.f
  rw [check_eq h, bsome]
  by_cases hc : chk l U = 0
  · rw [if_pos hc, decide_eq_true hc, Bool.true_and]
    by_cases h12 : (c.length : Int) ≤ 12
    · obtain ⟨r, h1, h2⟩ := pright_l0 (l := l) hl c.length 0 (by omega)
      rw [show ((0 : Nat) : Int) = 0 from rfl] at h1
      rw [if_pos h12, h1, bsome, decide_eq_true (show c.length ≤ 12 by omega), Bool.true_and]
      rw [List.drop_zero] at h2
      cases r with
      | inl j => rw [h2.2]; show (((some (decide (j ≥ 0)) >>= _) : Option Bool) >>= _) = _; rw [decide_eq_true h2.1]; rfl
      | inr u => cases u; rw [show c.all (insB (l.Up.length : Int)) = true from h2]; rfl
    · rw [if_neg h12, decide_eq_false (show ¬ c.length ≤ 12 by omega)]; rfl
  · rw [if_neg hc, decide_eq_false hc]; rfl
end Go.Proofs.YtkmobcaobmchpaaDoor.Cg
