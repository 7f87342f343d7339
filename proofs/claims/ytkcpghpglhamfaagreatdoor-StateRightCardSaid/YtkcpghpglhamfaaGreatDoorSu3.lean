/- States: all of the text; StateRight. -/
import Derived.Test.YtkcpghpglhamfaaGreatDoorSu2
set_option linter.unusedVariables false
set_option linter.unusedSimpArgs false
set_option linter.unusedSectionVars false
namespace Go.Proofs.YtkcpghpglhamfaaGreatDoor.Su
open Go Go.Proofs.YtkcpghpglhamfaaGreatDoor.Ab Go.Proofs.YtkcpghpglhamfaaGreatDoor.ST
section
variable {l : api_Lattice} (hN : ∀ s ∈ l.Names, s.length ≤ 1000)
include hN
theorem stack_t {s : api_State} (hx : ∀ a ∈ s.Stack, Aok l a.V a.L) (hl : s.Stack.length ≤ 100) {base : Str} (hbase : base.length ≤ 1000000) : reticentref09_Text.l0 l s 0 base = some (cum base (tS l s.Stack)) ∧ reticentref09_Text.l1 l s 0 base = some (cum base (tS l s.Stack)) := by
  have hb : ∀ k, (cum base (tS l (s.Stack.take k))).length ≤ 1200000 := by
    intro k
    have h1 := cum_len (base := base) (tS_len hN (x := s.Stack.take k) (fun a ha => hx a (List.mem_of_mem_take ha)))
    have h2 : (tS l (s.Stack.take k)).length ≤ 100 := by unfold tS; rw [List.length_map, List.length_take]; omega
    have h3 := Nat.mul_le_mul_right 1014 h2
    omega
  have : ∀ (d k : Nat), s.Stack.length = k + d → reticentref09_Text.l0 l s (k : Int) (cum base (tS l (s.Stack.take k))) = some (cum base (tS l s.Stack)) ∧ reticentref09_Text.l1 l s (k : Int) (cum base (tS l (s.Stack.take k))) = some (cum base (tS l s.Stack)) := by
    intro d
    induction d with
    | zero => intro k h; rw [reticentref09_Text.l0, if_neg (by omega), reticentref09_Text.l1, if_neg (by omega), List.take_of_length_le (by omega)]; exact ⟨rfl, rfl⟩
    | succ d ih =>
      intro k h
      have hk : k < s.Stack.length := by omega
      obtain ⟨i1, i2⟩ := ih (k + 1) (by omega)
      have hw := wr_len hN (hx _ (List.getElem_mem hk))
      have hbk := hb k
      have ht : tS l (s.Stack.take (k + 1)) = tS l (s.Stack.take k) ++ [tS1 l s.Stack[k]] := by
        unfold tS; rw [List.take_succ_eq_append_getElem hk, List.map_append]; rfl
      rw [ht] at i1 i2
      rw [reticentref09_Text.l0, if_pos (by omega), reticentref09_Text.l1, if_pos (by omega), lAt_some hk, bsome, one_r hN (hx _ (List.getElem_mem hk)), bsome, bsome, bsome, bsome]
      unfold tS1 at i1 i2
      cases k with
      | zero =>
        rw [if_neg (show ¬ ((0 : Nat) : Int) > 0 by omega)]
        rw [List.take_zero, show tS l [] = [] from rfl, List.nil_append, cum_one] at i1 i2
        rw [List.take_zero, show tS l [] = [] from rfl, cum_nil] at hbk ⊢
        cases hr : s.Stack[0].Ret with
        | true =>
          rw [hr, if_pos tt] at i1 i2
          rw [if_pos tt, if_pos (by simp only [List.length_cons, List.length_nil]; omega), if_pos (by simp only [List.length_append, List.length_cons, List.length_nil]; omega), if_pos (by simp only [List.length_append, List.length_cons, List.length_nil]; omega), bsome, bsome, wS (by omega)]
          have e : ((base ++ ([32, 114, 101, 116] : Str)) ++ ([32] : Str)) ++ wr l s.Stack[0].V s.Stack[0].L = (base ++ ([32] : Str)) ++ (([114, 101, 116, 32] : Str) ++ wr l s.Stack[0].V s.Stack[0].L) := by simp only [List.append_assoc]; rfl
          rw [e]
          exact ⟨i1, i2⟩
        | false =>
          rw [hr, if_neg ff] at i1 i2
          rw [if_neg ff, if_pos (by simp only [List.length_cons, List.length_nil]; omega), if_pos (by simp only [List.length_append, List.length_cons, List.length_nil]; omega), bsome, bsome, wS (by omega)]
          exact ⟨i1, i2⟩
      | succ k =>
        have hne : tS l (s.Stack.take (k + 1)) ≠ [] := by
          intro q
          have := congrArg List.length q
          unfold tS at this
          rw [List.length_map, List.length_take, List.length_nil] at this
          omega
        rw [cum_snoc hne] at i1 i2
        rw [if_pos (show ((k + 1 : Nat) : Int) > 0 by omega), if_pos (by simp only [List.length_cons, List.length_nil]; omega)]
        generalize cum base (tS l (s.Stack.take (k + 1))) = C at *
        cases hr : s.Stack[k + 1].Ret with
        | true =>
          rw [hr, if_pos tt] at i1 i2
          rw [if_pos tt, if_pos (by simp only [List.length_append, List.length_cons, List.length_nil]; omega), if_pos (by simp only [List.length_append, List.length_cons, List.length_nil]; omega), if_pos (by simp only [List.length_append, List.length_cons, List.length_nil]; omega), bsome, bsome, wS (by omega)]
          have e : (((C ++ ([32, 44] : Str)) ++ ([32, 114, 101, 116] : Str)) ++ ([32] : Str)) ++ wr l s.Stack[k + 1].V s.Stack[k + 1].L = ((C ++ ([32, 44] : Str)) ++ ([32] : Str)) ++ (([114, 101, 116, 32] : Str) ++ wr l s.Stack[k + 1].V s.Stack[k + 1].L) := by simp only [List.append_assoc]; rfl
          rw [e]
          exact ⟨i1, i2⟩
        | false =>
          rw [hr, if_neg ff] at i1 i2
          rw [if_neg ff, if_pos (by simp only [List.length_append, List.length_cons, List.length_nil]; omega), if_pos (by simp only [List.length_append, List.length_cons, List.length_nil]; omega), bsome, bsome, wS (by omega)]
          exact ⟨i1, i2⟩
  have h0 := this s.Stack.length 0 (by omega)
  rw [show ((0 : Nat) : Int) = 0 from rfl, List.take_zero, show tS l [] = [] from rfl, cum_nil] at h0
  exact h0
end
end Go.Proofs.YtkcpghpglhamfaaGreatDoor.Su
