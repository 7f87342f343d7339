/- A step: what an instruction does. -/
import Derived.Test.YtmegdednaimgcaaDoorSs6
set_option linter.unusedVariables false
set_option linter.unusedSimpArgs false
set_option linter.unusedSectionVars false
namespace Go.Proofs.YtmegdednaimgcaaDoor.Ss
open Go Go.Proofs.YtmegdednaimgcaaDoor.Ab Go.Proofs.YtmegdednaimgcaaDoor.TT
/-- What a step keeps. -/
structure Kept (a m : step_machine) : Prop where
  code : m.s_.Code = a.s_.Code
  mem : m.s_.Mem.length = a.s_.Mem.length
  st : m.s_.Stack.length ≤ a.s_.Stack.length + 1
  out : m.s_.Out = a.s_.Out ∨ ∃ x, m.s_.Out = a.s_.Out ++ [x]
theorem kept_bind {a : step_machine} {e : Option (step_machine × Int)} (h : ∃ m p, e = some (m, p) ∧ Kept a m) : ∃ m, (e >>= fun o => match o with | (x28, x29) => some (⟨x28.l_, ⟨⟨x29, x28.s_.Pc.L⟩, x28.s_.Code, x28.s_.Mem, x28.s_.Stack, x28.s_.Out⟩, x28.x_, x28.a_, x28.b_, x28.r_, x28.below_, x28.one_⟩ : step_machine)) = some m ∧ Kept a m := by
  obtain ⟨m, p, h1, h2⟩ := h
  rw [h1, bsome]
  exact ⟨_, rfl, ⟨h2.code, h2.mem, h2.st, h2.out⟩⟩
theorem lCut_len {α : Type} {xs : List α} {b : Int} : (lCut xs 0 b).length ≤ xs.length := by
  simp [lCut]; omega
theorem does_m {m : step_machine} (hn : m.s_.Stack.length ≤ 900) (hm : m.s_.Mem.length ≤ 900) (ho : m.s_.Out.length ≤ 900) (lo : 0 ≤ m.below_) (hi : m.below_ ≤ (m.s_.Stack.length : Int)) (c : m.x_.Op = 5 ∨ m.x_.Op = 6 → okC m = true) (g : m.x_.Op = 9 → 0 ≤ m.x_.N ∧ m.x_.N ≤ m.below_) (v : Int) :
    ∃ r, step_machine_does.f m v = some r ∧ Kept m r := by
  have hc := lCut_len (xs := m.s_.Stack) (b := m.below_)
  have hB : 100000 ≤ big := by decide
  unfold step_machine_does.f
  rw [if_pos ⟨lo, hi⟩, clone_s (by omega), bsome]
  refine kept_bind ?_
  have hput : ∀ (x : Int), step_machine_put.f (⟨m.l_, ⟨m.s_.Pc, m.s_.Code, m.s_.Mem, lCut m.s_.Stack 0 m.below_, m.s_.Out⟩, m.x_, m.a_, m.b_, m.r_, m.below_, m.one_⟩ : step_machine) x v = some ⟨m.l_, ⟨m.s_.Pc, m.s_.Code, m.s_.Mem, lCut m.s_.Stack 0 m.below_ ++ [⟨false, x, v⟩], m.s_.Out⟩, m.x_, m.a_, m.b_, m.r_, m.below_, m.one_⟩ := fun x => put_m (show (lCut m.s_.Stack 0 m.below_).length ≤ 1000 by omega) x v
  have hst : ∀ x : Int, (lCut m.s_.Stack 0 m.below_ ++ [(⟨false, x, v⟩ : api_Slot)]).length ≤ m.s_.Stack.length + 1 := fun x => by simp only [List.length_append, List.length_singleton]; omega
  by_cases c1 : m.x_.Op = 1
  · rw [if_pos c1, hput, bsome]; exact ⟨_, _, rfl, ⟨rfl, rfl, hst _, .inl rfl⟩⟩
  rw [if_neg c1]
  by_cases c3 : m.x_.Op = 3
  · rw [if_pos c3, hput, bsome]; exact ⟨_, _, rfl, ⟨rfl, rfl, hst _, .inl rfl⟩⟩
  rw [if_neg c3]
  by_cases c4 : m.x_.Op = 4
  · rw [if_pos c4, hput, bsome]; exact ⟨_, _, rfl, ⟨rfl, rfl, hst _, .inl rfl⟩⟩
  rw [if_neg c4]
  by_cases c5 : m.x_.Op = 5
  · have k := of_decide_eq_true (c (.inl c5))
    rw [if_pos c5, mm_at k.1 k.2, bsome, hput, bsome]; exact ⟨_, _, rfl, ⟨rfl, rfl, hst _, .inl rfl⟩⟩
  rw [if_neg c5]
  by_cases c6 : m.x_.Op = 6
  · have k := of_decide_eq_true (c (.inr c6))
    rw [if_pos c6, clone_a (by omega), bsome, mm_at k.1 k.2, bsome]
    exact ⟨_, _, rfl, ⟨rfl, List.length_set, Nat.le_succ_of_le hc, .inl rfl⟩⟩
  rw [if_neg c6]
  by_cases c11 : m.x_.Op = 11
  · rw [if_pos c11, clone_a (by omega), bsome, if_pos (show (m.s_.Out.length + ([(⟨m.a_.V, v⟩ : api_Atom)] : List api_Atom).length) * 16 ≤ big by simp; omega)]
    exact ⟨_, _, rfl, ⟨rfl, rfl, Nat.le_succ_of_le hc, .inr ⟨_, rfl⟩⟩⟩
  rw [if_neg c11]
  by_cases c7 : m.x_.Op = 7
  · rw [if_pos c7]; exact ⟨_, _, rfl, ⟨rfl, rfl, Nat.le_succ_of_le hc, .inl rfl⟩⟩
  rw [if_neg c7]
  by_cases c8 : m.x_.Op = 8
  · rw [if_pos c8]
    split <;> exact ⟨_, _, rfl, ⟨rfl, rfl, Nat.le_succ_of_le hc, .inl rfl⟩⟩
  rw [if_neg c8]
  by_cases c9 : m.x_.Op = 9
  · obtain ⟨g0, g1⟩ := g c9
    have e : IntKind.i64.wrap (m.below_ - m.x_.N) = m.below_ - m.x_.N := wrapZ (by omega) (by omega)
    rw [if_pos c9, e, if_pos (by omega), if_pos (by omega), concat_eq (by simp) (by
      intro x hx
      simp only [List.mem_cons, List.not_mem_nil, or_false] at hx
      rcases hx with rfl | rfl | rfl <;> simp [lCut] <;> omega), bsome]
    refine ⟨_, _, rfl, ⟨rfl, rfl, ?_, .inl rfl⟩⟩
    simp [lCut]; omega
  rw [if_neg c9]
  by_cases c10 : m.x_.Op = 10
  · rw [if_pos c10]
    by_cases cn : m.x_.N = 1
    · rw [if_pos cn, hput, bsome]; exact ⟨_, _, rfl, ⟨rfl, rfl, hst _, .inl rfl⟩⟩
    · rw [if_neg cn]; exact ⟨_, _, rfl, ⟨rfl, rfl, Nat.le_succ_of_le hc, .inl rfl⟩⟩
  rw [if_neg c10]
  exact ⟨_, _, rfl, ⟨rfl, rfl, Nat.le_succ_of_le hc, .inl rfl⟩⟩
end Go.Proofs.YtmegdednaimgcaaDoor.Ss
