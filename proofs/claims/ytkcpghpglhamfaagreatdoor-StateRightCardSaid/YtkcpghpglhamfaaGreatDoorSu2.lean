/- States: lines of text. -/
import Derived.Test.YtkcpghpglhamfaaGreatDoorSu1
set_option linter.unusedVariables false
set_option linter.unusedSimpArgs false
set_option linter.unusedSectionVars false
namespace Go.Proofs.YtkcpghpglhamfaaGreatDoor.Su
open Go Go.Proofs.YtkcpghpglhamfaaGreatDoor.Ab Go.Proofs.YtkcpghpglhamfaaGreatDoor.ST
noncomputable def cum (base : Str) (ts : List Str) : Str := if ts = [] then base else (base ++ [32]) ++ Lib.join ts [32, 44, 32]
theorem join1 {t sep : Str} : Lib.join [t] sep = t := by simp [Lib.join, Lib.joinTail]
theorem cum_nil {base : Str} : cum base [] = base := by unfold cum; rw [if_pos rfl]
theorem cum_one {base t : Str} : cum base [t] = (base ++ [32]) ++ t := by unfold cum; rw [if_neg (by simp), join1]
theorem cum_snoc {base t : Str} {ts : List Str} (h : ts ≠ []) : cum base (ts ++ [t]) = ((cum base ts ++ [32, 44]) ++ [32]) ++ t := by
  unfold cum
  rw [if_neg (by simp), if_neg h, join_snoc h]
  simp only [List.append_assoc]
  rfl
theorem cum_app {b c : Str} {ts : List Str} : cum (b ++ c) ts = b ++ cum c ts := by
  unfold cum
  split
  · rfl
  · simp only [List.append_assoc]
theorem cum_len {base : Str} {ts : List Str} {n : Nat} (h : ∀ t ∈ ts, t.length ≤ n) : (cum base ts).length ≤ base.length + 1 + ts.length * (n + 3) := by
  unfold cum
  split
  · omega
  · have := join_len (sep := [32, 44, 32]) h
    simp only [List.length_append, List.length_cons, List.length_nil]
    have h3 : ([32, 44, 32] : Str).length = 3 := rfl
    rw [h3] at this
    omega
def tA (l : api_Lattice) (x : List api_Atom) : List Str := x.map fun a => wr l a.V a.L
def tS1 (l : api_Lattice) (x : api_Slot) : Str := if x.Ret = true then [114, 101, 116, 32] ++ wr l x.V x.L else wr l x.V x.L
def tS (l : api_Lattice) (x : List api_Slot) : List Str := x.map (tS1 l)
theorem mul_le {a b c : Nat} (h : a ≤ 100) (hb : b ≤ c) : a * b ≤ 100 * c := Nat.mul_le_mul h hb
section
variable {l : api_Lattice} (hN : ∀ s ∈ l.Names, s.length ≤ 1000)
include hN
theorem tA_len {x : List api_Atom} (hx : ∀ a ∈ x, Aok l a.V a.L) : ∀ t ∈ tA l x, t.length ≤ 1011 := by
  intro t ht
  obtain ⟨a, ha, rfl⟩ := List.mem_map.1 ht
  have := wr_len hN (hx a ha)
  show (wr l a.V a.L).length ≤ 1011
  omega
theorem tS_len {x : List api_Slot} (hx : ∀ a ∈ x, Aok l a.V a.L) : ∀ t ∈ tS l x, t.length ≤ 1011 := by
  intro t ht
  obtain ⟨a, ha, rfl⟩ := List.mem_map.1 ht
  have := wr_len hN (hx a ha)
  unfold tS1
  split
  · simp only [List.length_append, List.length_cons, List.length_nil]; omega
  · omega
theorem line_p {word : Str} {ts : List Str} (hw : word.length ≤ 100) (hl : ts.length ≤ 100) (ht : ∀ t ∈ ts, t.length ≤ 1011) : state_line.f word ts = some (cum word ts ++ [32, 59, 10]) := by
  unfold state_line.f cum
  by_cases h : ts = []
  · subst h
    rw [if_pos (by simp), if_pos (by simp only [List.length_cons, List.length_nil]; omega), if_pos rfl]
  · have hp : 0 < ts.length := List.length_pos_iff.2 h
    have hj := join_len (sep := [32, 44, 32]) ht
    have hj2 : (Lib.join ts [32, 44, 32]).length ≤ 100 * 1014 := Nat.le_trans hj (Nat.mul_le_mul hl (by simp))
    have ej : lib_Join ts [32, 44, 32] = some (Lib.join ts [32, 44, 32]) := by
      unfold lib_Join
      rw [if_pos (by omega)]
    rw [if_neg (by omega), if_neg h, if_pos (by simp only [List.length_cons, List.length_nil]; omega), ej, bsome, if_pos (by simp only [List.length_append, List.length_cons, List.length_nil]; omega), if_pos (by simp only [List.length_append, List.length_cons, List.length_nil]; omega)]
theorem atoms_p {x : List api_Atom} (hx : ∀ a ∈ x, Aok l a.V a.L) (hl : x.length ≤ 100) : state_Text_1.f x l = some (tA l x) := by
  unfold state_Text_1.f
  have : ∀ (d k : Nat), x.length = k + d → state_Text_1.l0 x l (tA l (x.take k)) (k : Int) = some (tA l x) := by
    intro d
    induction d with
    | zero => intro k h; rw [state_Text_1.l0, if_neg (by omega), List.take_of_length_le (by omega)]
    | succ d ih =>
      intro k h
      have hk : k < x.length := by omega
      have hg : ((tA l (x.take k)).length + ([wr l x[k].V x[k].L] : List Str).length) * 16 ≤ big := by
        unfold tA; simp only [List.length_map, List.length_take, List.length_cons, List.length_nil]; unfold big; omega
      rw [state_Text_1.l0, if_pos (by omega), lAt_some hk, bsome, written_p hN (hx _ (List.getElem_mem hk)), bsome, if_pos hg, wS (by omega)]
      have := ih (k + 1) (by omega)
      rw [List.take_succ_eq_append_getElem hk] at this
      unfold tA at this ⊢
      rw [List.map_append] at this
      exact this
  rw [show ([] : List Str) = tA l (x.take 0) by simp [tA], show (0 : Int) = ((0 : Nat) : Int) from rfl, this x.length 0 (by omega), bsome]
theorem stack_p {s : api_State} (hx : ∀ a ∈ s.Stack, Aok l a.V a.L) (hl : s.Stack.length ≤ 100) : state_Text.l0 l s [] 0 = some (tS l s.Stack) ∧ state_Text.l1 l s [] 0 = some (tS l s.Stack) := by
  have : ∀ (d k : Nat), s.Stack.length = k + d → state_Text.l0 l s (tS l (s.Stack.take k)) (k : Int) = some (tS l s.Stack) ∧ state_Text.l1 l s (tS l (s.Stack.take k)) (k : Int) = some (tS l s.Stack) := by
    intro d
    induction d with
    | zero => intro k h; rw [state_Text.l0, if_neg (by omega), state_Text.l1, if_neg (by omega), List.take_of_length_le (by omega)]; exact ⟨rfl, rfl⟩
    | succ d ih =>
      intro k h
      have hk : k < s.Stack.length := by omega
      have hw := wr_len hN (hx _ (List.getElem_mem hk))
      have hg : ∀ t : Str, ((tS l (s.Stack.take k)).length + ([t] : List Str).length) * 16 ≤ big := by
        intro t
        unfold tS; simp only [List.length_map, List.length_take, List.length_cons, List.length_nil]; unfold big; omega
      obtain ⟨i1, i2⟩ := ih (k + 1) (by omega)
      have ht : tS l (s.Stack.take (k + 1)) = tS l (s.Stack.take k) ++ [tS1 l s.Stack[k]] := by
        unfold tS; rw [List.take_succ_eq_append_getElem hk, List.map_append]; rfl
      rw [ht] at i1 i2
      rw [state_Text.l0, if_pos (by omega), state_Text.l1, if_pos (by omega), lAt_some hk, bsome, written_p hN (hx _ (List.getElem_mem hk)), bsome]
      unfold tS1 at i1 i2
      cases hr : s.Stack[k].Ret with
      | true =>
        rw [hr] at i1 i2
        rw [if_pos tt] at i1 i2
        rw [if_pos tt, if_pos (by simp only [List.length_cons, List.length_nil]; omega), if_pos (hg _), bsome, bsome, wS (by omega)]
        exact ⟨i1, i2⟩
      | false =>
        rw [hr] at i1 i2
        rw [if_neg ff] at i1 i2
        rw [if_neg ff, if_pos (hg _), bsome, bsome, wS (by omega)]
        exact ⟨i1, i2⟩
  have h0 := this s.Stack.length 0 (by omega)
  rw [show ((0 : Nat) : Int) = 0 from rfl, List.take_zero] at h0
  exact h0
theorem line_r {word : Str} (hw : word.length ≤ 100) {x : List api_Atom} (hx : ∀ a ∈ x, Aok l a.V a.L) (hl : x.length ≤ 100) : reticentref09_line.f l word x = some (cum word (tA l x) ++ [32, 59, 10]) := by
  unfold reticentref09_line.f
  have hb : ∀ k, (cum word (tA l (x.take k))).length ≤ 200000 := by
    intro k
    have h1 := cum_len (base := word) (tA_len hN (x := x.take k) (fun a ha => hx a (List.mem_of_mem_take ha)))
    have h2 : (tA l (x.take k)).length ≤ 100 := by unfold tA; rw [List.length_map, List.length_take]; omega
    have h3 := Nat.mul_le_mul_right 1014 h2
    omega
  have : ∀ (d k : Nat), x.length = k + d → reticentref09_line.l0 l x (k : Int) (cum word (tA l (x.take k))) = some (cum word (tA l x)) := by
    intro d
    induction d with
    | zero => intro k h; rw [reticentref09_line.l0, if_neg (by omega), List.take_of_length_le (by omega)]
    | succ d ih =>
      intro k h
      have hk : k < x.length := by omega
      have i1 := ih (k + 1) (by omega)
      have hw := wr_len hN (hx _ (List.getElem_mem hk))
      have hbk := hb k
      have ht : tA l (x.take (k + 1)) = tA l (x.take k) ++ [wr l x[k].V x[k].L] := by
        unfold tA; rw [List.take_succ_eq_append_getElem hk, List.map_append]; rfl
      rw [ht] at i1
      rw [reticentref09_line.l0, if_pos (by omega), lAt_some hk, bsome, one_r hN (hx _ (List.getElem_mem hk)), bsome, bsome]
      cases k with
      | zero =>
        rw [if_neg (by omega)]
        rw [List.take_zero, show tA l [] = [] from rfl, List.nil_append, cum_one] at i1
        rw [List.take_zero, show tA l [] = [] from rfl, cum_nil] at hbk ⊢
        rw [if_pos (by simp only [List.length_cons, List.length_nil]; omega), if_pos (by simp only [List.length_append, List.length_cons, List.length_nil]; omega), bsome, wS (by omega)]
        exact i1
      | succ k =>
        have hne : tA l (x.take (k + 1)) ≠ [] := by
          intro q
          have := congrArg List.length q
          unfold tA at this
          rw [List.length_map, List.length_take, List.length_nil] at this
          omega
        rw [cum_snoc hne] at i1
        rw [if_pos (by omega), if_pos (by simp only [List.length_cons, List.length_nil]; omega), if_pos (by simp only [List.length_append, List.length_cons, List.length_nil]; omega), if_pos (by simp only [List.length_append, List.length_cons, List.length_nil]; omega), bsome, wS (by omega)]
        exact i1
  have h0 := this x.length 0 (by omega)
  rw [show ((0 : Nat) : Int) = 0 from rfl, List.take_zero, show tA l [] = [] from rfl, cum_nil] at h0
  have hb0 := hb x.length
  rw [List.take_of_length_le (Nat.le_refl _)] at hb0
  rw [h0, bsome, if_pos (by simp only [List.length_cons, List.length_nil]; omega)]
end
end Go.Proofs.YtkcpghpglhamfaaGreatDoor.Su
