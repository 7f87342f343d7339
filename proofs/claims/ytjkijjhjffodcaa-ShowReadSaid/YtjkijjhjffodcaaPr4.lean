/- Rules as trees of sorts. -/
import Derived.Test.YtjkijjhjffodcaaPr3
set_option linter.unusedVariables false
set_option linter.unusedSimpArgs false
namespace Go.Proofs.Ytjkijjhjffodcaa.Par
open Go Go.Proofs.Ytjkijjhjffodcaa.Ab Go.Proofs.Ytjkijjhjffodcaa.LF
open Go.Proofs.Ytjkijjhjffodcaa.Lat (lAt_some)
def Tr.sort : Tr → Bool
  | .lf op => decide (op ≥ 6)
  | .nd op _ _ => decide (op ≥ 12)
def Tr.wf : Tr → Prop
  | .lf op => LfOp op
  | .nd op x y => NdOp op ∧ x.wf ∧ y.wf ∧ x.sort = decide (op ≥ 5) ∧ y.sort = decide (op ≥ 5)
theorem st_sort {op : Int} {S S' : List Bool} (h : st op S = some S') :
    (LfOp op ∧ S' = decide (op ≥ 6) :: S) ∨ (NdOp op ∧ ∃ r, S = decide (op ≥ 5) :: decide (op ≥ 5) :: r ∧ S' = decide (op ≥ 12) :: r) := by
  have hp : ∀ {a b : Bool}, pop a b S = some S' → ∃ r, S = a :: a :: r ∧ S' = b :: r := by
    intro a b h
    match S, h with
    | [], h => simp [pop] at h
    | [x], h => simp [pop] at h
    | x :: y :: r, h =>
      by_cases q : x = a ∧ y = a
      · simp [pop, q] at h; subst h; exact ⟨r, by rw [q.1, q.2], rfl⟩
      · simp [pop, q] at h
  unfold st at h
  split at h
  · rename_i q; cases h
    rcases q with rfl | rfl <;> exact .inl ⟨by unfold LfOp; simp, rfl⟩
  · split at h
    · rename_i q; cases h
      rcases q with rfl | rfl | rfl | rfl | rfl | rfl <;> exact .inl ⟨by unfold LfOp; simp, rfl⟩
    · split at h
      · rename_i q
        rcases q with rfl | rfl <;> exact .inr ⟨by unfold NdOp; simp, hp h⟩
      · split at h
        · rename_i q; subst q; exact .inr ⟨by unfold NdOp; simp, hp h⟩
        · split at h
          · rename_i q
            rcases q with rfl | rfl <;> exact .inr ⟨by unfold NdOp; simp, hp h⟩
          · cases h
theorem run_sort : ∀ {l : List Int} {S S' : List Bool} {T : List Tr}, run l S = some S' → T.map Tr.sort = S → (∀ t ∈ T, t.wf) →
    ∃ T' : List Tr, T'.map Tr.sort = S' ∧ (∀ t ∈ T', t.wf) ∧ flats T' = flats T ++ l
  | [], S, S', T, h, hT, ho => by cases h; exact ⟨T, hT, ho, by simp⟩
  | op :: l, S, S', T, h, hT, ho => by
    unfold run at h
    cases hs : st op S with
    | none => rw [hs] at h; cases h
    | some S1 =>
      rw [hs] at h
      rcases st_sort hs with ⟨h1, h2⟩ | ⟨h1, r, e, h2⟩
      · obtain ⟨T', q1, q2, q3⟩ := run_sort (T := .lf op :: T) h (by rw [h2, ← hT]; rfl) (fun t ht => by
          rcases List.mem_cons.1 ht with rfl | ht
          · exact h1
          · exact ho t ht)
        exact ⟨T', q1, q2, by rw [q3, flats_cons]; simp [Tr.flat]⟩
      · subst hT
        match T, e, ho with
        | b :: a :: R, e, ho =>
          simp only [List.map_cons, List.cons.injEq] at e
          obtain ⟨T', q1, q2, q3⟩ := run_sort (T := .nd op a b :: R) h (by rw [h2, ← e.2.2]; rfl) (fun t ht => by
            rcases List.mem_cons.1 ht with rfl | ht
            · exact ⟨h1, ho a (by simp), ho b (by simp), e.2.1, e.1⟩
            · exact ho t (by simp [ht]))
          exact ⟨T', q1, q2, by rw [q3, flats_cons, flats_cons, flats_cons]; simp [Tr.flat]⟩
        | [], e, _ => simp at e
        | [_], e, _ => simp at e
theorem right_wf {l : List Int} {b : Bool} (h : right l = some b) : ∃ t : Tr, t.wf ∧ t.sort = b ∧ t.flat = l ∧ l.length ≤ 40 := by
  unfold right at h
  cases hr : run l [] with
  | none => rw [hr] at h; cases h
  | some S =>
    rw [hr] at h
    match S, h with
    | [], h => cases h
    | x :: y :: r, h => cases h
    | [c], h =>
      simp only at h
      by_cases hl : l.length > 40
      · rw [if_pos hl] at h; cases h
      · rw [if_neg hl] at h
        cases h
        obtain ⟨T', q1, q2, q3⟩ := run_sort (T := []) hr rfl (fun t ht => by cases ht)
        match T', q1 with
        | [t], q1 => exact ⟨t, q2 t (by simp), by simpa using q1, by rw [flats_cons] at q3; simpa [flats] using q3, by omega⟩
end Go.Proofs.Ytjkijjhjffodcaa.Par
