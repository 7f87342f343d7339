/- A rule as a tree; its text. -/
import Derived.Test.YthpmbokenhpakaaMut2
set_option linter.unusedVariables false
set_option linter.unusedSimpArgs false
namespace Go.Proofs.Ythpmbokenhpakaa.Mut
open Go Go.Proofs.Ythpmbokenhpakaa.Ab Go.Proofs.Ythpmbokenhpakaa.LD
open Go.Proofs.Ythpmbokenhpakaa.Lat (lAt_some)
inductive Tr where
  | lf (op : Int)
  | nd (op : Int) (x y : Tr)
def Tr.flat : Tr → List Int
  | .lf op => [op]
  | .nd op x y => x.flat ++ y.flat ++ [op]
def Tr.op : Tr → Int
  | .lf op => op
  | .nd op _ _ => op
def Tr.size : Tr → Nat
  | .lf _ => 1
  | .nd _ x y => x.size + y.size + 1
theorem flat_len : ∀ t : Tr, t.flat.length = t.size
  | .lf _ => rfl
  | .nd _ x y => by simp [Tr.flat, Tr.size, flat_len x, flat_len y]; omega
def LfOp (op : Int) : Prop := op = 1 ∨ op = 2 ∨ op = 6 ∨ op = 7 ∨ op = 8 ∨ op = 9 ∨ op = 10 ∨ op = 11
def NdOp (op : Int) : Prop := op = 3 ∨ op = 4 ∨ op = 5 ∨ op = 12 ∨ op = 13
def Tr.ok : Tr → Prop
  | .lf op => LfOp op
  | .nd op x y => NdOp op ∧ x.ok ∧ y.ok
/-- The pile of sorts is a pile of trees. -/
theorem st_tree {op : Int} {S S' : List Bool} (h : st op S = some S') (T : List Tr) (hT : T.length = S.length) :
    (LfOp op ∧ S'.length = S.length + 1) ∨ (NdOp op ∧ ∃ x y r, S = x :: y :: r ∧ S'.length = r.length + 1) := by
  have hp : ∀ {a b : Bool}, pop a b S = some S' → ∃ x y r, S = x :: y :: r ∧ S'.length = r.length + 1 := by
    intro a b h
    match S, h with
    | [], h => simp [pop] at h
    | [x], h => simp [pop] at h
    | x :: y :: r, h =>
      by_cases q : x = a ∧ y = a
      · simp [pop, q] at h; subst h; exact ⟨x, y, r, rfl, by simp⟩
      · simp [pop, q] at h
  unfold st at h
  split at h
  · rename_i q; cases h; exact .inl ⟨by unfold LfOp; rcases q with q | q <;> simp [q], by simp⟩
  · split at h
    · rename_i q; cases h; exact .inl ⟨.inr (.inr q), by simp⟩
    · split at h
      · rename_i q; exact .inr ⟨by unfold NdOp; rcases q with q | q <;> simp [q], hp h⟩
      · split at h
        · rename_i q; exact .inr ⟨by unfold NdOp; simp [q], hp h⟩
        · split at h
          · rename_i q; exact .inr ⟨by unfold NdOp; rcases q with q | q <;> simp [q], hp h⟩
          · cases h
def flats (T : List Tr) : List Int := (T.reverse.map Tr.flat).flatten
theorem flats_cons {t : Tr} {T : List Tr} : flats (t :: T) = flats T ++ t.flat := by simp [flats]
theorem run_tree : ∀ {l : List Int} {S S' : List Bool} {T : List Tr}, run l S = some S' → T.length = S.length → (∀ t ∈ T, t.ok) →
    ∃ T' : List Tr, T'.length = S'.length ∧ (∀ t ∈ T', t.ok) ∧ flats T' = flats T ++ l
  | [], S, S', T, h, hT, ho => by cases h; exact ⟨T, hT, ho, by simp⟩
  | op :: l, S, S', T, h, hT, ho => by
    unfold run at h
    cases hs : st op S with
    | none => rw [hs] at h; cases h
    | some S1 =>
      rw [hs] at h
      rcases st_tree hs T hT with ⟨h1, h2⟩ | ⟨h1, x, y, r, e, h2⟩
      · obtain ⟨T', q1, q2, q3⟩ := run_tree (T := .lf op :: T) h (by simp [hT, h2]) (fun t ht => by
          rcases List.mem_cons.1 ht with rfl | ht
          · exact h1
          · exact ho t ht)
        exact ⟨T', q1, q2, by rw [q3, flats_cons]; simp [Tr.flat]⟩
      · subst e
        match T, hT, ho with
        | b :: a :: R, hT, ho =>
          obtain ⟨T', q1, q2, q3⟩ := run_tree (T := .nd op a b :: R) h (by simp at hT; simp [hT, h2]) (fun t ht => by
            rcases List.mem_cons.1 ht with rfl | ht
            · exact ⟨h1, ho a (by simp), ho b (by simp)⟩
            · exact ho t (by simp [ht]))
          exact ⟨T', q1, q2, by rw [q3, flats_cons, flats_cons, flats_cons]; simp [Tr.flat]⟩
        | [], hT, _ => simp at hT
        | [_], hT, _ => simp at hT
theorem right_tree {l : List Int} {b : Bool} (h : right l = some b) : ∃ t : Tr, t.ok ∧ t.flat = l ∧ l.length ≤ 40 := by
  unfold right at h
  cases hr : run l [] with
  | none => rw [hr] at h; cases h
  | some S =>
    rw [hr] at h
    match S, h with
    | [], h => cases h
    | x :: y :: r, h => cases h
    | [c], h =>
      simp only at h
      by_cases hl : l.length > 40
      · rw [if_pos hl] at h; cases h
      · obtain ⟨T', q1, q2, q3⟩ := run_tree (T := []) hr rfl (fun t ht => by cases ht)
        match T', q1 with
        | [t], _ => exact ⟨t, q2 t (by simp), by rw [flats_cons] at q3; simpa [flats] using q3, by omega⟩
end Go.Proofs.Ythpmbokenhpakaa.Mut
