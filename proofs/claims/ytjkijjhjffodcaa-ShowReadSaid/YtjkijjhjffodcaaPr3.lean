/- A rule as a tree; its text. -/
import Derived.Test.YtjkijjhjffodcaaPr1
set_option linter.unusedVariables false
set_option linter.unusedSimpArgs false
namespace Go.Proofs.Ytjkijjhjffodcaa.Par
open Go Go.Proofs.Ytjkijjhjffodcaa.Ab Go.Proofs.Ytjkijjhjffodcaa.LF
open Go.Proofs.Ytjkijjhjffodcaa.Lat (lAt_some)
inductive Tr where
  | lf (op : Int)
  | nd (op : Int) (x y : Tr)
def Tr.flat : Tr → List Int
  | .lf op => [op]
  | .nd op x y => x.flat ++ y.flat ++ [op]
def Tr.op : Tr → Int
  | .lf op => op
  | .nd op _ _ => op
def Tr.size : Tr → Nat
  | .lf _ => 1
  | .nd _ x y => x.size + y.size + 1
theorem flat_len : ∀ t : Tr, t.flat.length = t.size
  | .lf _ => rfl
  | .nd _ x y => by simp [Tr.flat, Tr.size, flat_len x, flat_len y]; omega
def LfOp (op : Int) : Prop := op = 1 ∨ op = 2 ∨ op = 6 ∨ op = 7 ∨ op = 8 ∨ op = 9 ∨ op = 10 ∨ op = 11
def NdOp (op : Int) : Prop := op = 3 ∨ op = 4 ∨ op = 5 ∨ op = 12 ∨ op = 13
def Tr.ok : Tr → Prop
  | .lf op => LfOp op
  | .nd op x y => NdOp op ∧ x.ok ∧ y.ok
/-- The pile of sorts is a pile of trees. -/
theorem st_tree {op : Int} {S S' : List Bool} (h : st op S = some S') (T : List Tr) (hT : T.length = S.length) :
    (LfOp op ∧ S'.length = S.length + 1) ∨ (NdOp op ∧ ∃ x y r, S = x :: y :: r ∧ S'.length = r.length + 1) := by
  have hp : ∀ {a b : Bool}, pop a b S = some S' → ∃ x y r, S = x :: y :: r ∧ S'.length = r.length + 1 := by
    intro a b h
    match S, h with
    | [], h => simp [pop] at h
    | [x], h => simp [pop] at h
    | x :: y :: r, h =>
      by_cases q : x = a ∧ y = a
      · simp [pop, q] at h; subst h; exact ⟨x, y, r, rfl, by simp⟩
      · simp [pop, q] at h
  unfold st at h
  split at h
  · rename_i q; cases h; exact .inl ⟨by unfold LfOp; rcases q with q | q <;> simp [q], by simp⟩
  · split at h
    · rename_i q; cases h; exact .inl ⟨.inr (.inr q), by simp⟩
    · split at h
      · rename_i q; exact .inr ⟨by unfold NdOp; rcases q with q | q <;> simp [q], hp h⟩
      · split at h
        · rename_i q; exact .inr ⟨by unfold NdOp; simp [q], hp h⟩
        · split at h
          · rename_i q; exact .inr ⟨by unfold NdOp; rcases q with q | q <;> simp [q], hp h⟩
          · cases h
def flats (T : List Tr) : List Int := (T.reverse.map Tr.flat).flatten
theorem flats_cons {t : Tr} {T : List Tr} : flats (t :: T) = flats T ++ t.flat := by simp [flats]
theorem run_tree : ∀ {l : List Int} {S S' : List Bool} {T : List Tr}, run l S = some S' → T.length = S.length → (∀ t ∈ T, t.ok) →
    ∃ T' : List Tr, T'.length = S'.length ∧ (∀ t ∈ T', t.ok) ∧ flats T' = flats T ++ l
  | [], S, S', T, h, hT, ho => by cases h; exact ⟨T, hT, ho, by simp⟩
  | op :: l, S, S', T, h, hT, ho => by
    unfold run at h
    cases hs : st op S with
    | none => rw [hs] at h; cases h
    | some S1 =>
      rw [hs] at h
      rcases st_tree hs T hT with ⟨h1, h2⟩ | ⟨h1, x, y, r, e, h2⟩
      · obtain ⟨T', q1, q2, q3⟩ := run_tree (T := .lf op :: T) h (by simp [hT, h2]) (fun t ht => by
          rcases List.mem_cons.1 ht with rfl | ht
          · exact h1
          · exact ho t ht)
        exact ⟨T', q1, q2, by rw [q3, flats_cons]; simp [Tr.flat]⟩
      · subst e
        match T, hT, ho with
        | b :: a :: R, hT, ho =>
          obtain ⟨T', q1, q2, q3⟩ := run_tree (T := .nd op a b :: R) h (by simp at hT; simp [hT, h2]) (fun t ht => by
            rcases List.mem_cons.1 ht with rfl | ht
            · exact ⟨h1, ho a (by simp), ho b (by simp)⟩
            · exact ho t (by simp [ht]))
          exact ⟨T', q1, q2, by rw [q3, flats_cons, flats_cons, flats_cons]; simp [Tr.flat]⟩
        | [], hT, _ => simp at hT
        | [_], hT, _ => simp at hT
theorem right_tree {l : List Int} {b : Bool} (h : right l = some b) : ∃ t : Tr, t.ok ∧ t.flat = l ∧ l.length ≤ 40 := by
  unfold right at h
  cases hr : run l [] with
  | none => rw [hr] at h; cases h
  | some S =>
    rw [hr] at h
    match S, h with
    | [], h => cases h
    | x :: y :: r, h => cases h
    | [c], h =>
      simp only at h
      by_cases hl : l.length > 40
      · rw [if_pos hl] at h; cases h
      · obtain ⟨T', q1, q2, q3⟩ := run_tree (T := []) hr rfl (fun t ht => by cases ht)
        match T', q1 with
        | [t], _ => exact ⟨t, q2 t (by simp), by rw [flats_cons] at q3; simpa [flats] using q3, by omega⟩
/-! Texts. -/
def wd (op : Int) : Str :=
  if op = 1 then [116, 114, 117, 101] else if op = 2 then [102, 97, 108, 115, 101] else if op = 3 then [97, 110, 100] else if op = 4 then [111, 114] else if op = 5 then [60, 61]
  else if op = 6 then [98, 111, 116] else if op = 7 then [116, 111, 112] else if op = 8 then [112, 99] else if op = 9 then [111, 110, 101] else if op = 10 then [116, 119, 111] else if op = 11 then [116, 104, 114, 101, 101]
  else if op = 12 then [106, 111, 105, 110] else [109, 101, 101, 116]
def bd (op : Int) : Int := if op = 4 ∨ op = 12 then 1 else if op = 3 ∨ op = 13 then 2 else 3
def lab (op : Int) : Bool := decide (op = 12 ∨ op = 13)
def wi (op b least : Int) (p : Str × Int) : Str × Int := if b ≥ least then p else ((if lab op then ([91] ++ p.1) ++ [93] else ([40] ++ p.1) ++ [41]), p.2 + 1)
def tx : Tr → Str × Int
  | .lf op => (wd op, 0)
  | .nd op x y =>
    let X := if op = 5 then tx x else wi op (bd x.op) (bd op) (tx x)
    let Y := if op = 5 then tx y else wi op (bd y.op) (bd op + 1) (tx y)
    ((((X.1 ++ [32]) ++ wd op) ++ [32]) ++ Y.1, if X.2 < Y.2 then Y.2 else X.2)
theorem wd_len (op : Int) : (wd op).length ≤ 5 := by
  unfold wd
  by_cases h : op = 1
  · rw [if_pos h]; decide
  rw [if_neg h]; clear h
  by_cases h : op = 2
  · rw [if_pos h]; decide
  rw [if_neg h]; clear h
  by_cases h : op = 3
  · rw [if_pos h]; decide
  rw [if_neg h]; clear h
  by_cases h : op = 4
  · rw [if_pos h]; decide
  rw [if_neg h]; clear h
  by_cases h : op = 5
  · rw [if_pos h]; decide
  rw [if_neg h]; clear h
  by_cases h : op = 6
  · rw [if_pos h]; decide
  rw [if_neg h]; clear h
  by_cases h : op = 7
  · rw [if_pos h]; decide
  rw [if_neg h]; clear h
  by_cases h : op = 8
  · rw [if_pos h]; decide
  rw [if_neg h]; clear h
  by_cases h : op = 9
  · rw [if_pos h]; decide
  rw [if_neg h]; clear h
  by_cases h : op = 10
  · rw [if_pos h]; decide
  rw [if_neg h]; clear h
  by_cases h : op = 11
  · rw [if_pos h]; decide
  rw [if_neg h]; clear h
  by_cases h : op = 12
  · rw [if_pos h]; decide
  rw [if_neg h]; clear h
  decide
theorem wi_len {op b least : Int} {p : Str × Int} {n : Nat} (h1 : p.1.length ≤ 16 * n) (h2 : 0 ≤ p.2 ∧ p.2 ≤ n) : (wi op b least p).1.length ≤ 16 * n + 2 ∧ 0 ≤ (wi op b least p).2 ∧ (wi op b least p).2 ≤ n + 1 := by
  unfold wi
  split
  · exact ⟨by omega, by omega, by omega⟩
  · refine ⟨?_, by show 0 ≤ p.2 + 1; omega, by show p.2 + 1 ≤ _; omega⟩
    cases lab op <;> simp <;> omega
theorem tx_len : ∀ t : Tr, (tx t).1.length ≤ 16 * t.size ∧ 0 ≤ (tx t).2 ∧ (tx t).2 ≤ t.size
  | .lf op => by
    have := wd_len op
    refine ⟨?_, ?_, ?_⟩ <;> simp [tx, Tr.size]
    omega
  | .nd op x y => by
    obtain ⟨a1, a2, a3⟩ := tx_len x
    obtain ⟨b1, b2, b3⟩ := tx_len y
    have hw := wd_len op
    have hX : ∃ X : Str × Int, X = (if op = 5 then tx x else wi op (bd x.op) (bd op) (tx x)) ∧ X.1.length ≤ 16 * x.size + 2 ∧ 0 ≤ X.2 ∧ X.2 ≤ x.size + 1 := by
      refine ⟨_, rfl, ?_⟩
      split
      · exact ⟨by omega, by omega, by omega⟩
      · exact wi_len a1 ⟨a2, a3⟩
    have hY : ∃ Y : Str × Int, Y = (if op = 5 then tx y else wi op (bd y.op) (bd op + 1) (tx y)) ∧ Y.1.length ≤ 16 * y.size + 2 ∧ 0 ≤ Y.2 ∧ Y.2 ≤ y.size + 1 := by
      refine ⟨_, rfl, ?_⟩
      split
      · exact ⟨by omega, by omega, by omega⟩
      · exact wi_len b1 ⟨b2, b3⟩
    obtain ⟨X, eX, c1, c2, c3⟩ := hX
    obtain ⟨Y, eY, d1, d2, d3⟩ := hY
    show ((((((if op = 5 then tx x else wi op (bd x.op) (bd op) (tx x)).1 ++ [32]) ++ wd op) ++ [32]) ++ (if op = 5 then tx y else wi op (bd y.op) (bd op + 1) (tx y)).1 : Str)).length ≤ 16 * (x.size + y.size + 1) ∧ 0 ≤ (if (if op = 5 then tx x else wi op (bd x.op) (bd op) (tx x)).2 < (if op = 5 then tx y else wi op (bd y.op) (bd op + 1) (tx y)).2 then (if op = 5 then tx y else wi op (bd y.op) (bd op + 1) (tx y)).2 else (if op = 5 then tx x else wi op (bd x.op) (bd op) (tx x)).2) ∧ (if (if op = 5 then tx x else wi op (bd x.op) (bd op) (tx x)).2 < (if op = 5 then tx y else wi op (bd y.op) (bd op + 1) (tx y)).2 then (if op = 5 then tx y else wi op (bd y.op) (bd op + 1) (tx y)).2 else (if op = 5 then tx x else wi op (bd x.op) (bd op) (tx x)).2) ≤ ((x.size + y.size + 1 : Nat) : Int)
    rw [← eX, ← eY]
    refine ⟨by simp; omega, ?_, ?_⟩ <;> split <;> omega
end Go.Proofs.Ytjkijjhjffodcaa.Par
