/- Tokens joined. -/
import Derived.Test.YtjkijjhjffodcaaPr5
set_option linter.unusedVariables false
set_option linter.unusedSimpArgs false
namespace Go.Proofs.Ytjkijjhjffodcaa.Par
open Go Go.Proofs.Ytjkijjhjffodcaa.Ab Go.Proofs.Ytjkijjhjffodcaa.LF
open Go.Proofs.Ytjkijjhjffodcaa.Lat (lAt_some)
theorem join_snoc {sep x : Str} : ∀ {xs : List Str}, xs ≠ [] → Lib.join (xs ++ [x]) sep = Lib.join xs sep ++ sep ++ x
  | [], h => absurd rfl h
  | a :: r, _ => by
    show Lib.join (a :: (r ++ [x])) sep = _
    rw [Lib.join_cons, Lib.join_cons]
    simp [Lib.joinTail]
theorem join_ne {sep : Str} : ∀ {xs : List Str}, xs ≠ [] → (∀ x ∈ xs, x ≠ []) → Lib.join xs sep ≠ []
  | [], h, _ => absurd rfl h
  | a :: r, _, h => by
    rw [Lib.join_cons]
    have := h a (by simp)
    simp [this]
/-- What a text's parts are: the texts that are not empty, of the first tokens. -/
def tsOf (l : List api_Tok) : List Str := (l.map (·.Text)).filter (fun s => !decide (s = []))
theorem tsOf_snoc {l : List api_Tok} {t : api_Tok} : tsOf (l ++ [t]) = if t.Text = [] then tsOf l else tsOf l ++ [t.Text] := by
  unfold tsOf
  by_cases h : t.Text = [] <;> simp [h]
theorem tsOf_ne {l : List api_Tok} : ∀ x ∈ tsOf l, x ≠ [] := by
  intro x hx
  unfold tsOf at hx
  simp at hx
  exact hx.2
theorem tsOf_len {l : List api_Tok} : (tsOf l).length ≤ l.length := by
  unfold tsOf
  exact Nat.le_trans (List.length_filter_le ..) (by simp)
theorem joinTail_len {sep : Str} {n : Nat} : ∀ {r : List Str}, (∀ x ∈ r, x.length ≤ n) → (Lib.joinTail sep r).length ≤ r.length * (n + sep.length)
  | [], _ => by simp [Lib.joinTail]
  | a :: r, h => by
    have ih := joinTail_len (sep := sep) (r := r) (fun x hx => h x (by simp [hx]))
    have ha := h a (by simp)
    have : Lib.joinTail sep (a :: r) = (sep ++ a) ++ Lib.joinTail sep r := by simp [Lib.joinTail]
    rw [this]
    simp only [List.length_append, List.length_cons, Nat.succ_mul]
    omega
theorem join_len {sep : Str} {n : Nat} {xs : List Str} (h : ∀ x ∈ xs, x.length ≤ n) : (Lib.join xs sep).length ≤ xs.length * (n + sep.length) := by
  match xs, h with
  | [], _ => simp [Lib.join, List.intercalate]
  | a :: r, h =>
    rw [Lib.join_cons]
    have ih := joinTail_len (sep := sep) (r := r) (fun x hx => h x (by simp [hx]))
    have ha := h a (by simp)
    simp only [List.length_append, List.length_cons, Nat.succ_mul]
    omega
def Short (l : List api_Tok) : Prop := l.length ≤ 300 ∧ ∀ t ∈ l, t.Text.length ≤ 3000
theorem tsOf_short {l : List api_Tok} (h : ∀ t ∈ l, t.Text.length ≤ 3000) : ∀ x ∈ tsOf l, x.length ≤ 3000 := by
  intro x hx
  unfold tsOf at hx
  simp at hx
  obtain ⟨⟨t, ht, rfl⟩, _⟩ := hx
  exact h t ht
theorem joinL_l0 {l : List api_Tok} (hl : l.length ≤ 300) : ∀ (d k : Nat), l.length = k + d → lex_Join.l0 l (tsOf (l.take k)) (k : Int) = some (tsOf l)
  | 0, k, e => by
    rw [lex_Join.l0, if_neg (by omega), List.take_of_length_le (by omega)]
  | d + 1, k, e => by
    have hk : k < l.length := by omega
    have ht : l.take (k + 1) = l.take k ++ [l[k]] := List.take_succ_eq_append_getElem hk
    have ih := joinL_l0 hl d (k + 1) (by omega)
    rw [ht, tsOf_snoc] at ih
    have hlen : (tsOf (l.take k)).length ≤ 300 := Nat.le_trans tsOf_len (by simp; omega)
    rw [lex_Join.l0, if_pos (by omega), lAt_some hk, bsome, wS (by omega)]
    by_cases h : l[k].Text = []
    · rw [if_pos h, bsome]
      rw [if_pos h] at ih; exact ih
    · rw [if_neg h, if_pos (by have : 1000000 ≤ big := by decide
                               simp; omega), bsome]
      rw [if_neg h] at ih; exact ih
theorem joinL {l : List api_Tok} (h : Short l) : lex_Join.f l = some (Lib.join (tsOf l) [32]) := by
  unfold lex_Join.f
  have := joinL_l0 h.1 l.length 0 (by omega)
  rw [show ((0 : Nat) : Int) = 0 from rfl, List.take_zero, show tsOf [] = [] from rfl] at this
  rw [this, bsome]
  unfold lib_Join
  have h1 := join_len (sep := [32]) (tsOf_short h.2)
  have h2 := tsOf_len (l := l)
  have h3 : (tsOf l).length * (3000 + ([32] : Str).length) ≤ 300 * 3001 := Nat.mul_le_mul (Nat.le_trans h2 h.1) (by simp)
  rw [if_pos (by omega), bsome]
end Go.Proofs.Ytjkijjhjffodcaa.Par
