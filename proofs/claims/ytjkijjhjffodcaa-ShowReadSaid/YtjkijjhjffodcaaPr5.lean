/- Tokens read. -/
import Derived.Test.YtjkijjhjffodcaaPr4
set_option linter.unusedVariables false
set_option linter.unusedSimpArgs false
namespace Go.Proofs.Ytjkijjhjffodcaa.Par
open Go Go.Proofs.Ytjkijjhjffodcaa.Ab Go.Proofs.Ytjkijjhjffodcaa.LF
open Go.Proofs.Ytjkijjhjffodcaa.Lat (lAt_some)
theorem bsome {α β : Type} (a : α) (f : α → Option β) : (some a >>= f) = f a := rfl
def cnt (p : Int → Bool) (s : Str) : Nat := (s.takeWhile fun b => p (b.toNat : Int)).length
theorem cnt_le (p : Int → Bool) (s : Str) : cnt p s ≤ s.length := by
  unfold cnt
  induction s with
  | nil => simp
  | cons a r ih =>
    rw [List.takeWhile_cons]
    split <;> simp
    exact ih
theorem sAt_get {s : Str} {k : Nat} (h : k < s.length) : sAt s (k : Int) = (s[k].toNat : Int) := by
  unfold sAt
  simp [h]
theorem while_l0 {p : Int → Bool} {g : Int → Option Bool} (hg : ∀ x, g x = some (p x)) {s : Str} (hs : s.length ≤ 3000) : ∀ (d k : Nat), s.length = k + d → lex_while.l0 s g (k : Int) = some ((k + cnt p (s.drop k) : Nat) : Int)
  | 0, k, e => by
    rw [lex_while.l0, if_neg (by omega), bsome, List.drop_of_length_le (by omega)]
    simp [cnt]
  | d + 1, k, e => by
    have hk : k < s.length := by omega
    have ih := while_l0 hg hs d (k + 1) (by omega)
    rw [lex_while.l0, if_pos (by omega), if_pos ⟨by omega, by omega⟩, hg, bsome, bsome, wS (by omega), sAt_get hk, List.drop_eq_getElem_cons hk]
    unfold cnt
    rw [List.takeWhile_cons]
    cases hp : p (s[k].toNat : Int) with
    | true =>
      rw [if_pos rfl, ih, if_pos rfl]
      unfold cnt
      congr 2
      simp
      omega
    | false => simp
theorem while_eq {p : Int → Bool} {g : Int → Option Bool} (hg : ∀ x, g x = some (p x)) {s : Str} (hs : s.length ≤ 3000) : lex_while.f s g = some (cnt p s : Int) := by
  unfold lex_while.f
  have := while_l0 hg hs s.length 0 (by omega)
  rw [show ((0 : Nat) : Int) = 0 from rfl, List.drop_zero, Nat.zero_add] at this
  rw [this, bsome]
def letP (c : Int) : Bool := decide (c ≥ 97) && decide (c ≤ 122)
def digP (c : Int) : Bool := decide (c ≥ 48) && decide (c ≤ 57)
def remP (c : Int) : Bool := !decide (c = 10)
theorem letter_eq (c : Int) : lex_letter.f c = some (letP c) := by
  unfold lex_letter.f letP
  by_cases h : c ≥ 97 <;> simp [h]
theorem digit_eq (c : Int) : lex_digit.f c = some (digP c) := by
  unfold lex_digit.f digP
  by_cases h : c ≥ 48 <;> simp [h]
theorem prefix_eq (s t : Str) : strings_HasPrefix.f s t = some (decide (s.take t.length = t)) := by
  unfold strings_HasPrefix.f stringslite_HasPrefix.f
  by_cases h : (s.length : Int) ≥ (t.length : Int)
  · rw [if_pos h, if_pos ⟨by omega, by omega⟩, bsome, bsome]
    simp [sCut]
  · rw [if_neg h, bsome, bsome, decide_eq_false]
    intro q
    have := congrArg List.length q
    simp at this
    omega
def marks : Str := [40, 41, 91, 93, 59, 58, 44, 60, 62, 64, 45, 61]
def tokX (x : Int) (c : UInt8) (r : Str) : Int × Nat :=
  if x = 32 ∨ x = 9 ∨ x = 10 then (0, 1) else if x = 35 then (0, cnt remP (c :: r)) else if letP x then (1, cnt letP (c :: r)) else if digP x then (2, cnt digP (c :: r))
  else if (c :: r).take 2 = [60, 61] then (3, 2) else if Lib.indexByte marks c ≥ 0 then (3, 1) else (0, 0)
def tokS : Str → Int × Nat
  | [] => (0, 0)
  | c :: r => tokX (c.toNat : Int) c r
theorem token_eq {c : UInt8} {r : Str} (hs : (c :: r).length ≤ 3000) : lex_token.f (c :: r) = some ((tokS (c :: r)).1, ((tokS (c :: r)).2 : Int)) := by
  unfold lex_token.f tokS
  have h0 : sAt (c :: r) 0 = (c.toNat : Int) := by simp [sAt]
  rw [if_pos ⟨by decide, by simp⟩, h0]
  have hc : ((c.toNat : Int).toNat).toUInt8 = c := by simp
  have hw1 := while_eq (g := lex_token_1.f) (p := remP) (fun x => rfl) hs
  have hw2 := while_eq (g := lex_letter.f) (p := letP) letter_eq hs
  have hw3 := while_eq (g := lex_digit.f) (p := digP) digit_eq hs
  rw [hw1, hw2, hw3, letter_eq, digit_eq, prefix_eq]
  unfold lib_IndexByte
  rw [hc]
  simp only [bsome, List.length_cons, List.length_nil]
  generalize (c.toNat : Int) = x
  unfold tokX
  by_cases h1 : x = 32
  · simp [h1]
  · by_cases h2 : x = 9
    · simp [h2]
    · by_cases h3 : x = 10
      · simp [h3]
      · by_cases h4 : x = 35
        · simp [h4]
        · cases h5 : letP x with
          | true => simp [h1, h2, h3, h4]
          | false =>
            cases h6 : digP x with
            | true => simp [h1, h2, h3, h4]
            | false =>
              by_cases h7 : (c :: r).take 2 = [60, 61]
              · have h7' : (c :: r).take (0 + 1 + 1) = [60, 61] := h7
                simp only [h1, h2, h3, h4, h7, h7', if_false, if_true, or_self, decide_false, decide_true, Bool.false_eq_true]
                rfl
              · have h7' : ¬ (c :: r).take (0 + 1 + 1) = [60, 61] := h7
                by_cases h8 : Lib.indexByte marks c ≥ 0
                · have h8' : Lib.indexByte [40, 41, 91, 93, 59, 58, 44, 60, 62, 64, 45, 61] c ≥ 0 := h8
                  simp only [h1, h2, h3, h4, h7, h7', h8, h8', if_false, if_true, or_self, decide_false, Bool.false_eq_true]
                  rfl
                · have h8' : ¬ Lib.indexByte [40, 41, 91, 93, 59, 58, 44, 60, 62, 64, 45, 61] c ≥ 0 := h8
                  simp only [h1, h2, h3, h4, h7, h7', h8, h8', if_false, or_self, decide_false, Bool.false_eq_true]
                  rfl
theorem tok_le : ∀ {s : Str}, s ≠ [] → (tokS s).2 ≤ s.length
  | [], h => absurd rfl h
  | c :: r, _ => by
    show (tokX (c.toNat : Int) c r).2 ≤ _
    unfold tokX
    split
    · simp
    · split
      · exact cnt_le ..
      · split
        · exact cnt_le ..
        · split
          · exact cnt_le ..
          · split
            · rename_i h
              have := congrArg List.length h
              simp at this ⊢
              omega
            · split
              · simp
              · simp
theorem lex_step {s : Str} (hs : s.length ≤ 2500) {L : List api_Tok} (hL : L.length ≤ 2500) {k : Nat} (hk : k < s.length) :
    lex_Lex.l0 s L (k : Int) = (if (tokS (s.drop k)).2 = 0 then some (.inl ([], (k : Int), 4)) else if (tokS (s.drop k)).1 = 0 then lex_Lex.l0 s L ((k + (tokS (s.drop k)).2 : Nat) : Int)
      else lex_Lex.l0 s (L ++ [⟨(tokS (s.drop k)).1, (s.drop k).take (tokS (s.drop k)).2, (k : Int)⟩]) ((k + (tokS (s.drop k)).2 : Nat) : Int)) := by
  have hne : s.drop k ≠ [] := by
    intro h
    have := congrArg List.length h
    simp at this; omega
  have hle := tok_le hne
  have hd : (s.drop k).length = s.length - k := List.length_drop ..
  have hcut : sCut s (k : Int) (s.length : Int) = s.drop k := by
    unfold sCut
    rw [List.take_of_length_le (by simp)]; simp
  have htok : lex_token.f (s.drop k) = some ((tokS (s.drop k)).1, ((tokS (s.drop k)).2 : Int)) := by
    match h : s.drop k with
    | [] => exact absurd h hne
    | c :: r => exact token_eq (by rw [← h]; omega)
  rw [lex_Lex.l0, if_pos (by omega), if_pos ⟨by omega, by omega⟩, hcut, htok, bsome]
  generalize hT : tokS (s.drop k) = T at *
  obtain ⟨kd, n⟩ := T
  simp only at hle ⊢
  have hw : IntKind.i64.wrap ((k : Int) + (n : Int)) = ((k + n : Nat) : Int) := by rw [wrapZ (by omega) (by omega)]; omega
  rw [hw]
  by_cases h0 : n = 0
  · subst h0
    rfl
  · have h0' : ¬ ((n : Int) = 0) := by omega
    rw [if_neg h0', if_neg h0]
    by_cases h1 : kd = 0
    · rw [if_pos h1, if_pos h1, bsome]
    · have hB : 1000000 ≤ big := by decide
      have hc2 : sCut s (k : Int) ((k + n : Nat) : Int) = (s.drop k).take n := by
        unfold sCut
        have : ((k + n : Nat) : Int).toNat - (k : Int).toNat = n := by omega
        rw [this]; simp
      rw [if_neg h1, if_neg h1, if_pos ⟨by omega, by omega, by omega⟩, if_pos (by simp; omega), bsome, hc2]
end Go.Proofs.Ytjkijjhjffodcaa.Par
