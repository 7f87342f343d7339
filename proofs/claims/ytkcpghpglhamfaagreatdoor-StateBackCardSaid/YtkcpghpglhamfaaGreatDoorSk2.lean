/- States: what is read may be (the program alone): rows, all. -/
import Derived.Test.YtkcpghpglhamfaaGreatDoorSk1
set_option linter.unusedVariables false
set_option linter.unusedSimpArgs false
set_option linter.unusedSectionVars false
namespace Go.Proofs.YtkcpghpglhamfaaGreatDoor.Sk
open Go Go.Proofs.YtkcpghpglhamfaaGreatDoor.Ab Go.Proofs.YtkcpghpglhamfaaGreatDoor.SK
section
variable {T : List api_Tok} (hT : Tk T) {l : api_Lattice} (hN : l.Names.length ≤ 1000) (hC : lattice_Check.f l = some 0)
include hT hN hC
theorem slot_t {i : Nat} (hi : i < T.length) (e : Int) : ∃ (j : Nat) (e' : Int) (v : api_Slot), state_reader_slot.f ⟨l, T, (i : Int), e⟩ = some (⟨l, T, (j : Int), e'⟩, v) ∧ j < T.length := by
  have hl := hT.len
  unfold state_reader_slot.f
  rw [is_p hT hi, bsome]
  cases hb : sB T i e 1 [114, 101, 116] with
  | true =>
    have hi2 := (sB_next hT hi (by decide) hb).1
    obtain ⟨j, e', v, h1, hj, _⟩ := atom_t hT hN hC hi2 e
    rw [if_pos tt]
    show ∃ (j' : Nat) (e2 : Int) (v' : api_Slot), (state_reader_atom.f ⟨l, T, IntKind.i64.wrap ((i : Int) + 1), e⟩ >>= _) = _ ∧ _
    rw [wS (by omega), h1, bsome]
    exact ⟨j, e', _, rfl, hj⟩
  | false =>
    obtain ⟨j, e', v, h1, hj, _⟩ := atom_t hT hN hC hi e
    rw [if_neg ff]
    show ∃ (j' : Nat) (e2 : Int) (v' : api_Slot), (state_reader_atom.f ⟨l, T, (i : Int), e⟩ >>= _) = _ ∧ _
    rw [h1, bsome]
    exact ⟨j, e', _, rfl, hj⟩
theorem gd {n m : Nat} (h : n ≤ 20) (k : m ≤ 24) : (n + 1) * m ≤ big := by
  have : (n + 1) * m ≤ 21 * 24 := Nat.mul_le_mul (by omega) k
  unfold big; omega
theorem rowA_tl {most : Nat} (hm : most ≤ 20) : ∀ (d : Nat) (acc : List api_Atom) (i : Nat) (e : Int), acc.length + d = most → i < T.length →
    ∃ (j : Nat) (e' : Int) (out : List api_Atom), state_row_api_Atom_atom.l0 (most : Int) l.Names l.Up T (i : Int) e acc = some (l.Names, l.Up, T, (j : Int), e', out) ∧ j < T.length ∧ out.length ≤ most
  | d, acc, i, e, hd, hi => by
    have hl := hT.len
    by_cases he : e = 0
    · subst he
      rw [state_row_api_Atom_atom.l0, if_pos rfl]
      cases d with
      | zero =>
        rw [if_pos (show (acc.length : Int) = (most : Int) by omega)]
        show ∃ (j : Nat) (e' : Int) (out : List api_Atom), (state_reader_fail.f ⟨l, T, (i : Int), 0⟩ 8 >>= _) = _ ∧ _
        rw [fail_s hT, bsome]
        exact ⟨i, 8, acc, rfl, hi, by omega⟩
      | succ d =>
        rw [if_neg (show ¬ (acc.length : Int) = (most : Int) by omega)]
        obtain ⟨j, e', v, h1, hj, _⟩ := atom_t hT hN hC hi 0
        show ∃ (j2 : Nat) (e2 : Int) (out : List api_Atom), (state_reader_atom.f ⟨l, T, (i : Int), 0⟩ >>= _) = _ ∧ _
        rw [h1, bsome, if_pos (show (acc.length + ([v] : List api_Atom).length) * 16 ≤ big from gd hT hN hC (by omega) (by omega))]
        show ∃ (j2 : Nat) (e2 : Int) (out : List api_Atom), (state_reader_is.f ⟨l, T, (j : Int), e'⟩ 3 [44] >>= _) = _ ∧ _
        rw [is_p hT hj, bsome]
        cases hb : sB T j e' 3 [44] with
        | false =>
          rw [if_pos (show (!false) = true from rfl)]
          show ∃ (j2 : Nat) (e2 : Int) (out : List api_Atom), (state_reader_must.f ⟨l, T, (j : Int), e'⟩ 3 [59] >>= _) = _ ∧ _
          rw [must_p hT hj, bsome]
          exact ⟨_, _, acc ++ [v], rfl, sM_lt hT hj (by decide), by simp; omega⟩
        | true =>
          obtain ⟨hj2, he'⟩ := sB_next hT hj (by decide) hb
          subst he'
          rw [if_neg (show ¬ (!true) = true from by decide)]
          show ∃ (j2 : Nat) (e2 : Int) (out : List api_Atom), state_row_api_Atom_atom.l0 (most : Int) l.Names l.Up T (IntKind.i64.wrap ((j : Int) + 1)) 0 (acc ++ [v]) = _ ∧ _
          rw [wS (by omega)]
          exact rowA_tl hm d (acc ++ [v]) (j + 1) 0 (by simp; omega) hj2
    · rw [state_row_api_Atom_atom.l0, if_neg he]
      exact ⟨i, e, acc, rfl, hi, by omega⟩
theorem rowS_tl {most : Nat} (hm : most ≤ 20) : ∀ (d : Nat) (acc : List api_Slot) (i : Nat) (e : Int), acc.length + d = most → i < T.length →
    ∃ (j : Nat) (e' : Int) (out : List api_Slot), state_row_api_Slot_slot.l0 (most : Int) l.Names l.Up T (i : Int) e acc = some (l.Names, l.Up, T, (j : Int), e', out) ∧ j < T.length ∧ out.length ≤ most
  | d, acc, i, e, hd, hi => by
    have hl := hT.len
    by_cases he : e = 0
    · subst he
      rw [state_row_api_Slot_slot.l0, if_pos rfl]
      cases d with
      | zero =>
        rw [if_pos (show (acc.length : Int) = (most : Int) by omega)]
        show ∃ (j : Nat) (e' : Int) (out : List api_Slot), (state_reader_fail.f ⟨l, T, (i : Int), 0⟩ 8 >>= _) = _ ∧ _
        rw [fail_s hT, bsome]
        exact ⟨i, 8, acc, rfl, hi, by omega⟩
      | succ d =>
        rw [if_neg (show ¬ (acc.length : Int) = (most : Int) by omega)]
        obtain ⟨j, e', v, h1, hj⟩ := slot_t hT hN hC hi 0
        show ∃ (j2 : Nat) (e2 : Int) (out : List api_Slot), (state_reader_slot.f ⟨l, T, (i : Int), 0⟩ >>= _) = _ ∧ _
        rw [h1, bsome, if_pos (show (acc.length + ([v] : List api_Slot).length) * 24 ≤ big from gd hT hN hC (by omega) (by omega))]
        show ∃ (j2 : Nat) (e2 : Int) (out : List api_Slot), (state_reader_is.f ⟨l, T, (j : Int), e'⟩ 3 [44] >>= _) = _ ∧ _
        rw [is_p hT hj, bsome]
        cases hb : sB T j e' 3 [44] with
        | false =>
          rw [if_pos (show (!false) = true from rfl)]
          show ∃ (j2 : Nat) (e2 : Int) (out : List api_Slot), (state_reader_must.f ⟨l, T, (j : Int), e'⟩ 3 [59] >>= _) = _ ∧ _
          rw [must_p hT hj, bsome]
          exact ⟨_, _, acc ++ [v], rfl, sM_lt hT hj (by decide), by simp; omega⟩
        | true =>
          obtain ⟨hj2, he'⟩ := sB_next hT hj (by decide) hb
          subst he'
          rw [if_neg (show ¬ (!true) = true from by decide)]
          show ∃ (j2 : Nat) (e2 : Int) (out : List api_Slot), state_row_api_Slot_slot.l0 (most : Int) l.Names l.Up T (IntKind.i64.wrap ((j : Int) + 1)) 0 (acc ++ [v]) = _ ∧ _
          rw [wS (by omega)]
          exact rowS_tl hm d (acc ++ [v]) (j + 1) 0 (by simp; omega) hj2
    · rw [state_row_api_Slot_slot.l0, if_neg he]
      exact ⟨i, e, acc, rfl, hi, by omega⟩
theorem rowA_t {most : Nat} (hm : most ≤ 20) {i : Nat} (hi : i < T.length) (e : Int) (word : Str) : ∃ (j : Nat) (e' : Int) (out : List api_Atom), state_row_api_Atom_atom.f ⟨l, T, (i : Int), e⟩ word (most : Int) = some (⟨l, T, (j : Int), e'⟩, out) ∧ j < T.length ∧ out.length ≤ most := by
  have hl := hT.len
  unfold state_row_api_Atom_atom.f
  rw [must_p hT hi, bsome]
  have hj := sM_lt hT hi (e := e) (k := 1) (s := word) (by decide)
  generalize sM T 1 word i e = q at hj ⊢
  obtain ⟨k, f⟩ := q
  rw [is_p hT hj, bsome]
  cases hs : sB T k f 3 [59] with
  | true =>
    obtain ⟨hk, hf⟩ := sB_next hT hj (by decide) hs
    rw [if_pos tt]
    refine ⟨k + 1, f, [], ?_, hk, by simp⟩
    show some ((⟨l, T, IntKind.i64.wrap ((k : Int) + 1), f⟩ : state_reader), ([] : List api_Atom)) = _
    rw [wS (by omega)]
  | false =>
    rw [if_neg ff]
    obtain ⟨j, e', out, h1, h3, h4⟩ := rowA_tl hT hN hC hm most [] k f (by simp) hj
    refine ⟨j, e', out, ?_, h3, h4⟩
    show (state_row_api_Atom_atom.l0 (most : Int) l.Names l.Up T (k : Int) f [] >>= _) = _
    rw [h1, bsome]
theorem rowS_t {most : Nat} (hm : most ≤ 20) {i : Nat} (hi : i < T.length) (e : Int) (word : Str) : ∃ (j : Nat) (e' : Int) (out : List api_Slot), state_row_api_Slot_slot.f ⟨l, T, (i : Int), e⟩ word (most : Int) = some (⟨l, T, (j : Int), e'⟩, out) ∧ j < T.length ∧ out.length ≤ most := by
  have hl := hT.len
  unfold state_row_api_Slot_slot.f
  rw [must_p hT hi, bsome]
  have hj := sM_lt hT hi (e := e) (k := 1) (s := word) (by decide)
  generalize sM T 1 word i e = q at hj ⊢
  obtain ⟨k, f⟩ := q
  rw [is_p hT hj, bsome]
  cases hs : sB T k f 3 [59] with
  | true =>
    obtain ⟨hk, hf⟩ := sB_next hT hj (by decide) hs
    rw [if_pos tt]
    refine ⟨k + 1, f, [], ?_, hk, by simp⟩
    show some ((⟨l, T, IntKind.i64.wrap ((k : Int) + 1), f⟩ : state_reader), ([] : List api_Slot)) = _
    rw [wS (by omega)]
  | false =>
    rw [if_neg ff]
    obtain ⟨j, e', out, h1, h3, h4⟩ := rowS_tl hT hN hC hm most [] k f (by simp) hj
    refine ⟨j, e', out, ?_, h3, h4⟩
    show (state_row_api_Slot_slot.l0 (most : Int) l.Names l.Up T (k : Int) f [] >>= _) = _
    rw [h1, bsome]
end
end Go.Proofs.YtkcpghpglhamfaaGreatDoor.Sk
