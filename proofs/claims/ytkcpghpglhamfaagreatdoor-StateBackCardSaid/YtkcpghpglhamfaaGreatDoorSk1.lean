/- States: what is read may be (the program alone). -/
import Derived.Test.YtkcpghpglhamfaaGreatDoorSkb1
set_option linter.unusedVariables false
set_option linter.unusedSimpArgs false
set_option linter.unusedSectionVars false
namespace Go.Proofs.YtkcpghpglhamfaaGreatDoor.Sk
open Go Go.Proofs.YtkcpghpglhamfaaGreatDoor.Ab Go.Proofs.YtkcpghpglhamfaaGreatDoor.SK
theorem digits_q {y : state_reader × Str} (hs : y.2.length ≤ 4) : ∀ (d k : Nat) (a : Int), y.2.length = k + d → (∃ v, state_reader_number.l0 y (k : Int) a = some v) ∧ (∃ v, state_reader_number.l1 y (k : Int) a = some v) ∧ (∃ v, state_reader_number.l2 y (k : Int) a = some v) ∧ ∃ v, state_reader_number.l3 y (k : Int) a = some v
  | 0, k, a, e => by
    have hn : ¬ (k : Int) < ((u8s y.2).length : Int) := by simp only [u8s, List.length_map]; omega
    exact ⟨⟨a, by rw [state_reader_number.l0, if_neg hn]⟩, ⟨a, by rw [state_reader_number.l1, if_neg hn]⟩, ⟨a, by rw [state_reader_number.l2, if_neg hn]⟩, ⟨a, by rw [state_reader_number.l3, if_neg hn]⟩⟩
  | d + 1, k, a, e => by
    have hk : k < y.2.length := by omega
    have hn : (k : Int) < ((u8s y.2).length : Int) := by simp only [u8s, List.length_map]; omega
    obtain ⟨⟨v0, h0⟩, ⟨v1, h1⟩, ⟨v2, h2⟩, ⟨v3, h3⟩⟩ := digits_q hs d (k + 1) (IntKind.i64.wrap ((IntKind.i64.wrap (10 * a)) + (IntKind.i64.wrap (bAnd .u8 (sAt y.2 (k : Int)) 15)))) (by omega)
    refine ⟨⟨v0, ?_⟩, ⟨v1, ?_⟩, ⟨v2, ?_⟩, ⟨v3, ?_⟩⟩
    · rw [state_reader_number.l0, if_pos hn, lAt_u8s hk, bsome, wS (by omega), h0]
    · rw [state_reader_number.l1, if_pos hn, lAt_u8s hk, bsome, wS (by omega), h1]
    · rw [state_reader_number.l2, if_pos hn, lAt_u8s hk, bsome, wS (by omega), h2]
    · rw [state_reader_number.l3, if_pos hn, lAt_u8s hk, bsome, wS (by omega), h3]
theorem nil_q (r : state_reader) : (∃ v, state_reader_number.l0 (r, []) 0 0 = some v) ∧ (∃ v, state_reader_number.l1 (r, []) 0 0 = some v) ∧ (∃ v, state_reader_number.l2 (r, []) 0 0 = some v) ∧ ∃ v, state_reader_number.l3 (r, []) 0 0 = some v := digits_q (y := (r, [])) (by simp) 0 0 0 (by simp)
section
variable {T : List api_Tok} (hT : Tk T) {l : api_Lattice}
include hT
theorem num_t {i : Nat} (hi : i < T.length) (e : Int) : ∃ (j : Nat) (e' v : Int), state_reader_number.f ⟨l, T, (i : Int), e⟩ = some (⟨l, T, (j : Int), e'⟩, v) ∧ j < T.length ∧ (e' = 0 → e = 0) := by
  have hl := hT.len
  have len_ok : ∀ {s : Str}, s.length ≤ 4 → s.length ≤ big := fun h => by unfold big; omega
  have nilOk : ([] : Str).length ≤ big := by decide
  unfold state_reader_number.f
  rw [is_p hT hi, bsome]
  cases hm : sB T i e 3 [45] with
  | true =>
    obtain ⟨hi2, he⟩ := sB_next hT hi (by decide) hm
    subst he
    rw [if_pos tt]
    show ∃ (j : Nat) (e' v : Int), (lAt T (IntKind.i64.wrap ((i : Int) + 1)) >>= fun y3 => if (y3.Text.length : Int) > 4 then (state_reader_fail.f (⟨l, T, IntKind.i64.wrap ((i : Int) + 1), 0⟩ : state_reader) 4 >>= _) else (state_reader_of.f (⟨l, T, IntKind.i64.wrap ((i : Int) + 1), 0⟩ : state_reader) 2 >>= _)) = _ ∧ _
    rw [wS (by omega), lAt_some hi2, bsome]
    by_cases h4 : T[i + 1].Text.length ≤ 4
    · rw [if_neg (show ¬ (T[i + 1].Text.length : Int) > 4 by omega)]
      by_cases hk : T[i + 1].Kind = 2
      · have hi3 := hT.next _ hi2 (by omega)
        obtain ⟨_, ⟨v, hv⟩, _⟩ := digits_q (y := ((⟨l, T, ((i + 1 + 1 : Nat) : Int), 0⟩ : state_reader), T[i + 1].Text)) h4 T[i + 1].Text.length 0 0 (by simp)
        rw [show ((0 : Nat) : Int) = 0 from rfl] at hv
        rw [of_ok hT hi2 hk, bsome, if_pos (len_ok h4), hv, bsome]
        exact ⟨i + 1 + 1, 0, _, rfl, hi3, fun _ => rfl⟩
      · obtain ⟨_, ⟨v, hv⟩, _⟩ := nil_q ⟨l, T, ((i + 1 : Nat) : Int), 4⟩
        rw [of_no hT hi2 hk, bsome, if_pos nilOk, hv, bsome]
        exact ⟨i + 1, 4, _, rfl, hi2, fun h => by cases h⟩
    · obtain ⟨⟨v, hv⟩, _⟩ := nil_q ⟨l, T, ((i + 1 : Nat) : Int), 4⟩
      rw [if_pos (show (T[i + 1].Text.length : Int) > 4 by omega), fail_s hT, bsome, if_pos rfl, of_bad hT hi2 (by decide), bsome, if_pos nilOk, hv, bsome]
      exact ⟨i + 1, 4, _, rfl, hi2, fun h => by cases h⟩
  | false =>
    rw [if_neg ff]
    show ∃ (j : Nat) (e' v : Int), (lAt T (i : Int) >>= fun y3 => if (y3.Text.length : Int) > 4 then (state_reader_fail.f (⟨l, T, (i : Int), e⟩ : state_reader) 4 >>= _) else (state_reader_of.f (⟨l, T, (i : Int), e⟩ : state_reader) 2 >>= _)) = _ ∧ _
    rw [lAt_some hi, bsome]
    by_cases he : e = 0
    · subst he
      by_cases h4 : T[i].Text.length ≤ 4
      · rw [if_neg (show ¬ (T[i].Text.length : Int) > 4 by omega)]
        by_cases hk : T[i].Kind = 2
        · have hi3 := hT.next _ hi (by omega)
          obtain ⟨_, _, _, ⟨v, hv⟩⟩ := digits_q (y := ((⟨l, T, ((i + 1 : Nat) : Int), 0⟩ : state_reader), T[i].Text)) h4 T[i].Text.length 0 0 (by simp)
          rw [show ((0 : Nat) : Int) = 0 from rfl] at hv
          rw [of_ok hT hi hk, bsome, if_pos (len_ok h4), hv, bsome]
          exact ⟨i + 1, 0, _, rfl, hi3, fun _ => rfl⟩
        · obtain ⟨_, _, _, ⟨v, hv⟩⟩ := nil_q ⟨l, T, (i : Int), 4⟩
          rw [of_no hT hi hk, bsome, if_pos nilOk, hv, bsome]
          exact ⟨i, 4, _, rfl, hi, fun h => by cases h⟩
      · obtain ⟨_, _, ⟨v, hv⟩, _⟩ := nil_q ⟨l, T, (i : Int), 4⟩
        rw [if_pos (show (T[i].Text.length : Int) > 4 by omega), fail_s hT, bsome, if_pos rfl, of_bad hT hi (by decide), bsome, if_pos nilOk, hv, bsome]
        exact ⟨i, 4, _, rfl, hi, fun h => by cases h⟩
    · obtain ⟨_, _, ⟨v2, hv2⟩, ⟨v3, hv3⟩⟩ := nil_q ⟨l, T, (i : Int), e⟩
      by_cases h4 : (T[i].Text.length : Int) > 4
      · rw [if_pos h4, fail_s hT, bsome, if_neg he, of_bad hT hi he, bsome, if_pos nilOk, hv2, bsome]
        exact ⟨i, e, _, rfl, hi, fun h => h⟩
      · rw [if_neg h4, of_bad hT hi he, bsome, if_pos nilOk, hv3, bsome]
        exact ⟨i, e, _, rfl, hi, fun h => h⟩
end
section
variable {T : List api_Tok} (hT : Tk T) {l : api_Lattice} (hN : l.Names.length ≤ 1000) (hC : lattice_Check.f l = some 0)
include hT hN hC
theorem atom_t {i : Nat} (hi : i < T.length) (e : Int) : ∃ (j : Nat) (e' : Int) (v : api_Atom), state_reader_atom.f ⟨l, T, (i : Int), e⟩ = some (⟨l, T, (j : Int), e'⟩, v) ∧ j < T.length ∧ (e' = 0 → e = 0) := by
  have hl := hT.len
  obtain ⟨j, e1, v, h1, hj, h0⟩ := num_t hT (l := l) hi e
  unfold state_reader_atom.f
  rw [h1, bsome]
  show ∃ (j' : Nat) (e' : Int) (v' : api_Atom), (state_reader_must.f ⟨l, T, (j : Int), e1⟩ 3 [64] >>= _) = _ ∧ _
  rw [must_p hT hj, bsome]
  have hj2 := sM_lt hT hj (e := e1) (k := 3) (s := [64]) (by decide)
  have h2 : (sM T 3 [64] j e1).2 = 0 → e = 0 := by
    intro q
    by_cases he : e1 = 0
    · exact h0 he
    · rw [sM_bad he] at q; exact h0 q
  generalize sM T 3 [64] j e1 = q at hj2 h2 ⊢
  obtain ⟨k, f⟩ := q
  by_cases hf : f = 0
  · subst hf
    rw [if_pos rfl, lAt_some hj2, bsome, bsome]
    by_cases hk : T[k].Kind = 1
    · rw [decide_eq_true hk, if_neg (by decide), bsome]
      have hof : order_Find.f l T[k].Text = some (if plc l.Names T[k].Text < 0 then (0, 9) else (plc l.Names T[k].Text, 0)) := by
        unfold order_Find.f
        rw [hC, bsome, if_pos rfl, find_p hN, bsome]
        split <;> rfl
      show ∃ (j' : Nat) (e' : Int) (v' : api_Atom), (order_Find.f l T[k].Text >>= _) = _ ∧ _
      rw [hof, bsome]
      by_cases hn : plc l.Names T[k].Text < 0
      · rw [if_pos hn, if_neg (show ¬ ((0, 9) : Int × Int).2 = 0 by decide)]
        show ∃ (j' : Nat) (e' : Int) (v' : api_Atom), (state_reader_fail.f ⟨l, T, (k : Int), 0⟩ 6 >>= _) = _ ∧ _
        rw [fail_s hT, bsome]
        exact ⟨k, 6, ⟨0, 0⟩, rfl, hj2, fun h => by cases h⟩
      · rw [if_neg hn, if_pos rfl]
        have hk3 := hT.next k hj2 (by show T[k].Kind ≠ 0; omega)
        refine ⟨k + 1, 0, ⟨v, plc l.Names T[k].Text⟩, ?_, hk3, fun _ => h2 rfl⟩
        show some ((⟨l, T, IntKind.i64.wrap ((k : Int) + 1), 0⟩ : state_reader), _) = _
        rw [wS (by omega)]
    · rw [decide_eq_false hk, if_pos (by decide), fail_s hT, bsome]
      exact ⟨k, 4, ⟨0, 0⟩, rfl, hj2, fun h => by cases h⟩
  · rw [if_neg hf, bsome, if_pos tt, fail_s hT, bsome, if_neg hf]
    exact ⟨k, f, ⟨0, 0⟩, rfl, hj2, fun h => absurd h hf⟩
end
end Go.Proofs.YtkcpghpglhamfaaGreatDoor.Sk
