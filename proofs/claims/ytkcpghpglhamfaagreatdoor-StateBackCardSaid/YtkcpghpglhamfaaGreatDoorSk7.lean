/- States: what is written is read: atoms, slots, rows, the program. -/
import Derived.Test.YtkcpghpglhamfaaGreatDoorSk6
set_option linter.unusedVariables false
set_option linter.unusedSimpArgs false
set_option linter.unusedSectionVars false
namespace Go.Proofs.YtkcpghpglhamfaaGreatDoor.Sk
open Go Go.Proofs.YtkcpghpglhamfaaGreatDoor.Ab Go.Proofs.YtkcpghpglhamfaaGreatDoor.SK
section
variable {T : List api_Tok} (hT : Tk T) {l : api_Lattice}
include hT
theorem sB_at {i : Nat} {k : Int} {s : Str} {R : List (Int × Str)} (h : (T.drop i).map kt = (k, s) :: R) : sB T i 0 k s = true := by
  obtain ⟨hi, a, b, _⟩ := at_ h
  unfold sB
  rw [get_at hT hi]
  exact decide_eq_true ⟨rfl, a, b⟩
theorem sM_at {i : Nat} {k : Int} {s : Str} {R : List (Int × Str)} (h : (T.drop i).map kt = (k, s) :: R) : sM T k s i 0 = (i + 1, 0) := by
  unfold sM
  rw [sB_at hT h, if_pos tt]
theorem sB_no {i : Nat} {k k' : Int} {s s' : Str} {R : List (Int × Str)} (h : (T.drop i).map kt = (k', s') :: R) (hne : ¬ (k' = k ∧ s' = s)) : sB T i 0 k s = false := by
  obtain ⟨hi, a, b, _⟩ := at_ h
  unfold sB
  rw [get_at hT hi]
  exact decide_eq_false (fun q => hne ⟨a.symm.trans q.2.1, b.symm.trans q.2.2⟩)
theorem must_at {i : Nat} {k : Int} {s : Str} {R : List (Int × Str)} (h : (T.drop i).map kt = (k, s) :: R) : state_reader_must.f ⟨l, T, (i : Int), 0⟩ k s = some ⟨l, T, ((i + 1 : Nat) : Int), 0⟩ := by
  obtain ⟨hi, _⟩ := at_ h
  rw [must_p hT hi, sM_at hT h]
theorem num_s {i : Nat} {n : Int} (h0 : -20 ≤ n) (h1 : n ≤ 20) {R : List (Int × Str)} (h : (T.drop i).map kt = sgT n ++ R) : ∃ j : Nat, state_reader_number.f ⟨l, T, (i : Int), 0⟩ = some (⟨l, T, (j : Int), 0⟩, n) ∧ (T.drop j).map kt = R := by
  have hl := hT.len
  have len_ok : ∀ {s : Str}, s.length ≤ 4 → s.length ≤ big := fun h => by unfold big; omega
  unfold sgT at h
  unfold state_reader_number.f
  by_cases q : n < 0
  · rw [if_pos q] at h
    obtain ⟨hi, a, b, h2⟩ := at_ h
    obtain ⟨hi2, a2, b2, h3⟩ := at_ h2
    have hd := dec_dig (m := (0 - n).toNat) (by omega)
    have r1 := (readS (r := ⟨l, T, ((i + 1 + 1 : Nat) : Int), 0⟩) (m := (0 - n).toNat) (by omega)).1
    refine ⟨i + 1 + 1, ?_, h3⟩
    rw [is_p hT hi, bsome, sB_at hT h, if_pos tt]
    show (lAt T (IntKind.i64.wrap ((i : Int) + 1)) >>= fun y3 => if (y3.Text.length : Int) > 4 then (state_reader_fail.f (⟨l, T, IntKind.i64.wrap ((i : Int) + 1), 0⟩ : state_reader) 4 >>= _) else (state_reader_of.f (⟨l, T, IntKind.i64.wrap ((i : Int) + 1), 0⟩ : state_reader) 2 >>= _)) = _
    have hl4 : T[i + 1].Text.length ≤ 4 := by rw [b2]; exact hd.2.1
    rw [wS (by omega), lAt_some hi2, bsome, if_neg (show ¬ (T[i + 1].Text.length : Int) > 4 by omega), of_ok hT hi2 a2, bsome, if_pos (len_ok hl4), b2, r1, bsome, wrapZ (by omega) (by omega)]
    congr 2; omega
  · rw [if_neg q] at h
    obtain ⟨hi, a, b, h3⟩ := at_ h
    have hd := dec_dig (m := n.toNat) (by omega)
    have r1 := (readS (r := ⟨l, T, ((i + 1 : Nat) : Int), 0⟩) (m := n.toNat) (by omega)).2
    refine ⟨i + 1, ?_, h3⟩
    rw [is_p hT hi, bsome, sB_no hT h (fun w => by cases w.1), if_neg ff]
    show (lAt T (i : Int) >>= fun y3 => if (y3.Text.length : Int) > 4 then (state_reader_fail.f (⟨l, T, (i : Int), 0⟩ : state_reader) 4 >>= _) else (state_reader_of.f (⟨l, T, (i : Int), 0⟩ : state_reader) 2 >>= _)) = _
    have hl4 : T[i].Text.length ≤ 4 := by rw [b]; exact hd.2.1
    rw [lAt_some hi, bsome, if_neg (show ¬ (T[i].Text.length : Int) > 4 by omega), of_ok hT hi a, bsome, if_pos (len_ok hl4), b, r1, bsome, wrapZ (by omega) (by omega)]
    congr 2; omega
variable (hL : Lok l) (hC : lattice_Check.f l = some 0)
include hL hC
theorem atom_w {i : Nat} {v a : Int} (A : Aok l v a) {R : List (Int × Str)} (h : (T.drop i).map kt = wrT l v a ++ R) : ∃ j : Nat, state_reader_atom.f ⟨l, T, (i : Int), 0⟩ = some (⟨l, T, (j : Int), 0⟩, ⟨v, a⟩) ∧ (T.drop j).map kt = R := by
  have hl := hT.len
  have hN : l.Names.length ≤ 1000 := by have := hL.n8; omega
  have ha0 := A.a0
  have ha1 := A.a1
  unfold wrT at h
  rw [List.append_assoc] at h
  obtain ⟨j, e1, h2⟩ := num_s hT (l := l) A.v0 A.v1 h
  have h2' : (T.drop j).map kt = (3, [64]) :: (1, l.Names.getD a.toNat []) :: R := h2
  obtain ⟨_, _, _, h3⟩ := at_ h2'
  obtain ⟨hj, k1, t1, h4⟩ := at_ h3
  refine ⟨j + 1 + 1, ?_, h4⟩
  unfold state_reader_atom.f
  rw [e1, bsome]
  show (state_reader_must.f ⟨l, T, (j : Int), 0⟩ 3 [64] >>= _) = _
  rw [must_at hT h2', bsome]
  have hp : plc l.Names T[j + 1].Text = a := by rw [t1, plc_at hL (by omega)]; omega
  rw [if_pos rfl, lAt_some hj, bsome, bsome, decide_eq_true k1, if_neg (by decide), bsome]
  show (order_Find.f l T[j + 1].Text >>= _) = _
  rw [find_o hT hN hC, hp, if_neg (by omega), bsome, if_pos rfl]
  show some ((⟨l, T, IntKind.i64.wrap (((j + 1 : Nat) : Int) + 1), 0⟩ : state_reader), _) = _
  rw [wS (by omega)]
theorem slot_w {i : Nat} {x : api_Slot} (A : Aok l x.V x.L) {R : List (Int × Str)} (h : (T.drop i).map kt = slT l x ++ R) : ∃ j : Nat, state_reader_slot.f ⟨l, T, (i : Int), 0⟩ = some (⟨l, T, (j : Int), 0⟩, x) ∧ (T.drop j).map kt = R := by
  have hl := hT.len
  obtain ⟨r, v, a⟩ := x
  unfold slT at h
  unfold state_reader_slot.f
  cases r with
  | true =>
    rw [if_pos tt] at h
    have h' : (T.drop i).map kt = (1, [114, 101, 116]) :: (wrT l v a ++ R) := h
    obtain ⟨hi, _, _, h2⟩ := at_ h'
    obtain ⟨j, e1, h3⟩ := atom_w hT hL hC A h2
    refine ⟨j, ?_, h3⟩
    rw [is_p hT hi, bsome, sB_at hT h', if_pos tt]
    show (state_reader_atom.f ⟨l, T, IntKind.i64.wrap ((i : Int) + 1), 0⟩ >>= _) = _
    rw [wS (by omega), e1, bsome]
  | false =>
    rw [if_neg ff] at h
    have h' : (T.drop i).map kt = wrT l v a ++ R := h
    obtain ⟨j, e1, h3⟩ := atom_w hT hL hC A h'
    have hno : ∃ hi : i < T.length, sB T i 0 1 [114, 101, 116] = false := by
      unfold wrT sgT at h'
      by_cases q : v < 0
      · rw [if_pos q] at h'
        exact ⟨(at_ h').1, sB_no hT h' (fun w => by cases w.1)⟩
      · rw [if_neg q] at h'
        exact ⟨(at_ h').1, sB_no hT h' (fun w => by cases w.1)⟩
    obtain ⟨hi, hb⟩ := hno
    refine ⟨j, ?_, h3⟩
    rw [is_p hT hi, bsome, hb, if_neg ff]
    show (state_reader_atom.f ⟨l, T, (i : Int), 0⟩ >>= _) = _
    rw [e1, bsome]
theorem rowA_wl {most : Nat} (hm : most ≤ 20) {R : List (Int × Str)} : ∀ (x : List api_Atom) (a : api_Atom), (∀ b ∈ a :: x, Aok l b.V b.L) → ∀ (acc : List api_Atom) (i : Nat), acc.length + (x.length + 1) ≤ most →
    (T.drop i).map kt = wrT l a.V a.L ++ (x.flatMap (fun b => (3, [44]) :: wrT l b.V b.L) ++ (3, [59]) :: R) →
    ∃ j : Nat, state_row_api_Atom_atom.l0 (most : Int) l.Names l.Up T (i : Int) 0 acc = some (l.Names, l.Up, T, (j : Int), 0, acc ++ (a :: x)) ∧ (T.drop j).map kt = R
  | x, a, hA, acc, i, hd, h => by
    have hl := hT.len
    have hN : l.Names.length ≤ 1000 := by have := hL.n8; omega
    obtain ⟨j, e1, h2⟩ := atom_w hT hL hC (hA a (List.mem_cons_self ..)) h
    rw [state_row_api_Atom_atom.l0, if_pos rfl, if_neg (show ¬ (acc.length : Int) = (most : Int) by omega)]
    show ∃ j : Nat, (state_reader_atom.f ⟨l, T, (i : Int), 0⟩ >>= _) = _ ∧ _
    rw [e1, bsome, if_pos (show (acc.length + ([a] : List api_Atom).length) * 16 ≤ big from gd hT hN hC (by omega) (by omega))]
    show ∃ j2 : Nat, (state_reader_is.f ⟨l, T, (j : Int), 0⟩ 3 [44] >>= _) = _ ∧ _
    match x, h2, hA, hd with
    | [], h2, hA, hd =>
      have h2' : (T.drop j).map kt = (3, [59]) :: R := h2
      obtain ⟨hj, _, _, h3⟩ := at_ h2'
      refine ⟨j + 1, ?_, h3⟩
      rw [is_p hT hj, bsome, sB_no hT h2' (fun w => by cases w.2), if_pos (show (!false) = true from rfl)]
      show (state_reader_must.f ⟨l, T, (j : Int), 0⟩ 3 [59] >>= _) = _
      rw [must_at hT h2', bsome]
    | b :: x, h2, hA, hd =>
      have h2' : (T.drop j).map kt = (3, [44]) :: (wrT l b.V b.L ++ (x.flatMap (fun b => (3, [44]) :: wrT l b.V b.L) ++ (3, [59]) :: R)) := by
        rw [h2, List.flatMap_cons, List.append_assoc]; rfl
      obtain ⟨hj, _, _, h3⟩ := at_ h2'
      simp only [List.length_cons] at hd
      obtain ⟨j2, e2, h4⟩ := rowA_wl hm x b (fun c hc => hA c (List.mem_cons_of_mem _ hc)) (acc ++ [a]) (j + 1) (by simp; omega) h3
      refine ⟨j2, ?_, h4⟩
      rw [is_p hT hj, bsome, sB_at hT h2', if_neg (show ¬ (!true) = true from by decide)]
      show state_row_api_Atom_atom.l0 (most : Int) l.Names l.Up T (IntKind.i64.wrap ((j : Int) + 1)) 0 (acc ++ [a]) = _
      rw [wS (by omega), e2, List.append_assoc]; rfl
theorem rowS_wl {most : Nat} (hm : most ≤ 20) {R : List (Int × Str)} : ∀ (x : List api_Slot) (a : api_Slot), (∀ b ∈ a :: x, Aok l b.V b.L) → ∀ (acc : List api_Slot) (i : Nat), acc.length + (x.length + 1) ≤ most →
    (T.drop i).map kt = slT l a ++ (x.flatMap (fun b => (3, [44]) :: slT l b) ++ (3, [59]) :: R) →
    ∃ j : Nat, state_row_api_Slot_slot.l0 (most : Int) l.Names l.Up T (i : Int) 0 acc = some (l.Names, l.Up, T, (j : Int), 0, acc ++ (a :: x)) ∧ (T.drop j).map kt = R
  | x, a, hA, acc, i, hd, h => by
    have hl := hT.len
    have hN : l.Names.length ≤ 1000 := by have := hL.n8; omega
    obtain ⟨j, e1, h2⟩ := slot_w hT hL hC (hA a (List.mem_cons_self ..)) h
    rw [state_row_api_Slot_slot.l0, if_pos rfl, if_neg (show ¬ (acc.length : Int) = (most : Int) by omega)]
    show ∃ j : Nat, (state_reader_slot.f ⟨l, T, (i : Int), 0⟩ >>= _) = _ ∧ _
    rw [e1, bsome, if_pos (show (acc.length + ([a] : List api_Slot).length) * 24 ≤ big from gd hT hN hC (by omega) (by omega))]
    show ∃ j2 : Nat, (state_reader_is.f ⟨l, T, (j : Int), 0⟩ 3 [44] >>= _) = _ ∧ _
    match x, h2, hA, hd with
    | [], h2, hA, hd =>
      have h2' : (T.drop j).map kt = (3, [59]) :: R := h2
      obtain ⟨hj, _, _, h3⟩ := at_ h2'
      refine ⟨j + 1, ?_, h3⟩
      rw [is_p hT hj, bsome, sB_no hT h2' (fun w => by cases w.2), if_pos (show (!false) = true from rfl)]
      show (state_reader_must.f ⟨l, T, (j : Int), 0⟩ 3 [59] >>= _) = _
      rw [must_at hT h2', bsome]
    | b :: x, h2, hA, hd =>
      have h2' : (T.drop j).map kt = (3, [44]) :: (slT l b ++ (x.flatMap (fun b => (3, [44]) :: slT l b) ++ (3, [59]) :: R)) := by
        rw [h2, List.flatMap_cons, List.append_assoc]; rfl
      obtain ⟨hj, _, _, h3⟩ := at_ h2'
      simp only [List.length_cons] at hd
      obtain ⟨j2, e2, h4⟩ := rowS_wl hm x b (fun c hc => hA c (List.mem_cons_of_mem _ hc)) (acc ++ [a]) (j + 1) (by simp; omega) h3
      refine ⟨j2, ?_, h4⟩
      rw [is_p hT hj, bsome, sB_at hT h2', if_neg (show ¬ (!true) = true from by decide)]
      show state_row_api_Slot_slot.l0 (most : Int) l.Names l.Up T (IntKind.i64.wrap ((j : Int) + 1)) 0 (acc ++ [a]) = _
      rw [wS (by omega), e2, List.append_assoc]; rfl
end
end Go.Proofs.YtkcpghpglhamfaaGreatDoor.Sk
