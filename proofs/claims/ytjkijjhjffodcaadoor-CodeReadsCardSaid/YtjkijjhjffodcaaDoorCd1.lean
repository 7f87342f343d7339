/- Programs read of tokens: the program's reader and the reference's, side by side. -/
import Derived.Test.YtjkijjhjffodcaaDoorRl1
set_option linter.unusedVariables false
set_option linter.unusedSimpArgs false
set_option linter.unusedSectionVars false
namespace Go.Proofs.YtjkijjhjffodcaaDoor.Cr
open Go Go.Proofs.YtjkijjhjffodcaaDoor.Ab Go.Proofs.YtjkijjhjffodcaaDoor.CR
theorem wrap_in (x : Int) : -9223372036854775808 ≤ IntKind.i64.wrap x ∧ IntKind.i64.wrap x < 9223372036854775808 := by
  show -9223372036854775808 ≤ (if (true && decide (x % 18446744073709551616 ≥ 9223372036854775808)) = true then x % 18446744073709551616 - 18446744073709551616 else x % 18446744073709551616) ∧ (if (true && decide (x % 18446744073709551616 ≥ 9223372036854775808)) = true then x % 18446744073709551616 - 18446744073709551616 else x % 18446744073709551616) < 9223372036854775808
  have h1 := Int.emod_nonneg x (show (18446744073709551616 : Int) ≠ 0 by decide)
  have h2 := Int.emod_lt_of_pos x (show (0 : Int) < 18446744073709551616 by decide)
  split
  · rename_i h
    simp at h
    omega
  · rename_i h
    simp at h
    omega
/-- Tokens that end with the end. -/
structure Tk (T : List api_Tok) : Prop where
  len : T.length ≤ 1000
  pos : 0 < T.length
  next : ∀ (i : Nat) (h : i < T.length), T[i].Kind ≠ 0 → i + 1 < T.length
section
variable {T : List api_Tok} (hT : Tk T) {l : api_Lattice}
include hT
theorem tok_p {i : Nat} (hi : i < T.length) {e : Int} : code_reader_tok.f ⟨l, T, (i : Int), e⟩ = some (⟨l, T, (i : Int), e⟩, T[i]) := by
  unfold code_reader_tok.f
  rw [lAt_some hi]; rfl
theorem fail_p {i : Int} {e : Int} : code_reader_fail.f ⟨l, T, i, 0⟩ e = some ⟨l, T, i, e⟩ := rfl
def mkS (T : List api_Tok) (s : Str) (i : Nat) (e : Int) : Nat × Int := if e = 0 then (if (T.getD i ⟨0, [], 0⟩).Kind = 3 ∧ (T.getD i ⟨0, [], 0⟩).Text = s then (i + 1, 0) else (i, 4)) else (i, e)
theorem get_at {i : Nat} (hi : i < T.length) : T.getD i ⟨0, [], 0⟩ = T[i] := by simp [hi]
theorem mark_p {i : Nat} (hi : i < T.length) {e : Int} {s : Str} : code_reader_mark.f ⟨l, T, (i : Int), e⟩ s = some ⟨l, T, ((mkS T s i e).1 : Int), (mkS T s i e).2⟩ := by
  have hl := hT.len
  unfold code_reader_mark.f
  rw [tok_p hT hi, bsome]
  unfold mkS
  rw [get_at hT hi]
  by_cases he : e = 0
  · subst he
    by_cases h1 : T[i].Kind = 3
    · by_cases h2 : T[i].Text = s
      · simp [h1, h2, bsome, wS (show i ≤ 100000 by omega)]
      · simp [h1, h2, fail_p hT]
    · simp [h1, fail_p hT]
  · simp [he]
theorem mark_r {i : Nat} (hi : i < T.length) {e n : Int} {x : api_Instr} {s : Str} : reticentref08_Mark.f T ⟨(i : Int), n, x, e⟩ s = some ⟨((mkS T s i e).1 : Int), n, x, (mkS T s i e).2⟩ := by
  have hl := hT.len
  unfold reticentref08_Mark.f
  rw [lAt_some hi]
  unfold mkS
  rw [get_at hT hi]
  by_cases he : e = 0
  · subst he
    by_cases h1 : T[i].Kind = 3
    · by_cases h2 : T[i].Text = s
      · simp [h1, h2, wS (show i ≤ 100000 by omega)]
      · simp [h1, h2]
    · simp [h1]
  · simp [he]
theorem mkS_lt {i : Nat} (hi : i < T.length) {e : Int} {s : Str} : (mkS T s i e).1 < T.length := by
  unfold mkS
  rw [get_at hT hi]
  split
  · split
    · rename_i h; exact hT.next i hi (by omega)
    · exact hi
  · exact hi
end
theorem mkS_bad {T : List api_Tok} {s : Str} {i : Nat} {e : Int} (h : e ≠ 0) : mkS T s i e = (i, e) := by unfold mkS; rw [if_neg h]
theorem and15 : ((List.range 256).all fun n => bAnd .u8 (n : Int) 15 == (n : Int).tmod 16) = true := by decide +kernel
theorem byte15 (c : UInt8) : bAnd .u8 (c.toNat : Int) 15 = (c.toNat : Int).tmod 16 := eq_of_beq (List.all_eq_true.1 and15 c.toNat (List.mem_range.2 c.toNat_lt))
theorem digits {y y' : api_Tok} {r : code_reader} (ht : y.Text = y'.Text) (hs : y.Text.length ≤ 4) : ∀ (d k : Nat) (a : Int), y.Text.length = k + d → (-9223372036854775808 ≤ a ∧ a < 9223372036854775808) →
    ∃ v, code_reader_number.l0 (r, y) (k : Int) a = some v ∧ code_reader_number.l1 (r, y) (k : Int) a = some v ∧ reticentref08_Int.l0 y' a (k : Int) = some v ∧ reticentref08_Int.l1 y' a (k : Int) = some v ∧ -9223372036854775808 ≤ v ∧ v < 9223372036854775808
  | 0, k, a, e, ha => by
    refine ⟨a, ?_, ?_, ?_, ?_, ha⟩
    · rw [code_reader_number.l0, if_neg (show ¬ (k : Int) < (y.Text.length : Int) by omega)]
    · rw [code_reader_number.l1, if_neg (show ¬ (k : Int) < (y.Text.length : Int) by omega)]
    · rw [reticentref08_Int.l0, if_neg (by rw [← ht]; omega)]
    · rw [reticentref08_Int.l1, if_neg (by rw [← ht]; omega)]
  | d + 1, k, a, e, ha => by
    have hk : k < y.Text.length := by omega
    obtain ⟨v, h1, h2, h3, h4, h5⟩ := digits ht hs d (k + 1) (IntKind.i64.wrap ((IntKind.i64.wrap (10 * a)) + (IntKind.i64.wrap ((sAt y.Text (k : Int)).tmod 16)))) (by omega) (wrap_in _)
    have hb : bAnd .u8 (sAt y.Text (k : Int)) 15 = (sAt y.Text (k : Int)).tmod 16 := by rw [sAt_get hk]; exact byte15 _
    refine ⟨v, ?_, ?_, ?_, ?_, h5⟩
    · rw [code_reader_number.l0, if_pos (show (k : Int) < (y.Text.length : Int) by omega), if_pos (show (0 : Int) ≤ (k : Int) ∧ (k : Int) < (y.Text.length : Int) by omega)]
      show code_reader_number.l0 (r, y) _ (IntKind.i64.wrap ((IntKind.i64.wrap (10 * a)) + (IntKind.i64.wrap (bAnd .u8 (sAt y.Text (k : Int)) 15)))) = _
      rw [hb, wS (by omega), h1]
    · rw [code_reader_number.l1, if_pos (show (k : Int) < (y.Text.length : Int) by omega), if_pos (show (0 : Int) ≤ (k : Int) ∧ (k : Int) < (y.Text.length : Int) by omega)]
      show code_reader_number.l1 (r, y) _ (IntKind.i64.wrap ((IntKind.i64.wrap (10 * a)) + (IntKind.i64.wrap (bAnd .u8 (sAt y.Text (k : Int)) 15)))) = _
      rw [hb, wS (by omega), h2]
    · rw [reticentref08_Int.l0, ← ht, if_pos (by omega), if_pos (by omega), wS (by omega), h3]
    · rw [reticentref08_Int.l1, ← ht, if_pos (by omega), if_pos (by omega), wS (by omega), h4]
section
variable {T : List api_Tok} (hT : Tk T) {l : api_Lattice}
include hT
theorem num_both {i : Nat} (hi : i < T.length) {n : Int} {x : api_Instr} : ∃ (j : Nat) (e v m : Int), code_reader_number.f ⟨l, T, (i : Int), 0⟩ = some (⟨l, T, (j : Int), e⟩, v) ∧ reticentref08_Int.f T ⟨(i : Int), n, x, 0⟩ = some ⟨(j : Int), m, x, e⟩ ∧ j < T.length ∧ (e = 0 → m = v) := by
  have hl := hT.len
  unfold code_reader_number.f reticentref08_Int.f
  rw [tok_p hT hi, bsome, if_pos rfl, lAt_some hi, bsome, bsome]
  have key : ((if T[i].Kind = 3 then (some (decide (T[i].Text = ([45] : Str)))) else (some false) : Option Bool)) = some (decide (T[i].Kind = 3 ∧ T[i].Text = [45])) := by
    by_cases h1 : T[i].Kind = 3 <;> simp [h1]
  show ∃ (j : Nat) (e v m : Int), (((if T[i].Kind = 3 then (some (decide (T[i].Text = ([45] : Str)))) else (some false) : Option Bool)) >>= _) = _ ∧ (((if T[i].Kind = 3 then (some (decide (T[i].Text = ([45] : Str)))) else (some false) : Option Bool)) >>= _) = _ ∧ _
  rw [key, bsome, bsome]
  have k2 : ∀ t : api_Tok, ((if t.Kind = 2 then (some (decide ((t.Text.length : Int) > 4))) else (some true) : Option Bool)) = some (decide (¬ (t.Kind = 2 ∧ t.Text.length ≤ 4))) := by
    intro t
    by_cases h1 : t.Kind = 2
    · by_cases h2 : t.Text.length ≤ 4
      · rw [if_pos h1, decide_eq_false (show ¬ (t.Text.length : Int) > 4 by omega), decide_eq_false (by simp [h1, h2])]
      · rw [if_pos h1, decide_eq_true (show (t.Text.length : Int) > 4 by omega), decide_eq_true (by simp [h2])]
    · rw [if_neg h1, decide_eq_true (by simp [h1])]
  by_cases hm : T[i].Kind = 3 ∧ T[i].Text = [45]
  · have hi2 := hT.next i hi (by omega)
    rw [decide_eq_true hm, if_pos rfl, if_pos rfl, wS (by omega)]
    show ∃ (j : Nat) (e v m : Int), (code_reader_tok.f ⟨l, T, ((i + 1 : Nat) : Int), 0⟩ >>= _) = _ ∧ _
    rw [tok_p hT hi2, bsome, lAt_some hi2, bsome]
    show ∃ (j : Nat) (e v m : Int), (((if T[i + 1].Kind = 2 then (some (decide ((T[i + 1].Text.length : Int) > 4))) else (some true) : Option Bool)) >>= _) = _ ∧ (((if T[i + 1].Kind = 2 then (some (decide ((T[i + 1].Text.length : Int) > 4))) else (some true) : Option Bool)) >>= _) = _ ∧ _
    rw [k2, bsome, bsome]
    by_cases hn : T[i + 1].Kind = 2 ∧ T[i + 1].Text.length ≤ 4
    · have hi3 := hT.next _ hi2 (by omega)
      obtain ⟨v, h1, _, h3, _, h5⟩ := digits (y := T[i + 1]) (y' := T[i + 1]) (r := ⟨l, T, ((i + 1 : Nat) : Int), 0⟩) rfl hn.2 T[i + 1].Text.length 0 0 (by omega) (by omega)
      rw [decide_eq_false (by simp [hn.1, hn.2]), if_neg ff, if_neg ff]
      rw [show ((0 : Nat) : Int) = 0 from rfl] at h1 h3
      rw [h1, bsome, h3, bsome, wS (by omega)]
      exact ⟨i + 1 + 1, 0, _, _, rfl, rfl, hi3, fun _ => by congr 1; omega⟩
    · rw [decide_eq_true hn, if_pos rfl, if_pos rfl]
      show ∃ (j : Nat) (e v m : Int), (code_reader_fail.f ⟨l, T, ((i + 1 : Nat) : Int), 0⟩ 4 >>= _) = _ ∧ _
      rw [fail_p hT, bsome]
      exact ⟨i + 1, 4, _, _, rfl, rfl, hi2, fun h => by cases h⟩
  · rw [decide_eq_false hm, if_neg ff, if_neg ff]
    show ∃ (j : Nat) (e v m : Int), (code_reader_tok.f ⟨l, T, (i : Int), 0⟩ >>= _) = _ ∧ _
    rw [tok_p hT hi, bsome, bsome]
    show ∃ (j : Nat) (e v m : Int), (((if T[i].Kind = 2 then (some (decide ((T[i].Text.length : Int) > 4))) else (some true) : Option Bool)) >>= _) = _ ∧ (((if T[i].Kind = 2 then (some (decide ((T[i].Text.length : Int) > 4))) else (some true) : Option Bool)) >>= _) = _ ∧ _
    rw [k2, bsome, bsome]
    by_cases hn : T[i].Kind = 2 ∧ T[i].Text.length ≤ 4
    · have hi3 := hT.next _ hi (by omega)
      obtain ⟨v, _, h2, _, h4, h5⟩ := digits (y := T[i]) (y' := T[i]) (r := ⟨l, T, (i : Int), 0⟩) rfl hn.2 T[i].Text.length 0 0 (by omega) (by omega)
      rw [decide_eq_false (by simp [hn.1, hn.2]), if_neg ff, if_neg ff]
      rw [show ((0 : Nat) : Int) = 0 from rfl] at h2 h4
      rw [h2, bsome, h4, bsome, wS (by omega)]
      exact ⟨i + 1, 0, _, _, rfl, rfl, hi3, fun _ => by rw [wrapZ (by omega) (by omega)]; omega⟩
    · rw [decide_eq_true hn, if_pos rfl, if_pos rfl]
      show ∃ (j : Nat) (e v m : Int), (code_reader_fail.f ⟨l, T, (i : Int), 0⟩ 4 >>= _) = _ ∧ _
      rw [fail_p hT, bsome]
      exact ⟨i, 4, _, _, rfl, rfl, hi, fun h => by cases h⟩
end
/-- A name's place. -/
def plc (N : List Str) (t : Str) : Int := match (List.range N.length).findSome? (fun k => if N.getD k [] = t then some (k : Int) else none) with | some k => k | none => -1
theorem find_p {N : List Str} (hN : N.length ≤ 1000) (t : Str) : slices_Index_string_string.f N t = some (plc N t) := by
  unfold slices_Index_string_string.f
  have := search (fun k => slices_Index_string_string.l0 N t k) N.length (fun k => if N.getD k [] = t then some (k : Int) else none) (by show slices_Index_string_string.l0 N t _ = _; rw [slices_Index_string_string.l0, if_neg (by omega)]) (fun k hk => by
    show slices_Index_string_string.l0 N t _ = _
    rw [slices_Index_string_string.l0, if_pos (by omega), lAt_some hk, bsome, wS (by omega)]
    have e : N.getD k [] = N[k] := by simp [hk]
    rw [e]
    by_cases q : t = N[k]
    · rw [if_pos q, if_pos q.symm]
    · rw [if_neg q, if_neg (fun w => q w.symm)])
  rw [show slices_Index_string_string.l0 N t 0 = _ from this, bsome]
  unfold plc fstOf
  cases (List.range N.length).findSome? (fun k => if N.getD k [] = t then some (k : Int) else none) <;> rfl
theorem find_r {l : api_Lattice} (hN : l.Names.length ≤ 1000) (t : Str) : reticentref02_Find.f l t = some (plc l.Names t) := by
  unfold reticentref02_Find.f
  have := search (fun k => reticentref02_Find.l0 l t k) l.Names.length (fun k => if l.Names.getD k [] = t then some (k : Int) else none) (by show reticentref02_Find.l0 l t _ = _; rw [reticentref02_Find.l0, if_neg (by omega)]) (fun k hk => by
    show reticentref02_Find.l0 l t _ = _
    rw [reticentref02_Find.l0, if_pos (by omega), lAt_some hk, bsome, wS (by omega)]
    have e : l.Names.getD k [] = l.Names[k] := by simp [hk]
    rw [e]
    by_cases q : l.Names[k] = t
    · rw [if_pos q, if_pos q]
    · rw [if_neg q, if_neg q])
  rw [show reticentref02_Find.l0 l t 0 = _ from this, bsome]
  unfold plc fstOf
  cases (List.range l.Names.length).findSome? (fun k => if l.Names.getD k [] = t then some (k : Int) else none) <;> rfl
section
variable {T : List api_Tok} (hT : Tk T) {l : api_Lattice} (hN : l.Names.length ≤ 1000) (hC : lattice_Check.f l = some 0)
include hT hN hC
theorem lab_both {i : Nat} (hi : i < T.length) {n : Int} {x : api_Instr} : ∃ (j : Nat) (e v m : Int), code_reader_label.f ⟨l, T, (i : Int), 0⟩ = some (⟨l, T, (j : Int), e⟩, v) ∧ reticentref08_Label.f l T ⟨(i : Int), n, x, 0⟩ = some ⟨(j : Int), m, x, e⟩ ∧ j < T.length ∧ (e = 0 → m = v) := by
  have hl := hT.len
  unfold code_reader_label.f reticentref08_Label.f
  rw [mark_p hT hi, mark_r hT hi, bsome, bsome]
  have hj := mkS_lt hT (e := 0) (s := [64]) hi
  generalize mkS T [64] i 0 = q at hj ⊢
  obtain ⟨j, e⟩ := q
  simp only at hj ⊢
  rw [tok_p hT hj, bsome, lAt_some hj, bsome]
  show ∃ (j' : Nat) (e' v m : Int), (if e = 0 then _ else _) = _ ∧ _
  by_cases he : e = 0
  · subst he
    rw [if_pos rfl, if_pos rfl]
    show ∃ (j' : Nat) (e' v m : Int), (if T[j].Kind = 1 then _ else _) = _ ∧ _
    by_cases hk : T[j].Kind = 1
    · have hj2 := hT.next j hj (by omega)
      rw [if_pos hk, if_pos hk, bsome, find_r hN, bsome]
      show ∃ (j' : Nat) (e' v m : Int), (order_Find.f l T[j].Text >>= _) = _ ∧ _
      have e1 : order_Find.f l T[j].Text = some (if plc l.Names T[j].Text < 0 then (0, 9) else (plc l.Names T[j].Text, 0)) := by
        unfold order_Find.f
        rw [hC, bsome, if_pos rfl, find_p hN, bsome]
        split <;> rfl
      rw [e1, bsome]
      by_cases hp : plc l.Names T[j].Text < 0
      · rw [if_pos hp, if_pos hp]
        exact ⟨j, 6, 0, _, rfl, rfl, hj, fun h => by cases h⟩
      · rw [if_neg hp, if_neg hp]
        show ∃ (j' : Nat) (e' v m : Int), some ((⟨l, T, IntKind.i64.wrap ((j : Int) + 1), 0⟩ : code_reader), plc l.Names T[j].Text) = _ ∧ _
        rw [wS (by omega)]
        exact ⟨j + 1, 0, _, _, rfl, rfl, hj2, fun _ => rfl⟩
    · rw [if_neg hk, if_neg hk]
      exact ⟨j, 4, 0, _, rfl, rfl, hj, fun h => by cases h⟩
  · rw [if_neg he, if_neg he]
    exact ⟨j, e, 0, _, rfl, rfl, hj, fun h => absurd h he⟩
end
/-! Instructions. -/
def numB (op : Int) : Bool := decide (op = 1 ∨ op = 8 ∨ op = 9 ∨ op = 10)
theorem number_p (op : Int) : code_number.f op = some (numB op) := by
  unfold code_number.f numB
  rw [show code_spans.f = some [(1, some fun z0 => code_spans_1_1.f z0 (-20) 20), (8, some fun z0 => code_spans_1_1.f z0 0 12), (9, some fun z0 => code_spans_1_1.f z0 0 3), (10, some fun z0 => code_spans_1_1.f z0 0 1)] from rfl, bsome]
  unfold mGet mFind mFind mFind mFind mFind
  by_cases h1 : op = 1
  · simp [h1]
  · by_cases h2 : op = 8
    · simp [h2]
    · by_cases h3 : op = 9
      · simp [h3]
      · by_cases h4 : op = 10
        · simp [h4]
        · simp [h1, h2, h3, h4]
theorem number_r (op : Int) : reticentref08_Number.f op = some (numB op) := by
  unfold reticentref08_Number.f numB
  by_cases h1 : op = 1
  · simp [h1]
  · by_cases h2 : op = 8
    · simp [h2]
    · by_cases h3 : op = 9
      · simp [h3]
      · by_cases h4 : op = 10
        · simp [h4]
        · simp [h1, h2, h3, h4]
theorem span_eq (x a b : Int) : code_spans_1_1.f x a b = some (decide (a ≤ x ∧ x ≤ b)) := by
  unfold code_spans_1_1.f
  by_cases h : x ≥ a
  · rw [if_pos h]; simp; omega
  · rw [if_neg h, decide_eq_false (by omega)]; rfl
/-- May an instruction be? -/
def insB (n : Int) (x : api_Instr) : Bool :=
  if x.Op = 1 then decide (-20 ≤ x.N ∧ x.N ≤ 20 ∧ 0 ≤ x.L ∧ x.L < n) else decide (0 ≤ x.Op ∧ x.Op ≤ 12 ∧ x.L = 0 ∧ (if x.Op = 8 then 0 ≤ x.N ∧ x.N ≤ 12 else if x.Op = 9 then 0 ≤ x.N ∧ x.N ≤ 3 else if x.Op = 10 then 0 ≤ x.N ∧ x.N ≤ 1 else x.N = 0))
theorem two {a b : Prop} [Decidable a] [Decidable b] : ((if a then (some (decide b)) else (some false) : Option Bool)) = some (decide (a ∧ b)) := by by_cases h : a <;> simp [h]
theorem right_r (n : Int) (x : api_Instr) : reticentref08_Instr.f n x = some (insB n x) := by
  unfold reticentref08_Instr.f insB
  by_cases h1 : x.Op = 1
  · rw [if_pos h1, if_pos h1, two]
    by_cases a : x.N ≥ -20
    · by_cases b : x.N ≤ 20
      · rw [if_pos a, if_pos b, bsome]; congr 1; apply decide_eq_decide.2; omega
      · rw [if_pos a, if_neg b, bsome, decide_eq_false (by omega)]
    · rw [if_neg a, bsome, decide_eq_false (by omega)]
  · rw [if_neg h1, if_neg h1]
    by_cases h2 : x.Op < 0
    · rw [if_pos h2, bsome, if_pos rfl, decide_eq_false (by omega)]
    · by_cases h3 : x.Op > 12
      · rw [if_neg h2, if_pos h3, bsome, if_pos rfl, decide_eq_false (by omega)]
      · by_cases h4 : x.L = 0
        · rw [if_neg h2, if_neg h3, decide_eq_true h4, bsome, if_neg (by decide)]
          by_cases q8 : x.Op = 8
          · rw [if_pos q8, two, bsome]; congr 1; apply decide_eq_decide.2; rw [if_pos q8]; omega
          · rw [if_neg q8]
            by_cases q9 : x.Op = 9
            · rw [if_pos q9, two, bsome]; congr 1; apply decide_eq_decide.2; rw [if_neg q8, if_pos q9]; omega
            · rw [if_neg q9]
              by_cases q10 : x.Op = 10
              · rw [if_pos q10]
                by_cases z : x.N = 0
                · rw [if_pos z, bsome, decide_eq_true]; rw [if_neg q8, if_neg q9, if_pos q10]; omega
                · rw [if_neg z, bsome]; congr 1; apply decide_eq_decide.2; rw [if_neg q8, if_neg q9, if_pos q10]; omega
              · rw [if_neg q10]; congr 1; apply decide_eq_decide.2; rw [if_neg q8, if_neg q9, if_neg q10]; omega
        · rw [if_neg h2, if_neg h3, decide_eq_false h4, bsome, if_pos (show (!false) = true from rfl), decide_eq_false (by omega)]
theorem right_p (n : Int) (x : api_Instr) : code_right.f n x = some (insB n x) := by
  unfold code_right.f
  have hs : code_spans.f = some [(1, some fun z0 => code_spans_1_1.f z0 (-20) 20), (8, some fun z0 => code_spans_1_1.f z0 0 12), (9, some fun z0 => code_spans_1_1.f z0 0 3), (10, some fun z0 => code_spans_1_1.f z0 0 1)] := rfl
  by_cases h2 : x.Op < 0
  · rw [if_pos h2, bsome, if_pos rfl]; unfold insB; rw [if_neg (by omega), decide_eq_false (by omega)]
  · by_cases h3 : x.Op ≥ 13
    · rw [if_neg h2, decide_eq_true h3, bsome, if_pos rfl]; unfold insB; rw [if_neg (by omega), decide_eq_false (by omega)]
    · rw [if_neg h2, decide_eq_false h3, bsome, if_neg (by decide), hs, bsome]
      unfold insB mGet mFind mFind mFind mFind mFind
      by_cases q1 : x.Op = 1
      · simp only [q1, if_true, two, bsome, span_eq]
        by_cases z : -20 ≤ x.N ∧ x.N ≤ 20
        · simp [z]
        · simp [z]; intros; omega
      · by_cases q8 : x.Op = 8
        · simp only [q8, if_true, bsome, span_eq]
          by_cases z : 0 ≤ x.N ∧ x.N ≤ 12
          · simp [z]
          · have zz : 0 ≤ x.N → 12 < x.N := by omega
            simp [z]
            rw [if_pos zz]; rfl
        · by_cases q9 : x.Op = 9
          · simp only [q9, if_true, bsome, span_eq]
            by_cases z : 0 ≤ x.N ∧ x.N ≤ 3
            · simp [z]
            · have zz : 0 ≤ x.N → 3 < x.N := by omega
              simp [z]
              rw [if_pos zz]; rfl
          · by_cases q10 : x.Op = 10
            · simp only [q10, if_true, bsome, span_eq]
              by_cases z : 0 ≤ x.N ∧ x.N ≤ 1
              · simp [z]
              · have zz : 0 ≤ x.N → 1 < x.N := by omega
                simp [z]
                rw [if_pos zz]; rfl
            · have z1 : 0 ≤ x.Op := by omega
              have z2 : x.Op ≤ 12 := by omega
              simp only [q1, q8, q9, q10, if_false, bsome]
              by_cases z : x.N = 0
              · simp [z, z1, z2]
              · simp [z]
end Go.Proofs.YtjkijjhjffodcaaDoor.Cr
