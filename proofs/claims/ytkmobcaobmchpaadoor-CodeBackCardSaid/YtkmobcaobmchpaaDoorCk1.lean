/- Programs: what is read may be. -/
import Derived.Test.YtkmobcaobmchpaaDoorCkb1
import Derived.Test.YtkmobcaobmchpaaDoorGCK
set_option linter.unusedVariables false
set_option linter.unusedSimpArgs false
set_option linter.unusedSectionVars false
namespace Go.Proofs.YtkmobcaobmchpaaDoor.Ck
open Go Go.Proofs.YtkmobcaobmchpaaDoor.Ab Go.Proofs.YtkmobcaobmchpaaDoor.CK
theorem digits_p {y : code_reader × api_Tok} (hs : y.2.Text.length ≤ 4) : ∀ (d k : Nat) (a : Int), y.2.Text.length = k + d → (∃ v, code_reader_number.l0 y (k : Int) a = some v) ∧ ∃ v, code_reader_number.l1 y (k : Int) a = some v
  | 0, k, a, e => by
    have hn : ¬ (k : Int) < (y.2.Text.length : Int) := by omega
    exact ⟨⟨a, by rw [code_reader_number.l0, if_neg hn]⟩, ⟨a, by rw [code_reader_number.l1, if_neg hn]⟩⟩
  | d + 1, k, a, e => by
    have hp : (k : Int) < (y.2.Text.length : Int) := by omega
    have hq : (0 : Int) ≤ (k : Int) ∧ (k : Int) < (y.2.Text.length : Int) := by omega
    obtain ⟨⟨v, h1⟩, w, h2⟩ := digits_p hs d (k + 1) (IntKind.i64.wrap ((IntKind.i64.wrap (10 * a)) + (IntKind.i64.wrap (bAnd .u8 (sAt y.2.Text (k : Int)) 15)))) (by omega)
    exact ⟨⟨v, by rw [code_reader_number.l0, if_pos hp, if_pos hq, wS (by omega), h1]⟩, ⟨w, by rw [code_reader_number.l1, if_pos hp, if_pos hq, wS (by omega), h2]⟩⟩
theorem dash (t : api_Tok) : ((if t.Kind = 3 then (some (decide (t.Text = ([45] : Str)))) else (some false) : Option Bool)) = some (decide (t.Kind = 3 ∧ t.Text = [45])) := by
  by_cases h1 : t.Kind = 3 <;> simp [h1]
theorem numk (t : api_Tok) : ((if t.Kind = 2 then (some (decide ((t.Text.length : Int) > 4))) else (some true) : Option Bool)) = some (decide (¬ (t.Kind = 2 ∧ t.Text.length ≤ 4))) := by
  by_cases h1 : t.Kind = 2
  · by_cases h2 : t.Text.length ≤ 4
    · rw [if_pos h1, decide_eq_false (show ¬ (t.Text.length : Int) > 4 by omega), decide_eq_false (by simp [h1, h2])]
    · rw [if_pos h1, decide_eq_true (show (t.Text.length : Int) > 4 by omega), decide_eq_true (by simp [h2])]
  · rw [if_neg h1, decide_eq_true (by simp [h1])]
section
variable {T : List api_Tok} (hT : Tk T) {l : api_Lattice}
include hT
/-- The number behind a sign, or without one. -/
theorem num_neg {i : Nat} (hi : i < T.length) (hm : T[i].Kind = 3 ∧ T[i].Text = [45]) (hi2 : i + 1 < T.length) :
    code_reader_number.f ⟨l, T, (i : Int), 0⟩ = (if T[i + 1].Kind = 2 ∧ T[i + 1].Text.length ≤ 4 then (code_reader_number.l0 ((⟨l, T, ((i + 1 : Nat) : Int), 0⟩ : code_reader), T[i + 1]) 0 0 >>= fun x => some ((⟨l, T, ((i + 1 + 1 : Nat) : Int), 0⟩ : code_reader), IntKind.i64.wrap ((-1) * x))) else some ((⟨l, T, ((i + 1 : Nat) : Int), 4⟩ : code_reader), 0)) := by
  have hl := hT.len
  unfold code_reader_number.f
  rw [tok_p hT hi, bsome]
  show (((if T[i].Kind = 3 then (some (decide (T[i].Text = ([45] : Str)))) else (some false) : Option Bool)) >>= _) = _
  rw [dash, bsome, decide_eq_true hm, if_pos tt, wS (by omega)]
  show (code_reader_tok.f ⟨l, T, ((i + 1 : Nat) : Int), 0⟩ >>= _) = _
  rw [tok_p hT hi2, bsome]
  show (((if T[i + 1].Kind = 2 then (some (decide ((T[i + 1].Text.length : Int) > 4))) else (some true) : Option Bool)) >>= _) = _
  rw [numk, bsome]
  by_cases hn : T[i + 1].Kind = 2 ∧ T[i + 1].Text.length ≤ 4
  · rw [decide_eq_false (by simp [hn.1, hn.2]), if_neg ff, if_pos hn, wS (by omega)]
  · rw [decide_eq_true hn, if_pos tt, if_neg hn]
    show (code_reader_fail.f ⟨l, T, ((i + 1 : Nat) : Int), 0⟩ 4 >>= _) = _
    rw [fail_p hT, bsome]
theorem num_pos {i : Nat} (hi : i < T.length) (hm : ¬ (T[i].Kind = 3 ∧ T[i].Text = [45])) :
    code_reader_number.f ⟨l, T, (i : Int), 0⟩ = (if T[i].Kind = 2 ∧ T[i].Text.length ≤ 4 then (code_reader_number.l1 ((⟨l, T, (i : Int), 0⟩ : code_reader), T[i]) 0 0 >>= fun x => some ((⟨l, T, ((i + 1 : Nat) : Int), 0⟩ : code_reader), IntKind.i64.wrap (1 * x))) else some ((⟨l, T, (i : Int), 4⟩ : code_reader), 0)) := by
  have hl := hT.len
  unfold code_reader_number.f
  rw [tok_p hT hi, bsome]
  show (((if T[i].Kind = 3 then (some (decide (T[i].Text = ([45] : Str)))) else (some false) : Option Bool)) >>= _) = _
  rw [dash, bsome, decide_eq_false hm, if_neg ff]
  show (code_reader_tok.f ⟨l, T, (i : Int), 0⟩ >>= _) = _
  rw [tok_p hT hi, bsome]
  show (((if T[i].Kind = 2 then (some (decide ((T[i].Text.length : Int) > 4))) else (some true) : Option Bool)) >>= _) = _
  rw [numk, bsome]
  by_cases hn : T[i].Kind = 2 ∧ T[i].Text.length ≤ 4
  · rw [decide_eq_false (by simp [hn.1, hn.2]), if_neg ff, if_pos hn, wS (by omega)]
  · rw [decide_eq_true hn, if_pos tt, if_neg hn]
    show (code_reader_fail.f ⟨l, T, (i : Int), 0⟩ 4 >>= _) = _
    rw [fail_p hT, bsome]
theorem num_any {i : Nat} (hi : i < T.length) : ∃ (j : Nat) (e v : Int), code_reader_number.f ⟨l, T, (i : Int), 0⟩ = some (⟨l, T, (j : Int), e⟩, v) ∧ j < T.length := by
  by_cases hm : T[i].Kind = 3 ∧ T[i].Text = [45]
  · have hi2 := hT.next i hi (by omega)
    rw [num_neg hT hi hm hi2]
    by_cases hn : T[i + 1].Kind = 2 ∧ T[i + 1].Text.length ≤ 4
    · obtain ⟨⟨v, h⟩, _⟩ := digits_p (y := ((⟨l, T, ((i + 1 : Nat) : Int), 0⟩ : code_reader), T[i + 1])) hn.2 _ 0 0 (by simp; rfl)
      rw [show ((0 : Nat) : Int) = 0 from rfl] at h
      rw [if_pos hn, h, bsome]
      exact ⟨_, _, _, rfl, hT.next _ hi2 (by omega)⟩
    · rw [if_neg hn]; exact ⟨_, _, _, rfl, hi2⟩
  · rw [num_pos hT hi hm]
    by_cases hn : T[i].Kind = 2 ∧ T[i].Text.length ≤ 4
    · obtain ⟨_, ⟨v, h⟩⟩ := digits_p (y := ((⟨l, T, (i : Int), 0⟩ : code_reader), T[i])) hn.2 _ 0 0 (by simp; rfl)
      rw [show ((0 : Nat) : Int) = 0 from rfl] at h
      rw [if_pos hn, h, bsome]
      exact ⟨_, _, _, rfl, hT.next _ hi (by omega)⟩
    · rw [if_neg hn]; exact ⟨_, _, _, rfl, hi⟩
variable (hN : l.Names.length ≤ 1000) (hC : lattice_Check.f l = some 0)
include hN hC
theorem find_o (t : Str) : order_Find.f l t = some (if plc l.Names t < 0 then (0, 9) else (plc l.Names t, 0)) := by
  unfold order_Find.f
  rw [hC, bsome, if_pos rfl, find_p hN, bsome]
  split <;> rfl
theorem lab_at {i : Nat} (hi : i < T.length) {j : Nat} {e : Int} (hm : mkS T [64] i 0 = (j, e)) (hj : j < T.length) :
    code_reader_label.f ⟨l, T, (i : Int), 0⟩ = (if e = 0 then (if T[j].Kind = 1 then (if plc l.Names T[j].Text < 0 then some (⟨l, T, (j : Int), 6⟩, 0) else some (⟨l, T, ((j + 1 : Nat) : Int), 0⟩, plc l.Names T[j].Text)) else some (⟨l, T, (j : Int), 4⟩, 0)) else some (⟨l, T, (j : Int), e⟩, 0)) := by
  have hl := hT.len
  unfold code_reader_label.f
  rw [mark_p hT hi, bsome, hm]
  show (code_reader_tok.f ⟨l, T, (j : Int), e⟩ >>= _) = _
  rw [tok_p hT hj, bsome]
  show (if e = 0 then _ else _) = _
  by_cases he : e = 0
  · subst he
    rw [if_pos rfl, if_pos rfl]
    show (if T[j].Kind = 1 then _ else _) = _
    by_cases hk : T[j].Kind = 1
    · rw [if_pos hk, if_pos hk]
      show (order_Find.f l T[j].Text >>= _) = _
      rw [find_o hT hN hC, bsome]
      by_cases hp : plc l.Names T[j].Text < 0
      · rw [if_pos hp, if_pos hp]; rfl
      · rw [if_neg hp, if_neg hp]
        show some ((⟨l, T, IntKind.i64.wrap ((j : Int) + 1), 0⟩ : code_reader), plc l.Names T[j].Text) = _
        rw [wS (by omega)]
    · rw [if_neg hk, if_neg hk]; rfl
  · rw [if_neg he, if_neg he]
theorem lab_any {i : Nat} (hi : i < T.length) : ∃ (j : Nat) (e v : Int), code_reader_label.f ⟨l, T, (i : Int), 0⟩ = some (⟨l, T, (j : Int), e⟩, v) ∧ j < T.length := by
  have hj := mkS_lt hT (e := 0) (s := [64]) hi
  rw [lab_at hT hN hC hi (j := (mkS T [64] i 0).1) (e := (mkS T [64] i 0).2) rfl hj]
  split
  · split
    · split
      · exact ⟨_, _, _, rfl, hj⟩
      · rename_i hk _
        exact ⟨_, _, _, rfl, hT.next _ hj (by omega)⟩
    · exact ⟨_, _, _, rfl, hj⟩
  · exact ⟨_, _, _, rfl, hj⟩
omit hN hC in
theorem fin_p {i j : Nat} {e : Int} {x : api_Instr} :
    ((if e = 0 then (code_right.f (l.Up.length : Int) x >>= fun y14 => some (!y14)) else (some false) : Option Bool) >>= fun x12 => if x12 = true then (code_reader_fail.f (⟨l, T, (i : Int), e⟩ : code_reader) 1 >>= fun y16 => some (y16, x)) else (some ((⟨l, T, (j : Int), e⟩ : code_reader), x))) = (if e = 0 ∧ insB (l.Up.length : Int) x = false then some (⟨l, T, (i : Int), 1⟩, x) else some (⟨l, T, (j : Int), e⟩, x)) := by
  by_cases he : e = 0
  · subst he
    rw [if_pos rfl, right_p, bsome, bsome]
    cases insB (l.Up.length : Int) x with
    | true => rfl
    | false => rfl
  · rw [if_neg he, bsome, if_neg ff, if_neg (fun q => he q.1)]
omit hN hC in
theorem fin_any {i j : Nat} (hi : i < T.length) (hj : j < T.length) {e : Int} {x : api_Instr} : ∃ (j' : Nat) (e' : Int), (if e = 0 ∧ insB (l.Up.length : Int) x = false then some ((⟨l, T, (i : Int), 1⟩ : code_reader), x) else some (⟨l, T, (j : Int), e⟩, x)) = some (⟨l, T, (j' : Int), e'⟩, x) ∧ j' < T.length ∧ (e' = 0 → insB (l.Up.length : Int) x = true) := by
  split
  · exact ⟨i, 1, rfl, hi, fun h => by cases h⟩
  · rename_i q
    refine ⟨j, e, rfl, hj, fun h => ?_⟩
    cases hx : insB (l.Up.length : Int) x with
    | true => rfl
    | false => exact absurd ⟨h, hx⟩ q
theorem one_any {i : Nat} (hi : i + 1 < T.length) {op : Int} : ∃ (j : Nat) (e : Int) (x : api_Instr), code_reader_one.f ⟨l, T, (i : Int), 0⟩ op = some (⟨l, T, (j : Int), e⟩, x) ∧ j < T.length ∧ (e = 0 → insB (l.Up.length : Int) x = true) := by
  have hl := hT.len
  have hi0 : i < T.length := by omega
  unfold code_reader_one.f
  rw [number_p, bsome]
  by_cases hn : numB op = true
  · rw [if_pos hn]
    show ∃ (j : Nat) (e : Int) (x : api_Instr), (code_reader_number.f ⟨l, T, IntKind.i64.wrap ((i : Int) + 1), 0⟩ >>= _) = _ ∧ _
    rw [wS (by omega)]
    obtain ⟨j1, e1, v1, h1, hj1⟩ := num_any hT (l := l) hi
    rw [h1, bsome]
    have mk2 : ∀ (j2 : Nat) (e2 : Int) (x : api_Instr), j2 < T.length → ∃ (j : Nat) (e : Int) (x' : api_Instr), ((code_reader_mark.f ⟨l, T, (j2 : Int), e2⟩ ([59] : Str) >>= fun y9 => ((if y9.bad_ = 0 then (code_right.f (y9.l_.Up.length : Int) x >>= fun y14 => some (!y14)) else (some false) : Option Bool) >>= fun x12 => if x12 = true then (code_reader_fail.f (⟨y9.l_, y9.toks_, (i : Int), y9.bad_⟩ : code_reader) 1 >>= fun y16 => some (y16, x)) else (some (y9, x)))) : Option (code_reader × api_Instr)) = some (⟨l, T, (j : Int), e⟩, x') ∧ j < T.length ∧ (e = 0 → insB (l.Up.length : Int) x' = true) := by
      intro j2 e2 x hj2
      rw [mark_p hT hj2, bsome]
      obtain ⟨j', e', q1, q2, q3⟩ := fin_any hT (l := l) hi0 (mkS_lt hT (e := e2) (s := [59]) hj2) (e := (mkS T [59] j2 e2).2) (x := x)
      exact ⟨j', e', x, (fin_p hT (i := i) (j := (mkS T [59] j2 e2).1) (e := (mkS T [59] j2 e2).2)).trans q1, q2, q3⟩
    by_cases ho : op = 1
    · rw [if_pos ho]
      by_cases he : e1 = 0
      · subst he
        rw [show (decide (((⟨l, T, (j1 : Int), 0⟩ : code_reader), v1).1.bad_ = 0)) = true from rfl, bsome, if_pos tt]
        obtain ⟨j2, e2, v2, h3, hj2⟩ := lab_any hT hN hC hj1
        show ∃ (j : Nat) (e : Int) (x : api_Instr), (code_reader_label.f ⟨l, T, (j1 : Int), 0⟩ >>= _) = _ ∧ _
        rw [h3, bsome]
        exact mk2 j2 e2 _ hj2
      · rw [show (decide (((⟨l, T, (j1 : Int), e1⟩ : code_reader), v1).1.bad_ = 0)) = false from decide_eq_false he, bsome, if_neg ff]
        exact mk2 j1 e1 _ hj1
    · rw [if_neg ho, bsome, if_neg ff]
      exact mk2 j1 e1 _ hj1
  · have ho : ¬ op = 1 := fun h => hn (by subst h; rfl)
    rw [if_neg hn, if_neg ho, bsome, if_neg ff, wS (by omega)]
    show ∃ (j : Nat) (e : Int) (x : api_Instr), (code_reader_mark.f ⟨l, T, ((i + 1 : Nat) : Int), 0⟩ ([59] : Str) >>= _) = _ ∧ _
    rw [mark_p hT hi, bsome]
    obtain ⟨j', e', q1, q2, q3⟩ := fin_any hT (l := l) hi0 (mkS_lt hT (e := 0) (s := [59]) hi) (e := (mkS T [59] (i + 1) 0).2) (x := ⟨op, 0, 0⟩)
    exact ⟨j', e', _, (fin_p hT (i := i) (j := (mkS T [59] (i + 1) 0).1) (e := (mkS T [59] (i + 1) 0).2)).trans q1, q2, q3⟩
theorem from_any : ∀ (d : Nat) (acc : List api_Instr) (i : Nat), acc.length + d = 12 → i < T.length → acc.all (insB (l.Up.length : Int)) = true →
    ∃ (out : List api_Instr) (j : Nat) (e : Int), (code_From.l0 l.Names l.Up T (i : Int) 0 acc >>= tailF) = some (out, (j : Int), e) ∧ j < T.length ∧ (e ≠ 0 → out = []) ∧ (e = 0 → out.length ≤ 12 ∧ out.all (insB (l.Up.length : Int)) = true) := by
  intro d
  induction d with
  | zero =>
    intro acc i hd hi ha
    rw [code_From.l0, if_pos rfl, tok_p hT hi, bsome, op_p, bsome]
    by_cases h2 : (if T[i].Kind = 1 then opT T[i].Text else -1) < 0
    · rw [if_pos h2]; exact ⟨acc, i, 0, rfl, hi, fun h => absurd rfl h, fun _ => ⟨by omega, ha⟩⟩
    · rw [if_neg h2, if_pos (by omega)]; exact ⟨[], i, 8, rfl, hi, fun _ => rfl, fun h => by cases h⟩
  | succ d ih =>
    intro acc i hd hi ha
    have hB : 1000000 ≤ big := by decide
    rw [code_From.l0, if_pos rfl, tok_p hT hi, bsome, op_p, bsome]
    by_cases h2 : (if T[i].Kind = 1 then opT T[i].Text else -1) < 0
    · rw [if_pos h2]; exact ⟨acc, i, 0, rfl, hi, fun h => absurd rfl h, fun _ => ⟨by omega, ha⟩⟩
    · have hk : T[i].Kind = 1 := by
        by_cases q : T[i].Kind = 1
        · exact q
        · rw [if_neg q] at h2; exact absurd (by decide) h2
      rw [if_neg h2, if_neg (by omega)]
      obtain ⟨j, e, x, q1, q2, q3⟩ := one_any hT hN hC (hT.next i hi (by omega)) (op := (if T[i].Kind = 1 then opT T[i].Text else -1))
      have q1' : code_reader_one.f (((⟨⟨l.Names, l.Up⟩, T, (i : Int), 0⟩ : code_reader), T[i]) : code_reader × api_Tok).1 (if (((⟨⟨l.Names, l.Up⟩, T, (i : Int), 0⟩ : code_reader), T[i]) : code_reader × api_Tok).2.Kind = 1 then opT (((⟨⟨l.Names, l.Up⟩, T, (i : Int), 0⟩ : code_reader), T[i]) : code_reader × api_Tok).2.Text else -1) = some (⟨l, T, (j : Int), e⟩, x) := q1
      rw [q1', bsome, if_pos (by simp; omega)]
      by_cases he : e = 0
      · subst he
        exact ih (acc ++ [x]) j (by simp; omega) q2 (by rw [List.all_append, ha]; simp [q3 rfl])
      · show ∃ (out : List api_Instr) (j' : Nat) (e' : Int), (code_From.l0 l.Names l.Up T (j : Int) e (acc ++ [x]) >>= tailF) = _ ∧ _
        rw [code_From.l0, if_neg he]
        exact ⟨[], j, e, rfl, q2, fun _ => rfl, fun h => absurd h he⟩
end
end Go.Proofs.YtkmobcaobmchpaaDoor.Ck
