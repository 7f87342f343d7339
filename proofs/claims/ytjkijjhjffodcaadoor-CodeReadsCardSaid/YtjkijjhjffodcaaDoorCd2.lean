/- Programs read of tokens and of texts: the law. -/
import Derived.Test.YtjkijjhjffodcaaDoorCd1
set_option linter.unusedVariables false
set_option linter.unusedSimpArgs false
set_option linter.unusedSectionVars false
namespace Go.Proofs.YtjkijjhjffodcaaDoor.Cr
open Go Go.Proofs.YtjkijjhjffodcaaDoor.Ab Go.Proofs.YtjkijjhjffodcaaDoor.CR
section
variable {T : List api_Tok} (hT : Tk T) {l : api_Lattice}
include hT
theorem fin_both {i j : Nat} (hi : i < T.length) (hj : j < T.length) {e m : Int} {x : api_Instr} : ∃ (j' : Nat) (e' m' : Int) (y : api_Instr),
    ((if e = 0 then (code_right.f (l.Up.length : Int) x >>= fun y14 => some (!y14)) else (some false) : Option Bool) >>= fun x12 => if x12 = true then (code_reader_fail.f (⟨l, T, (i : Int), e⟩ : code_reader) 1 >>= fun y16 => some (y16, x)) else (some ((⟨l, T, (j : Int), e⟩ : code_reader), x))) = some (⟨l, T, (j' : Int), e'⟩, x) ∧
    ((if e = 0 then (reticentref08_Instr.f (l.Up.length : Int) x >>= fun y11 => some (!y11)) else (some false) : Option Bool) >>= fun x9 => if x9 = true then (some (⟨(i : Int), 0, ⟨0, 0, 0⟩, 1⟩ : reticentref08_P)) else (some (⟨(j : Int), m, x, e⟩ : reticentref08_P))) = some ⟨(j' : Int), m', y, e'⟩ ∧ j' < T.length ∧ (e' = 0 → y = x) := by
  by_cases he : e = 0
  · subst he
    rw [if_pos rfl, if_pos rfl, right_p, right_r, bsome, bsome, bsome]
    cases insB (l.Up.length : Int) x with
    | true => exact ⟨j, 0, m, x, rfl, rfl, hj, fun _ => rfl⟩
    | false => exact ⟨i, 1, 0, _, rfl, rfl, hi, fun h => by cases h⟩
  · rw [if_neg he, if_neg he, bsome, bsome]
    exact ⟨j, e, m, x, rfl, rfl, hj, fun h => absurd h he⟩
variable (hN : l.Names.length ≤ 1000) (hC : lattice_Check.f l = some 0)
include hN hC
theorem one_both {i : Nat} (hi : i + 1 < T.length) {op : Int} : ∃ (j : Nat) (e m : Int) (x y : api_Instr), code_reader_one.f ⟨l, T, (i : Int), 0⟩ op = some (⟨l, T, (j : Int), e⟩, x) ∧ reticentref08_one.f l T (i : Int) op = some ⟨(j : Int), m, y, e⟩ ∧ j < T.length ∧ (e = 0 → y = x) := by
  have hl := hT.len
  have hi0 : i < T.length := by omega
  unfold code_reader_one.f reticentref08_one.f
  rw [number_p, number_r, bsome, bsome]
  by_cases hn : numB op = true
  · rw [if_pos hn, if_pos hn]
    show ∃ (j : Nat) (e m : Int) (x y : api_Instr), (code_reader_number.f ⟨l, T, IntKind.i64.wrap ((i : Int) + 1), 0⟩ >>= _) = _ ∧ _
    rw [wS (by omega)]
    obtain ⟨j1, e1, v1, m1, h1, h2, hj1, hm1⟩ := num_both hT (l := l) hi (n := 0) (x := ⟨op, 0, 0⟩)
    rw [h1, h2, bsome, bsome]
    by_cases ho : op = 1
    · rw [if_pos ho, if_pos ho]
      by_cases he : e1 = 0
      · obtain rfl := hm1 he
        subst he
        rw [show (decide (((⟨l, T, (j1 : Int), 0⟩ : code_reader), m1).1.bad_ = 0)) = true from rfl, bsome, if_pos tt]
        obtain ⟨j2, e2, v2, m2, h3, h4, hj2, hm2⟩ := lab_both hT hN hC hj1 (n := m1) (x := ⟨op, m1, 0⟩)
        show ∃ (j : Nat) (e m : Int) (x y : api_Instr), (code_reader_label.f ⟨l, T, (j1 : Int), 0⟩ >>= _) = _ ∧ (reticentref08_Label.f l T ⟨(j1 : Int), m1, ⟨op, m1, 0⟩, 0⟩ >>= _) = _ ∧ _
        rw [h3, h4, bsome, bsome]
        show ∃ (j : Nat) (e m : Int) (x y : api_Instr), (code_reader_mark.f ⟨l, T, (j2 : Int), e2⟩ ([59] : Str) >>= _) = _ ∧ (reticentref08_Mark.f T ⟨(j2 : Int), m2, ⟨op, m1, m2⟩, e2⟩ ([59] : Str) >>= _) = _ ∧ _
        rw [mark_p hT hj2, mark_r hT hj2, bsome, bsome]
        have hj3 := mkS_lt hT (e := e2) (s := [59]) hj2
        by_cases he2 : e2 = 0
        · obtain rfl := hm2 he2
          obtain ⟨j', e', m', y, q1, q2, q3, q4⟩ := fin_both hT (l := l) hi0 hj3 (e := (mkS T [59] j2 e2).2) (m := m2) (x := ⟨op, m1, m2⟩)
          exact ⟨j', e', m', _, y, q1, q2, q3, q4⟩
        · rw [mkS_bad he2]
          show ∃ (j : Nat) (e m : Int) (x y : api_Instr), ((if e2 = 0 then _ else _) >>= _) = _ ∧ ((if e2 = 0 then _ else _) >>= _) = _ ∧ _
          rw [if_neg he2, if_neg he2, bsome, bsome]
          exact ⟨j2, e2, _, _, _, rfl, rfl, hj2, fun h => absurd h he2⟩
      · rw [show (decide (((⟨l, T, (j1 : Int), e1⟩ : code_reader), v1).1.bad_ = 0)) = false from decide_eq_false he, bsome, if_neg ff]
        show ∃ (j : Nat) (e m : Int) (x y : api_Instr), (code_reader_mark.f ⟨l, T, (j1 : Int), e1⟩ ([59] : Str) >>= _) = _ ∧ (reticentref08_Label.f l T ⟨(j1 : Int), m1, ⟨op, m1, 0⟩, e1⟩ >>= _) = _ ∧ _
        have hlab : reticentref08_Label.f l T ⟨(j1 : Int), m1, ⟨op, m1, 0⟩, e1⟩ = some ⟨(j1 : Int), m1, ⟨op, m1, 0⟩, e1⟩ := by
          unfold reticentref08_Label.f
          rw [mark_r hT hj1, bsome, mkS_bad he]
          show (if e1 = 0 then _ else _) = _
          rw [if_neg he]
        rw [mark_p hT hj1, mkS_bad he, hlab, bsome, bsome]
        show ∃ (j : Nat) (e m : Int) (x y : api_Instr), _ = _ ∧ (reticentref08_Mark.f T ⟨(j1 : Int), m1, ⟨op, m1, m1⟩, e1⟩ ([59] : Str) >>= _) = _ ∧ _
        rw [mark_r hT hj1, mkS_bad he, bsome]
        show ∃ (j : Nat) (e m : Int) (x y : api_Instr), ((if e1 = 0 then _ else _) >>= _) = _ ∧ ((if e1 = 0 then _ else _) >>= _) = _ ∧ _
        rw [if_neg he, if_neg he, bsome, bsome]
        exact ⟨j1, e1, _, _, _, rfl, rfl, hj1, fun h => absurd h he⟩
    · rw [if_neg ho, if_neg ho, bsome, if_neg ff]
      show ∃ (j : Nat) (e m : Int) (x y : api_Instr), (code_reader_mark.f ⟨l, T, (j1 : Int), e1⟩ ([59] : Str) >>= _) = _ ∧ (reticentref08_Mark.f T ⟨(j1 : Int), m1, ⟨op, m1, 0⟩, e1⟩ ([59] : Str) >>= _) = _ ∧ _
      rw [mark_p hT hj1, mark_r hT hj1, bsome, bsome]
      have hj3 := mkS_lt hT (e := e1) (s := [59]) hj1
      by_cases he : e1 = 0
      · obtain rfl := hm1 he
        obtain ⟨j', e', m', y, q1, q2, q3, q4⟩ := fin_both hT (l := l) hi0 hj3 (e := (mkS T [59] j1 e1).2) (m := m1) (x := ⟨op, m1, 0⟩)
        exact ⟨j', e', m', _, y, q1, q2, q3, q4⟩
      · rw [mkS_bad he]
        show ∃ (j : Nat) (e m : Int) (x y : api_Instr), ((if e1 = 0 then _ else _) >>= _) = _ ∧ ((if e1 = 0 then _ else _) >>= _) = _ ∧ _
        rw [if_neg he, if_neg he, bsome, bsome]
        exact ⟨j1, e1, _, _, _, rfl, rfl, hj1, fun h => absurd h he⟩
  · have ho : ¬ op = 1 := fun h => hn (by subst h; rfl)
    rw [if_neg hn, if_neg hn, if_neg ho, if_neg ho, bsome, if_neg ff, wS (by omega)]
    show ∃ (j : Nat) (e m : Int) (x y : api_Instr), (code_reader_mark.f ⟨l, T, ((i + 1 : Nat) : Int), 0⟩ ([59] : Str) >>= _) = _ ∧ _
    rw [mark_p hT hi, mark_r hT hi, bsome, bsome]
    have hj3 := mkS_lt hT (e := 0) (s := [59]) hi
    obtain ⟨j', e', m', y, q1, q2, q3, q4⟩ := fin_both hT (l := l) hi0 hj3 (e := (mkS T [59] (i + 1) 0).2) (m := 0) (x := ⟨op, 0, 0⟩)
    exact ⟨j', e', m', _, y, q1, q2, q3, q4⟩
end
/-! Words. -/
def wdN (k : Nat) : Str := gl0.getD k []
theorem word_pr {k : Nat} (hk : k < 13) : table_Name.f (k : Int) = some (wdN k, 0) ∧ reticentref06_Word.f (k : Int) = some (wdN k) := by
  match k, hk with
  | 0, _ => exact ⟨rfl, rfl⟩
  | 1, _ => exact ⟨rfl, rfl⟩
  | 2, _ => exact ⟨rfl, rfl⟩
  | 3, _ => exact ⟨rfl, rfl⟩
  | 4, _ => exact ⟨rfl, rfl⟩
  | 5, _ => exact ⟨rfl, rfl⟩
  | 6, _ => exact ⟨rfl, rfl⟩
  | 7, _ => exact ⟨rfl, rfl⟩
  | 8, _ => exact ⟨rfl, rfl⟩
  | 9, _ => exact ⟨rfl, rfl⟩
  | 10, _ => exact ⟨rfl, rfl⟩
  | 11, _ => exact ⟨rfl, rfl⟩
  | 12, _ => exact ⟨rfl, rfl⟩
  | n + 13, h => omega
def opT (t : Str) : Int := match fstOf 13 (fun k => if wdN k = t then some (k : Int) else none) with | some k => k | none => -1
theorem op_r (t : Str) : reticentref06_Op.f t = some (opT t) := by
  unfold reticentref06_Op.f
  have := search (fun k => reticentref06_Op.l0 t k) 13 (fun k => if wdN k = t then some (k : Int) else none) (by show reticentref06_Op.l0 t _ = _; rw [reticentref06_Op.l0, if_neg (by decide)]) (fun k hk => by
    show reticentref06_Op.l0 t _ = _
    rw [reticentref06_Op.l0, if_pos (by omega), (word_pr hk).2, bsome, wS (by omega)]
    by_cases q : wdN k = t
    · rw [if_pos q, if_pos q]
    · rw [if_neg q, if_neg q])
  rw [show reticentref06_Op.l0 t 0 = _ from this, bsome]
  unfold opT
  cases fstOf 13 (fun k => if wdN k = t then some (k : Int) else none) <;> rfl
theorem op_p (t : api_Tok) : code_instruction.f t = some (if t.Kind = 1 then opT t.Text else -1) := by
  unfold code_instruction.f
  by_cases h1 : t.Kind = 1
  · have := search (fun k => code_instruction.l0 t k) 13 (fun k => if wdN k = t.Text then some (k : Int) else none) (by show code_instruction.l0 t _ = _; rw [code_instruction.l0, if_neg (by decide)]) (fun k hk => by
      show code_instruction.l0 t _ = _
      rw [code_instruction.l0, if_pos (by omega), (word_pr hk).1, bsome, if_pos h1, bsome, wS (by omega)]
      by_cases q : wdN k = t.Text
      · rw [if_pos q, decide_eq_true q, if_pos tt]
      · rw [if_neg q, decide_eq_false q, if_neg ff])
    rw [show code_instruction.l0 t 0 = _ from this, bsome, if_pos h1]
    unfold opT
    cases fstOf 13 (fun k => if wdN k = t.Text then some (k : Int) else none) <;> rfl
  · have : code_instruction.l0 t 0 = _ := search (fun k => code_instruction.l0 t k) 13 (fun k => none) (by show code_instruction.l0 t _ = _; rw [code_instruction.l0, if_neg (by decide)]) (fun k hk => by
      show code_instruction.l0 t _ = _
      rw [code_instruction.l0, if_pos (by omega), (word_pr hk).1, bsome, if_neg h1, bsome, if_neg ff, wS (by omega)])
    rw [this, bsome, if_neg h1]
    have : (fstOf 13 fun _ => (none : Option Int)) = none := fst_none.2 (fun _ _ => rfl)
    rw [this]; rfl
def tailF (o : ((List api_Instr) × Int × Int) ⊕ ((List Str) × (List Int) × (List api_Tok) × Int × Int × (List api_Instr))) : Option ((List api_Instr) × Int × Int) :=
  match o with | .inl r => some r | .inr (x33, x34, x35, x36, x37, x38) => some (([] : List api_Instr), x36, x37)
section
variable {T : List api_Tok} (hT : Tk T) {l : api_Lattice} (hN : l.Names.length ≤ 1000) (hC : lattice_Check.f l = some 0)
include hT hN hC
theorem from_l0 : ∀ (d : Nat) (acc : List api_Instr) (i : Nat), acc.length + d = 12 → i < T.length →
    (∃ (j : Nat) (e : Int), e ≠ 0 ∧ j < T.length ∧ (code_From.l0 l.Names l.Up T (i : Int) 0 acc >>= tailF) = some ([], (j : Int), e) ∧ reticentref08_From.l0 l T acc (i : Int) = some (.inl ⟨[], (j : Int), e⟩)) ∨
    ∃ (out : List api_Instr) (j : Nat), j < T.length ∧ out.length ≤ 12 ∧ (code_From.l0 l.Names l.Up T (i : Int) 0 acc >>= tailF) = some (out, (j : Int), 0) ∧ reticentref08_From.l0 l T acc (i : Int) = some (.inr (out, (j : Int))) := by
  intro d
  induction d with
  | zero =>
    intro acc i hd hi
    rw [code_From.l0, if_pos rfl, tok_p hT hi, bsome, op_p, bsome, reticentref08_From.l0, lAt_some hi, bsome, bsome, op_r, bsome]
    by_cases h1 : T[i].Kind = 1
    · rw [if_pos h1, if_pos h1, bsome]
      by_cases h2 : opT T[i].Text < 0
      · rw [if_pos h2, decide_eq_false (by omega), if_neg ff]
        exact .inr ⟨acc, i, hi, by omega, rfl, rfl⟩
      · rw [if_neg h2, decide_eq_true (by omega), if_pos tt, if_pos (by omega), if_pos (by omega)]
        exact .inl ⟨i, 8, by decide, hi, rfl, rfl⟩
    · rw [if_neg h1, if_neg h1, if_pos (by decide), bsome, bsome, if_neg ff]
      exact .inr ⟨acc, i, hi, by omega, rfl, rfl⟩
  | succ d ih =>
    intro acc i hd hi
    have hB : 1000000 ≤ big := by decide
    rw [code_From.l0, if_pos rfl, tok_p hT hi, bsome, op_p, bsome, reticentref08_From.l0, lAt_some hi, bsome, bsome, op_r, bsome]
    by_cases h1 : T[i].Kind = 1
    · rw [if_pos h1, if_pos h1, bsome]
      by_cases h2 : opT T[i].Text < 0
      · rw [if_pos h2, decide_eq_false (by omega), if_neg ff]
        exact .inr ⟨acc, i, hi, by omega, rfl, rfl⟩
      · rw [if_neg h2, decide_eq_true (by omega), if_pos tt, if_neg (by omega), if_neg (by omega), bsome, op_r, bsome]
        obtain ⟨j, e, m, x, y, q1, q2, q3, q4⟩ := one_both hT hN hC (hT.next i hi (by omega)) (op := opT T[i].Text)
        have q1' : code_reader_one.f (((⟨⟨l.Names, l.Up⟩, T, (i : Int), 0⟩ : code_reader), T[i]) : code_reader × api_Tok).1 (opT (((⟨⟨l.Names, l.Up⟩, T, (i : Int), 0⟩ : code_reader), T[i]) : code_reader × api_Tok).2.Text) = some (⟨l, T, (j : Int), e⟩, x) := q1
        rw [q1', q2, bsome, bsome, if_pos (by simp; omega)]
        by_cases he : e = 0
        · obtain rfl := q4 he
          subst he
          rw [if_pos rfl, if_pos (by simp; omega)]
          exact ih (acc ++ [y]) j (by simp; omega) q3
        · rw [if_neg he]
          show (∃ (j' : Nat) (e' : Int), e' ≠ 0 ∧ j' < T.length ∧ (code_From.l0 l.Names l.Up T (j : Int) e (acc ++ [x]) >>= tailF) = _ ∧ _) ∨ (∃ (out : List api_Instr) (j' : Nat), j' < T.length ∧ out.length ≤ 12 ∧ (code_From.l0 l.Names l.Up T (j : Int) e (acc ++ [x]) >>= tailF) = _ ∧ _)
          rw [code_From.l0, if_neg he]
          exact .inl ⟨j, e, he, q3, rfl, rfl⟩
    · rw [if_neg h1, if_neg h1, if_pos (by decide), bsome, bsome, if_neg ff]
      exact .inr ⟨acc, i, hi, by omega, rfl, rfl⟩
theorem from_both (hE : (T[T.length - 1]'(by have := hT.pos; omega)).Kind = 0) {i : Nat} (hi : i < T.length) : ∃ (out : List api_Instr) (j : Nat) (e : Int), j < T.length ∧ out.length ≤ 12 ∧ (e ≠ 0 → out = []) ∧ code_From.f l T (i : Int) = some (out, (j : Int), e) ∧ reticentref08_From.f l T (i : Int) = some ⟨out, (j : Int), e⟩ := by
  have hl := hT.len
  have hp := hT.pos
  unfold code_From.f reticentref08_From.f
  rw [hC, bsome, if_pos rfl, if_neg (by omega), if_neg (by omega)]
  have hw : IntKind.i64.wrap ((T.length : Int) - 1) = ((T.length - 1 : Nat) : Int) := by rw [wrapZ (by omega) (by omega)]; omega
  rw [hw, lAt_some (by omega), bsome, hE, bsome, if_neg (by decide)]
  rcases from_l0 hT hN hC 12 [] i rfl hi with ⟨j, e, he, hj, q1, q2⟩ | ⟨out, j, hj, ho, q1, q2⟩
  · exact ⟨[], j, e, hj, by simp, fun _ => rfl, q1, by rw [q2]; rfl⟩
  · exact ⟨out, j, 0, hj, ho, fun h => absurd rfl h, q1, by rw [q2]; rfl⟩
end
theorem same_self {x : List api_Instr} (hx : x.length ≤ 1000) : reticentref08_Same.f x x = some true := by
  unfold reticentref08_Same.f
  have : ∀ (d k : Nat), x.length = k + d → reticentref08_Same.l0 x x (k : Int) = some (.inr ()) := by
    intro d
    induction d with
    | zero => intro k h; rw [reticentref08_Same.l0, if_neg (by omega)]
    | succ d ih => intro k h; rw [reticentref08_Same.l0, if_pos (by omega), lAt_some (by omega), bsome, bsome, if_pos rfl, wS (by omega)]; exact ih (k + 1) (by omega)
  rw [if_pos rfl, show reticentref08_Same.l0 x x 0 = _ from this x.length 0 (by omega)]; rfl
theorem tk_of {L : List api_Tok} {a : Int} (h : (L ++ [(⟨0, [], a⟩ : api_Tok)]).length ≤ 1000) : Tk (L ++ [⟨0, [], a⟩]) := by
  refine ⟨h, by simp, fun i hi hk => ?_⟩
  rcases Nat.lt_or_ge i L.length with q | q
  · simp; omega
  · exfalso
    simp at hi
    obtain rfl : i = L.length := by omega
    simp at hk
theorem parse_both {l : api_Lattice} {U : List Nat} (h : Nm l U) (s : Str) : ∃ (out : List api_Instr) (a e : Int), out.length ≤ 12 ∧ code_Parse.f l s = some (out, a, e) ∧ reticentref08_Parse.f l s = some ⟨out, a, e⟩ := by
  unfold code_Parse.f reticentref08_Parse.f
  rw [check_eq h, refCheck_eq h, bsome, bsome]
  by_cases hc : chk l U = 0
  · rw [if_pos hc, if_pos hc]
    obtain ⟨r, a, e, h1, h2, h3⟩ := lex_both (s := s)
    rw [h1, h2, bsome, bsome]
    by_cases he : e = 0
    · obtain ⟨L, rfl, hL⟩ := h3 he
      rw [if_pos he, if_pos he]
      have hT := tk_of (L := L) (a := (s.length : Int)) (by omega)
      obtain ⟨out, j, e2, hj, ho, hx, q1, q2⟩ := from_both hT (l := l) (by have := h.nl; omega) (by rw [check_eq h, hc]) (by simp) (i := 0) hT.pos
      rw [show ((0 : Nat) : Int) = 0 from rfl] at q1 q2
      rw [q1, q2, bsome, bsome, lAt_some hj]
      by_cases he2 : e2 = 0
      · rw [if_pos he2, bsome, bsome, bsome, if_pos he2, bsome]
        by_cases hk : (L ++ [(⟨0, [], (s.length : Int)⟩ : api_Tok)])[j].Kind = 0
        · rw [if_pos hk, if_pos hk]; exact ⟨_, _, _, ho, rfl, rfl⟩
        · rw [if_neg hk, if_neg hk]; exact ⟨_, _, _, by simp, rfl, rfl⟩
      · rw [if_neg he2, bsome, bsome, if_neg he2]; exact ⟨_, _, _, by simp, rfl, rfl⟩
    · rw [if_neg he, if_neg he]; exact ⟨_, _, _, by simp, rfl, rfl⟩
  · rw [if_neg hc, if_neg hc]; exact ⟨_, _, _, by simp, rfl, rfl⟩
theorem alive08 : reticentlaw08_alive.f = some true := reticentlaw08_alive.f_le 60 _ (by kernel_rfl)
theorem cutok {n m : Nat} : (0 : Int) ≤ (if (n : Int) < (m : Int) then (n : Int) else (m : Int)) ∧ (if (n : Int) < (m : Int) then (n : Int) else (m : Int)) ≤ (m : Int) := by split <;> omega
theorem reads {l : api_Lattice} {s : Str} (hl : ∃ H cs, (kR f_api_Lattice).reps H cs l) : reticentlaw08_CodeReads.f l s = some true := by
  obtain ⟨l', U, e, h⟩ := few_eq hl
  unfold reticentlaw08_CodeReads.f
  rw [e, bsome, show (2010 : Int) = ((2010 : Nat) : Int) from rfl, if_pos cutok]
  generalize sCut s 0 _ = t
  obtain ⟨out, a, e2, ho, q1, q2⟩ := parse_both h t
  rw [q1, q2, bsome, bsome, alive08, bsome, if_pos rfl, if_pos rfl, if_pos rfl, same_self (show out.length ≤ 1000 by omega)]
  rfl
end Go.Proofs.YtjkijjhjffodcaaDoor.Cr
