/- The parser of rules: what its parts do. -/
import Derived.Test.YtjkijjhjffodcaaPr5
set_option linter.unusedVariables false
set_option linter.unusedSimpArgs false
namespace Go.Proofs.Ytjkijjhjffodcaa.Par
open Go Go.Proofs.Ytjkijjhjffodcaa.Ab Go.Proofs.Ytjkijjhjffodcaa.LF
open Go.Proofs.Ytjkijjhjffodcaa.Lat (lAt_some)
def isT (t : api_Tok) (s : Str) : Bool := (decide (t.Kind = 1) || decide (t.Kind = 3)) && decide (t.Text = s)
/-- A state that may be: its place is a token's, the last token is the end, and it is not too deep. -/
structure Val (s : rule_parser) : Prop where
  len : s.l_.length ≤ 1000
  i0 : 0 ≤ s.i_
  i1 : s.i_ < s.l_.length
  last : ∀ (j : Nat) (h : j < s.l_.length), j + 1 = s.l_.length → s.l_[j].Kind = 0
  d0 : 0 ≤ s.deep_
  d1 : s.deep_ ≤ 12
  out : s.out_.length ≤ 40
def Val.at (s : rule_parser) : Option api_Tok := s.l_[s.i_.toNat]?
theorem contains1 {a t : Str} : slices_Contains_string_string.f [a] t = some (decide (t = a)) := by
  unfold slices_Contains_string_string.f slices_Index_string_string.f
  rw [slices_Index_string_string.l0, if_pos (by simp)]
  rw [show lAt [a] 0 = some a from rfl, bsome]
  by_cases h : t = a
  · rw [if_pos h]; simp [h]
  · rw [if_neg h, slices_Index_string_string.l0, if_neg (by simp only [List.length_singleton]; decide)]; simp [h]
theorem tok_at {s : rule_parser} (v : Val s) : ∃ t, s.l_[s.i_.toNat]? = some t ∧ lAt s.l_ s.i_ = some t := by
  have h : s.i_.toNat < s.l_.length := by have := v.i0; have := v.i1; omega
  refine ⟨s.l_[s.i_.toNat], List.getElem?_eq_getElem h, ?_⟩
  have e := lAt_some h
  rwa [Int.toNat_of_nonneg v.i0] at e
theorem is_eq {s : rule_parser} {t : api_Tok} {a : Str} (ht : lAt s.l_ s.i_ = some t) : rule_parser_is.f s [a] = some (s, decide (s.bad_ = 0) && isT t a) := by
  unfold rule_parser_is.f
  rw [ht, bsome]
  unfold isT
  by_cases hb : s.bad_ = 0
  · rw [if_pos hb, contains1, decide_eq_true hb]
    by_cases h1 : t.Kind = 1
    · rw [if_pos h1, decide_eq_true h1]; rfl
    · rw [if_neg h1, decide_eq_false h1]
      by_cases h3 : t.Kind = 3
      · rw [if_pos h3, decide_eq_true h3]; rfl
      · rw [if_neg h3, decide_eq_false h3]; rfl
  · rw [if_neg hb, decide_eq_false hb]; rfl
theorem next_eq {s : rule_parser} (v : Val s) (h : s.i_ + 1 < s.l_.length) : rule_parser_next.f s = some ⟨s.l_, s.i_ + 1, s.out_, s.deep_, s.bad_⟩ := by
  unfold rule_parser_next.f
  have h1 := v.len
  have h2 := v.i0
  rw [wrapZ (by omega) (by omega), wrapZ (by omega) (by omega)]
  rw [if_neg (by omega)]
/-- A token that is looked for is not the last one. -/
theorem notlast {s : rule_parser} (v : Val s) {t : api_Tok} {a : Str} (ht : s.l_[s.i_.toNat]? = some t) (h : isT t a = true) : s.i_ + 1 < s.l_.length := by
  have hi0 := v.i0
  have hi1 := v.i1
  rcases (by omega : s.i_ + 1 < s.l_.length ∨ s.i_ + 1 ≥ s.l_.length) with q | q
  · exact q
  · have hl := v.last s.i_.toNat (by omega) (by omega)
    have he : s.l_[s.i_.toNat]'(by omega) = t := by
      have := List.getElem?_eq_getElem (l := s.l_) (i := s.i_.toNat) (by omega)
      rw [this] at ht; exact Option.some.inj ht
    rw [he] at hl
    unfold isT at h
    rw [hl] at h
    simp at h
def adv1 (s : rule_parser) : rule_parser := ⟨s.l_, s.i_ + 1, s.out_, s.deep_, s.bad_⟩
theorem take_yes {s : rule_parser} (v : Val s) {t : api_Tok} {a : Str} (ht : s.l_[s.i_.toNat]? = some t) (hb : s.bad_ = 0) (h : isT t a = true) : rule_parser_take.f s a = some (adv1 s, true) := by
  obtain ⟨t', h1, h2⟩ := tok_at v
  rw [ht] at h1; cases h1
  unfold rule_parser_take.f
  show (rule_parser_is.f s [a] >>= _) = _
  rw [is_eq h2, bsome, h, decide_eq_true hb]
  show (if (!true) = true then _ else (rule_parser_next.f s >>= _)) = _
  rw [if_neg (by decide), next_eq v (notlast v ht h)]; rfl
theorem take_no {s : rule_parser} (v : Val s) {t : api_Tok} {a : Str} (ht : s.l_[s.i_.toNat]? = some t) (h : s.bad_ ≠ 0 ∨ isT t a = false) : rule_parser_take.f s a = some (s, false) := by
  obtain ⟨t', h1, h2⟩ := tok_at v
  rw [ht] at h1; cases h1
  unfold rule_parser_take.f
  show (rule_parser_is.f s [a] >>= _) = _
  have e : (decide (s.bad_ = 0) && isT t a) = false := by
    rcases h with h | h
    · rw [decide_eq_false h]; rfl
    · rw [h, Bool.and_false]
  rw [is_eq h2, bsome, e]; rfl
theorem fail_eq {s : rule_parser} {why : Int} (hb : s.bad_ = 0) : rule_parser_fail.f s why = some ⟨s.l_, s.i_, s.out_, s.deep_, why⟩ := by
  unfold rule_parser_fail.f; rw [if_pos hb]
theorem fail_bad {s : rule_parser} {why : Int} (hb : s.bad_ ≠ 0) : rule_parser_fail.f s why = some s := by
  unfold rule_parser_fail.f; rw [if_neg hb]
theorem put_bad {s : rule_parser} {op : Int} (hb : s.bad_ ≠ 0) : rule_parser_put.f s op = some s := by
  unfold rule_parser_put.f; rw [if_neg hb]; rfl
theorem put_full {s : rule_parser} {op : Int} (hb : s.bad_ = 0) (h : s.out_.length = 40) : rule_parser_put.f s op = some ⟨s.l_, s.i_, s.out_, s.deep_, 8⟩ := by
  unfold rule_parser_put.f; rw [if_pos hb, if_pos (by omega)]
  show ((rule_parser_fail.f s 8 >>= _) >>= _) = _
  rw [fail_eq hb]; rfl
theorem put_eq {s : rule_parser} {op : Int} (hb : s.bad_ = 0) (h : s.out_.length < 40) : rule_parser_put.f s op = some ⟨s.l_, s.i_, s.out_ ++ [op], s.deep_, 0⟩ := by
  unfold rule_parser_put.f
  have hB : 1000 ≤ big := by decide
  rw [if_pos hb, if_neg (by omega), if_pos (by simp; omega), hb]; rfl
/-! Rows of things. -/
structure RowIs (Row one : rule_parser → Option rule_parser) (w : Str) (op : Int) where
  L0 : rule_parser → Option rule_parser
  hL : ∀ s, L0 s = (rule_parser_take.f s w >>= fun y => if y.2 = true then (one y.1 >>= fun s1 => rule_parser_put.f s1 op >>= fun s2 => L0 s2) else some y.1)
  hR : ∀ s, Row s = (one s >>= fun s1 => L0 s1)
theorem bind_assoc' {α β γ : Type} (x : Option α) (f : α → Option β) (g : β → Option γ) : ((x >>= f) >>= g) = (x >>= fun a => f a >>= g) := by cases x <;> rfl
theorem bind_some' {α : Type} (x : Option α) : (x >>= fun a => some a) = x := by cases x <;> rfl
theorem ite_bind {α β : Type} {c : Prop} [Decidable c] (x y : Option α) (f : α → Option β) : ((if c then x else y) >>= f) = if c then x >>= f else y >>= f := by split <;> rfl
def pack (o : List api_Tok × Int × Int × Int × List Int) : Option rule_parser := some ⟨o.1, o.2.1, o.2.2.2.2, o.2.2.1, o.2.2.2.1⟩
def rowTerm (rc : rule_parser → Option rule_parser) : RowIs (rule_parser_term.f rc) (rule_parser_atom.f rc) [109, 101, 101, 116] 13 where
  L0 := fun s => rule_parser_row_atom.l0 [109, 101, 101, 116] 13 rc s.l_ s.i_ s.deep_ s.bad_ s.out_ >>= pack
  hL := fun s => by
    conv => lhs; rw [rule_parser_row_atom.l0]
    show ((rule_parser_take.f s _ >>= _) >>= _) = _
    rw [bind_assoc']
    congr 1; funext y
    rw [ite_bind, bind_assoc']
    congr 1
    show (rule_parser_atom.f rc y.1 >>= _) = _
    congr 1; funext s1
    rw [bind_assoc'] <;> rfl
  hR := fun s => by
    unfold rule_parser_term.f rule_parser_row_atom.f
    show ((rule_parser_atom.f rc s >>= _) >>= _) = _
    rw [bind_assoc']
    congr 1; funext s1
    rw [bind_assoc'] <;> rfl
def rowLabel (rc : rule_parser → Option rule_parser) : RowIs (rule_parser_label.B rc) (rule_parser_term.f rc) [106, 111, 105, 110] 12 where
  L0 := fun s => rule_parser_row_term.l0 [106, 111, 105, 110] 12 rc s.l_ s.i_ s.deep_ s.bad_ s.out_ >>= pack
  hL := fun s => by
    conv => lhs; rw [rule_parser_row_term.l0]
    show ((rule_parser_take.f s _ >>= _) >>= _) = _
    rw [bind_assoc']
    congr 1; funext y
    rw [ite_bind, bind_assoc']
    congr 1
    show (rule_parser_term.f rc y.1 >>= _) = _
    congr 1; funext s1
    rw [bind_assoc'] <;> rfl
  hR := fun s => by
    unfold rule_parser_label.B rule_parser_row_term.f
    show ((rule_parser_term.f rc s >>= _) >>= _) = _
    rw [bind_assoc']
    congr 1; funext s1
    rw [bind_assoc'] <;> rfl
def rowAnd (rc : rule_parser → Option rule_parser) : RowIs (rule_parser_and.f rc) (rule_parser_prim.f rc) [97, 110, 100] 3 where
  L0 := fun s => rule_parser_row_prim.l0 [97, 110, 100] 3 rc s.l_ s.i_ s.deep_ s.bad_ s.out_ >>= pack
  hL := fun s => by
    conv => lhs; rw [rule_parser_row_prim.l0]
    show ((rule_parser_take.f s _ >>= _) >>= _) = _
    rw [bind_assoc']
    congr 1; funext y
    rw [ite_bind, bind_assoc']
    congr 1
    show (rule_parser_prim.f rc y.1 >>= _) = _
    congr 1; funext s1
    rw [bind_assoc'] <;> rfl
  hR := fun s => by
    unfold rule_parser_and.f rule_parser_row_prim.f
    show ((rule_parser_prim.f rc s >>= _) >>= _) = _
    rw [bind_assoc']
    congr 1; funext s1
    rw [bind_assoc'] <;> rfl
def rowCond (rc : rule_parser → Option rule_parser) : RowIs (rule_parser_cond.B rc) (rule_parser_and.f rc) [111, 114] 4 where
  L0 := fun s => rule_parser_row_and.l0 [111, 114] 4 rc s.l_ s.i_ s.deep_ s.bad_ s.out_ >>= pack
  hL := fun s => by
    conv => lhs; rw [rule_parser_row_and.l0]
    show ((rule_parser_take.f s _ >>= _) >>= _) = _
    rw [bind_assoc']
    congr 1; funext y
    rw [ite_bind, bind_assoc']
    congr 1
    show (rule_parser_and.f rc y.1 >>= _) = _
    congr 1; funext s1
    rw [bind_assoc'] <;> rfl
  hR := fun s => by
    unfold rule_parser_cond.B rule_parser_row_and.f
    show ((rule_parser_and.f rc s >>= _) >>= _) = _
    rw [bind_assoc']
    congr 1; funext s1
    rw [bind_assoc'] <;> rfl
/-! Brackets. -/
def shut (s : rule_parser) : rule_parser := ⟨s.l_, s.i_, s.out_, s.deep_ - 1, s.bad_⟩
def inside (rc : rule_parser → Option rule_parser) (s : rule_parser) (e : Str) : Option rule_parser :=
  if s.deep_ = 12 then rule_parser_fail.f s 5
  else rule_parser_next.f s >>= fun y3 => rc ⟨y3.l_, y3.i_, y3.out_, IntKind.i64.wrap (y3.deep_ + 1), y3.bad_⟩ >>= fun y4 =>
    (if y4.bad_ = 0 then (rule_parser_take.f y4 e >>= fun y14 => some (y14.1, !y14.2)) else some (y4, false)) >>= fun o =>
      if o.2 = true then (rule_parser_fail.f o.1 4 >>= fun y16 => some ⟨y16.l_, y16.i_, y16.out_, IntKind.i64.wrap (y16.deep_ - 1), y16.bad_⟩) else some ⟨o.1.l_, o.1.i_, o.1.out_, IntKind.i64.wrap (o.1.deep_ - 1), o.1.bad_⟩
theorem inL_eq {rc : rule_parser → Option rule_parser} {s : rule_parser} {e : Str} : rule_parser_inside_label.f rc s e = inside rc s e := by
  unfold rule_parser_inside_label.f inside
  split
  · show (rule_parser_fail.f s 5 >>= fun a => some a) = _
    rw [bind_some']
  · show (rule_parser_next.f s >>= _) = _
    congr 1; funext y3
    congr 1; funext y4
    split
    · rw [bind_assoc', bind_assoc']
      show (rule_parser_take.f y4 e >>= _) = _
      congr 1
    · rfl
theorem inC_eq {rc : rule_parser → Option rule_parser} {s : rule_parser} {e : Str} : rule_parser_inside_cond.f rc s e = inside rc s e := by
  unfold rule_parser_inside_cond.f inside
  split
  · show (rule_parser_fail.f s 5 >>= fun a => some a) = _
    rw [bind_some']
  · show (rule_parser_next.f s >>= _) = _
    congr 1; funext y3
    congr 1; funext y4
    split
    · rw [bind_assoc', bind_assoc']
      show (rule_parser_take.f y4 e >>= _) = _
      congr 1
    · rfl
/-! Atoms. -/
def wordsL : List (Str × Int) := [([98, 111, 116], 6), ([116, 111, 112], 7), ([112, 99], 8), ([111, 110, 101], 9), ([116, 119, 111], 10), ([116, 104, 114, 101, 101], 11)]
theorem atom_eq {rc : rule_parser → Option rule_parser} {s : rule_parser} {t : api_Tok} (ht : lAt s.l_ s.i_ = some t) (hb : s.bad_ = 0) :
    rule_parser_atom.f rc s = (if (mGet wordsL 0 t.Text).2 = true ∧ t.Kind = 1 then (rule_parser_next.f s >>= fun y => rule_parser_put.f y (mGet wordsL 0 t.Text).1) else if isT t [91] = true then inside rc s [93] else rule_parser_fail.f s 4) := by
  have hbt : (decide (s.bad_ = 0) && isT t [91]) = isT t [91] := by rw [decide_eq_true hb]; rfl
  unfold rule_parser_atom.f rule_words.f
  rw [if_pos hb, bsome, ht, bsome]
  show ((((if (mGet wordsL 0 t.Text).2 = true then _ else _) >>= _) : Option _) >>= _) = _
  by_cases h1 : (mGet wordsL 0 t.Text).2 = true
  · rw [if_pos h1, bsome, bsome]
    by_cases h2 : t.Kind = 1
    · rw [if_pos (decide_eq_true h2), if_pos ⟨h1, h2⟩]
      show (((rule_parser_next.f s >>= _) : Option _) >>= _) = _
      rw [bind_assoc']
      congr 1; funext y
      rw [bind_assoc']
      show (rule_parser_put.f y _ >>= fun a => some a) = _
      rw [bind_some']; rfl
    · rw [if_neg (by rw [decide_eq_false h2]; decide), if_neg (fun k => h2 k.2)]
      show (((rule_parser_is.f s [[91]] >>= _) : Option _) >>= _) = _
      rw [is_eq ht, bsome, hbt]
      show ((if isT t [91] = true then _ else _) >>= _) = _
      split
      · rw [inL_eq]
        show ((inside rc s [93] >>= _) >>= _) = _
        rw [bind_assoc']
        show (inside rc s [93] >>= fun a => some a) = _
        rw [bind_some']
      · show ((rule_parser_fail.f s 4 >>= _) >>= _) = _
        rw [bind_assoc']
        show (rule_parser_fail.f s 4 >>= fun a => some a) = _
        rw [bind_some']
  · rw [if_neg h1, bsome, if_neg (by decide), if_neg (fun k => h1 k.1)]
    show (((rule_parser_is.f s [[91]] >>= _) : Option _) >>= _) = _
    rw [is_eq ht, bsome, hbt]
    show ((if isT t [91] = true then _ else _) >>= _) = _
    split
    · rw [inL_eq]
      show ((inside rc s [93] >>= _) >>= _) = _
      rw [bind_assoc']
      show (inside rc s [93] >>= fun a => some a) = _
      rw [bind_some']
    · show ((rule_parser_fail.f s 4 >>= _) >>= _) = _
      rw [bind_assoc']
      show (rule_parser_fail.f s 4 >>= fun a => some a) = _
      rw [bind_some']
theorem atom_bad {rc : rule_parser → Option rule_parser} {s : rule_parser} (hb : s.bad_ ≠ 0) : rule_parser_atom.f rc s = some s := by
  unfold rule_parser_atom.f; rw [if_neg hb]
/-! Conditions that are no rows. -/
def primS (rc : rule_parser → Option rule_parser) (s : rule_parser) : Option rule_parser :=
  rule_parser_take.f s [116, 114, 117, 101] >>= fun a => if a.2 = true then rule_parser_put.f a.1 1 else
  rule_parser_take.f a.1 [102, 97, 108, 115, 101] >>= fun b => if b.2 = true then rule_parser_put.f b.1 2 else
  rule_parser_is.f b.1 [[40]] >>= fun c => if c.2 = true then inside rc c.1 [41] else
  rule_parser_label.f c.1 >>= fun y => (if y.bad_ = 0 then (rule_parser_take.f y [60, 61] >>= fun z => some (z.1, !z.2)) else some (y, false)) >>= fun o =>
    (if o.2 = true then rule_parser_fail.f o.1 4 else some o.1) >>= fun u => rule_parser_label.f u >>= fun v => rule_parser_put.f v 5
theorem prim_eq {rc : rule_parser → Option rule_parser} {s : rule_parser} : rule_parser_prim.f rc s = primS rc s := by
  unfold rule_parser_prim.f primS
  show ((rule_parser_take.f s _ >>= _) >>= _) = _
  rw [bind_assoc']
  congr 1; funext a
  split
  · show ((rule_parser_put.f a.1 1 >>= _) >>= _) = _
    rw [bind_assoc']
    show (rule_parser_put.f a.1 1 >>= fun a => some a) = _
    rw [bind_some']
  · show ((rule_parser_take.f a.1 _ >>= _) >>= _) = _
    rw [bind_assoc']
    congr 1; funext b
    split
    · show ((rule_parser_put.f b.1 2 >>= _) >>= _) = _
      rw [bind_assoc']
      show (rule_parser_put.f b.1 2 >>= fun a => some a) = _
      rw [bind_some']
    · show ((rule_parser_is.f b.1 _ >>= _) >>= _) = _
      rw [bind_assoc']
      congr 1; funext c
      split
      · rw [inC_eq]
        show ((inside rc c.1 [41] >>= _) >>= _) = _
        rw [bind_assoc']
        show (inside rc c.1 [41] >>= fun a => some a) = _
        rw [bind_some']
      · show ((rule_parser_label.f c.1 >>= _) >>= _) = _
        rw [bind_assoc']
        congr 1; funext y
        rw [bind_assoc']
        have key : ∀ (p : rule_parser) (b : Bool),
            ((if b = true then (rule_parser_fail.f p 4 >>= fun y53 => rule_parser_label.f y53 >>= fun y54 => rule_parser_put.f y54 5 >>= fun y55 => some (y55.l_, y55.i_, y55.deep_, y55.bad_, y55.out_))
              else (rule_parser_label.f p >>= fun y56 => rule_parser_put.f y56 5 >>= fun y57 => some (y57.l_, y57.i_, y57.deep_, y57.bad_, y57.out_)) : Option (List api_Tok × Int × Int × Int × List Int)) >>= fun o => match o with | (x27, x28, x29, x30, x31) => some (⟨x27, x28, x31, x29, x30⟩ : rule_parser))
            = ((if b = true then rule_parser_fail.f p 4 else some p) >>= fun u => rule_parser_label.f u >>= fun v => rule_parser_put.f v 5) := by
          intro p b
          have e2 : ∀ u, ((rule_parser_label.f u >>= fun y56 => rule_parser_put.f y56 5 >>= fun y57 => some (y57.l_, y57.i_, y57.deep_, y57.bad_, y57.out_) : Option (List api_Tok × Int × Int × Int × List Int)) >>= fun o => match o with | (x27, x28, x29, x30, x31) => some (⟨x27, x28, x31, x29, x30⟩ : rule_parser)) = (rule_parser_label.f u >>= fun v => rule_parser_put.f v 5) := by
            intro u
            rw [bind_assoc']
            congr 1; funext v
            rw [bind_assoc']
            show (rule_parser_put.f v 5 >>= fun a => some a) = _
            rw [bind_some']
          cases b with
          | true =>
            rw [if_pos rfl, if_pos rfl, bind_assoc']
            congr 1; funext u
            exact e2 u
          | false =>
            rw [if_neg (by decide), if_neg (by decide), bsome]
            exact e2 p
        split
        · rw [bind_assoc', bind_assoc']
          show (rule_parser_take.f y _ >>= _) = _
          congr 1; funext z
          exact key z.1 (!z.2)
        · exact key y false
end Go.Proofs.Ytjkijjhjffodcaa.Par
