/- What the parser of rules reads is a rule: derivations. -/
import Derived.Test.YtjkijjhjffodcaaPa1
set_option linter.unusedVariables false
set_option linter.unusedSimpArgs false
namespace Go.Proofs.Ytjkijjhjffodcaa.Par
open Go Go.Proofs.Ytjkijjhjffodcaa.Ab Go.Proofs.Ytjkijjhjffodcaa.LF
open Go.Proofs.Ytjkijjhjffodcaa.Lat (lAt_some)
/-- Things: 0 a condition, 1 a row of and, 2 a label, 3 a row of meet, 4 a part of a condition, 5 an atom. -/
def sub : Nat → Nat
  | 0 => 1
  | 1 => 4
  | 2 => 3
  | _ => 5
def wdK : Nat → Str
  | 0 => [111, 114]
  | 1 => [97, 110, 100]
  | 2 => [106, 111, 105, 110]
  | _ => [109, 101, 101, 116]
def opk : Nat → Int
  | 0 => 4
  | 1 => 3
  | 2 => 12
  | _ => 13
inductive Der : Nat → Nat → List api_Tok → Tr → Prop
  | tru {d : Nat} {t : api_Tok} (h : isT t [116, 114, 117, 101] = true) : Der 4 d [t] (.lf 1)
  | fls {d : Nat} {t : api_Tok} (h : isT t [102, 97, 108, 115, 101] = true) : Der 4 d [t] (.lf 2)
  | parC {d : Nat} {a b : api_Tok} {w : List api_Tok} {t : Tr} (ha : isT a [40] = true) (h : Der 0 d w t) (hb : isT b [41] = true) : Der 4 (d + 1) (a :: (w ++ [b])) t
  | flows {d : Nat} {m : api_Tok} {w1 w2 : List api_Tok} {x y : Tr} (hx : Der 2 d w1 x) (hm : isT m [60, 61] = true) (hy : Der 2 d w2 y) : Der 4 d (w1 ++ m :: w2) (.nd 5 x y)
  | leaf {d : Nat} {t : api_Tok} {op : Int} (hk : t.Kind = 1) (hw : mFind wordsL t.Text = some op) : Der 5 d [t] (.lf op)
  | parL {d : Nat} {a b : api_Tok} {w : List api_Tok} {t : Tr} (ha : isT a [91] = true) (h : Der 2 d w t) (hb : isT b [93] = true) : Der 5 (d + 1) (a :: (w ++ [b])) t
  | one {k d : Nat} {w : List api_Tok} {t : Tr} (hk : k < 4) (h : Der (sub k) d w t) : Der k d w t
  | more {k d : Nat} {m : api_Tok} {w1 w2 : List api_Tok} {x y : Tr} (hk : k < 4) (hx : Der k d w1 x) (hm : isT m (wdK k) = true) (hy : Der (sub k) d w2 y) : Der k d (w1 ++ m :: w2) (.nd (opk k) x y)
def Post (k : Nat) (s s' : rule_parser) : Prop :=
  Val s' ∧ s'.l_ = s.l_ ∧ s'.deep_ = s.deep_ ∧ s.i_ ≤ s'.i_ ∧ (s.bad_ ≠ 0 → s' = s) ∧
    (s.bad_ = 0 → s'.bad_ = 0 → ∃ w t, s.l_.drop s.i_.toNat = w ++ s.l_.drop s'.i_.toNat ∧ Der k (12 - s.deep_).toNat w t ∧ s'.out_ = s.out_ ++ t.flat ∧ s.i_ < s'.i_)
def Good (k m : Nat) (f : rule_parser → Option rule_parser) : Prop := ∀ s, Val s → 13 ≤ s.deep_ + (m : Int) → ∃ s', f s = some s' ∧ Post k s s'
theorem Val.of {s s' : rule_parser} (v : Val s) (hl : s'.l_ = s.l_) (h0 : 0 ≤ s'.i_) (h1 : s'.i_ < s'.l_.length) (hd : s'.deep_ = s.deep_) (ho : s'.out_.length ≤ 40) : Val s' :=
  ⟨by rw [hl]; exact v.len, h0, h1, by rw [hl]; exact v.last, by rw [hd]; exact v.d0, by rw [hd]; exact v.d1, ho⟩
theorem drop_tok {l : List api_Tok} {i : Int} {t : api_Tok} (h0 : 0 ≤ i) (h : l[i.toNat]? = some t) : l.drop i.toNat = t :: l.drop (i + 1).toNat := by
  have hlt := (List.getElem?_eq_some_iff.1 h).1
  rw [List.drop_eq_getElem_cons hlt, (List.getElem?_eq_some_iff.1 h).2]
  congr 1
  congr 1; omega
theorem adv_val {s : rule_parser} (v : Val s) (h : s.i_ + 1 < s.l_.length) : Val (adv1 s) := v.of rfl (by show 0 ≤ s.i_ + 1; have := v.i0; omega) h rfl v.out
theorem row_good {k m : Nat} {Row one : rule_parser → Option rule_parser} (hk : k < 4) (R : RowIs Row one (wdK k) (opk k)) (h : Good (sub k) m one) : Good k m Row := by
  intro s v hm
  have loop : ∀ (n : Nat) (s1 : rule_parser), s1.l_.length - s1.i_.toNat < n → Post k s s1 → ∃ s', R.L0 s1 = some s' ∧ Post k s s' := by
    intro n
    induction n with
    | zero => intro s1 hn _; omega
    | succ n ih =>
      intro s1 hn P
      obtain ⟨v1, hl1, hd1, hi1, hb1, hg1⟩ := P
      obtain ⟨t, ht, _⟩ := tok_at v1
      rw [R.hL]
      by_cases hno : s1.bad_ ≠ 0 ∨ isT t (wdK k) = false
      · rw [take_no v1 ht hno, bsome, if_neg (by simp)]
        exact ⟨s1, rfl, v1, hl1, hd1, hi1, hb1, hg1⟩
      · have hb : s1.bad_ = 0 := Classical.byContradiction fun q => hno (.inl q)
        have hw : isT t (wdK k) = true := by
          cases q : isT t (wdK k) with
          | true => rfl
          | false => exact absurd (.inr q) hno
        have hs0 : s.bad_ = 0 := Classical.byContradiction fun q => by
          have := hb1 q; rw [this] at hb; exact q hb
        have hlt := notlast v1 ht hw
        rw [take_yes v1 ht hb hw, bsome, if_pos rfl]
        have v2 := adv_val v1 hlt
        obtain ⟨s2, e2, w2, hl2, hd2, hi2, hb2, hg2⟩ := h (adv1 s1) v2 (by show 13 ≤ s1.deep_ + _; rw [hd1]; exact hm)
        have hl2' : s2.l_ = s.l_ := hl2.trans hl1
        have hd2' : s2.deep_ = s.deep_ := hd2.trans hd1
        have hi2' : s1.i_ + 1 ≤ s2.i_ := hi2
        have v10 := v1.i0
        have w21 := w2.i1
        have w20 := w2.i0
        have hlen : s2.l_.length = s1.l_.length := by rw [hl2', hl1]
        rw [e2, bsome]
        have badcase : ∀ s3 : rule_parser, rule_parser_put.f s2 (opk k) = some s3 → s3.l_ = s2.l_ → s3.i_ = s2.i_ → s3.deep_ = s2.deep_ → s3.bad_ ≠ 0 → s3.out_.length ≤ 40 → ∃ s', (rule_parser_put.f s2 (opk k) >>= fun s2 => R.L0 s2) = some s' ∧ Post k s s' := by
          intro s3 e3 q1 q2 q3 q4 q5
          rw [e3, bsome]
          refine ih s3 ?_ ⟨w2.of q1 (by omega) (by rw [q1, q2]; exact w2.i1) q3 q5, q1.trans hl2', q3.trans hd2', by omega, fun q => absurd hs0 q, fun _ q => absurd q q4⟩
          rw [q1, q2]; omega
        by_cases hbad : s2.bad_ = 0
        · by_cases hfull : s2.out_.length = 40
          · exact badcase _ (put_full hbad hfull) rfl rfl rfl (show (8 : Int) ≠ 0 by decide) w2.out
          · have ho := w2.out
            rw [put_eq hbad (by omega), bsome]
            obtain ⟨wa, ta, ea, da, oa, la⟩ := hg1 hs0 hb
            obtain ⟨wb, tb, eb, db, ob, lb⟩ := hg2 hb hbad
            refine ih _ (by show s2.l_.length - s2.i_.toNat < n; omega) ⟨w2.of rfl w20 w21 rfl (by simp; omega), hl2', hd2', by show s.i_ ≤ s2.i_; omega, fun q => absurd hs0 q, fun _ _ => ⟨wa ++ t :: wb, .nd (opk k) ta tb, ?_, .more hk da hw ?_, ?_, by show s.i_ < s2.i_; omega⟩⟩
            · rw [ea, hl1.symm, drop_tok v10 ht]
              have : s1.l_.drop (s1.i_ + 1).toNat = wb ++ s1.l_.drop s2.i_.toNat := eb
              rw [this]; simp
            · have : (adv1 s1).deep_ = s.deep_ := hd1
              rw [this] at db; exact db
            · show s2.out_ ++ [opk k] = _
              rw [ob]
              show (s1.out_ ++ tb.flat) ++ [opk k] = _
              rw [oa]; simp [Tr.flat]
        · exact badcase s2 (put_bad hbad) rfl rfl rfl hbad w2.out
  obtain ⟨s1, e1, w1, hl1, hd1, hi1, hb1, hg1⟩ := h s v hm
  rw [R.hR, e1, bsome]
  exact loop _ s1 (Nat.lt_succ_self _) ⟨w1, hl1, hd1, hi1, hb1, fun p q => let ⟨w, t, a, b, c, d⟩ := hg1 p q; ⟨w, t, a, .one hk b, c, d⟩⟩
theorem inside_good {k m : Nat} {rc : rule_parser → Option rule_parser} (h : Good k m rc) {s : rule_parser} {e : Str} (v : Val s) (hb : s.bad_ = 0) (hi : s.i_ + 1 < s.l_.length) (hm : 13 ≤ s.deep_ + ((m + 1 : Nat) : Int)) :
    ∃ s', inside rc s e = some s' ∧ Val s' ∧ s'.l_ = s.l_ ∧ s'.deep_ = s.deep_ ∧ s.i_ ≤ s'.i_ ∧
      (s'.bad_ = 0 → ∃ w t b, s.l_.drop (s.i_ + 1).toNat = w ++ b :: s.l_.drop s'.i_.toNat ∧ isT b e = true ∧ s.deep_ < 12 ∧ Der k (11 - s.deep_).toNat w t ∧ s'.out_ = s.out_ ++ t.flat ∧ s.i_ + 1 < s'.i_) := by
  have v0 := v.i0
  have vd0 := v.d0
  have vd1 := v.d1
  unfold inside
  by_cases hd : s.deep_ = 12
  · rw [if_pos hd, fail_eq hb]
    exact ⟨_, rfl, v.of rfl v.i0 v.i1 rfl v.out, rfl, rfl, Int.le_refl _, fun q => by cases q⟩
  · rw [if_neg hd, next_eq v hi, bsome]
    have hw : IntKind.i64.wrap (s.deep_ + 1) = s.deep_ + 1 := wrapZ (by omega) (by omega)
    show ∃ s', (rc ⟨s.l_, s.i_ + 1, s.out_, IntKind.i64.wrap (s.deep_ + 1), s.bad_⟩ >>= _) = some s' ∧ _
    rw [hw]
    have v1 : Val ⟨s.l_, s.i_ + 1, s.out_, s.deep_ + 1, s.bad_⟩ := ⟨v.len, by show 0 ≤ s.i_ + 1; omega, hi, v.last, by show 0 ≤ s.deep_ + 1; omega, by show s.deep_ + 1 ≤ 12; omega, v.out⟩
    obtain ⟨s2, e2, w2, hl2, hd2, hi2, hb2, hg2⟩ := h _ v1 (by show 13 ≤ s.deep_ + 1 + (m : Int); omega)
    have hl2 : s2.l_ = s.l_ := hl2
    have hd2 : s2.deep_ = s.deep_ + 1 := hd2
    have hi2 : s.i_ + 1 ≤ s2.i_ := hi2
    rw [e2, bsome]
    have w20 := w2.i0
    have hwr : IntKind.i64.wrap (s.deep_ + 1 - 1) = s.deep_ := by rw [wrapZ (by omega) (by omega)]; omega
    have fin : ∀ s3 : rule_parser, s3.l_ = s2.l_ → s2.i_ ≤ s3.i_ → s3.i_ < s3.l_.length → s3.out_.length ≤ 40 → Val ⟨s3.l_, s3.i_, s3.out_, s.deep_, s3.bad_⟩ := fun s3 q1 q2 q3 q4 =>
      ⟨by show s3.l_.length ≤ 1000; rw [q1]; exact w2.len, by show 0 ≤ s3.i_; omega, q3, by show ∀ (j : Nat) (h : j < s3.l_.length), _; rw [q1]; exact w2.last, vd0, vd1, q4⟩
    by_cases hbad : s2.bad_ = 0
    · rw [if_pos hbad]
      obtain ⟨t, ht, _⟩ := tok_at w2
      cases hT : isT t e with
      | true =>
        have hlt := notlast w2 ht hT
        rw [take_yes w2 ht hbad hT, bsome, bsome]
        show ∃ s', (if (!true) = true then _ else some (⟨s2.l_, s2.i_ + 1, s2.out_, IntKind.i64.wrap (s2.deep_ - 1), s2.bad_⟩ : rule_parser)) = some s' ∧ _
        rw [if_neg (by simp), hd2, hwr]
        refine ⟨_, rfl, fin (adv1 s2) rfl (by show s2.i_ ≤ s2.i_ + 1; omega) hlt w2.out, hl2, rfl, by show s.i_ ≤ s2.i_ + 1; omega, fun _ => ?_⟩
        obtain ⟨w, t', ea, da, oa, la⟩ := hg2 hb hbad
        have la : s.i_ + 1 < s2.i_ := la
        refine ⟨w, t', t, ?_, hT, by omega, ?_, oa, by show s.i_ + 1 < s2.i_ + 1; omega⟩
        · have ea : s.l_.drop (s.i_ + 1).toNat = w ++ s.l_.drop s2.i_.toNat := ea
          rw [ea, ← hl2, drop_tok w20 ht]
        · have da : Der k (12 - (s.deep_ + 1)).toNat w t' := da
          rw [show 12 - (s.deep_ + 1) = 11 - s.deep_ by omega] at da
          exact da
      | false =>
        rw [take_no w2 ht (.inr hT), bsome, bsome]
        show ∃ s', (if (!false) = true then (rule_parser_fail.f s2 4 >>= _) else _) = some s' ∧ _
        rw [if_pos (by decide), fail_eq hbad, bsome]
        show ∃ s', some (⟨s2.l_, s2.i_, s2.out_, IntKind.i64.wrap (s2.deep_ - 1), 4⟩ : rule_parser) = some s' ∧ _
        rw [hd2, hwr]
        exact ⟨_, rfl, fin ⟨s2.l_, s2.i_, s2.out_, s2.deep_, 4⟩ rfl (Int.le_refl _) w2.i1 w2.out, hl2, rfl, by show s.i_ ≤ s2.i_; omega, fun q => by cases q⟩
    · rw [if_neg hbad, bsome]
      show ∃ s', (if false = true then _ else some (⟨s2.l_, s2.i_, s2.out_, IntKind.i64.wrap (s2.deep_ - 1), s2.bad_⟩ : rule_parser)) = some s' ∧ _
      rw [if_neg (by simp), hd2, hwr]
      exact ⟨_, rfl, fin s2 rfl (Int.le_refl _) w2.i1 w2.out, hl2, rfl, by show s.i_ ≤ s2.i_; omega, fun q => absurd q hbad⟩
theorem mGet_some {x : Str} (h : (mGet wordsL 0 x).2 = true) : mFind wordsL x = some (mGet wordsL 0 x).1 := by
  unfold mGet at *
  cases q : mFind wordsL x with
  | none => rw [q] at h; cases h
  | some y => rfl
theorem atom_good {m : Nat} {rc : rule_parser → Option rule_parser} (h : Good 2 m rc) : Good 5 (m + 1) (rule_parser_atom.f rc) := by
  intro s v hm
  have v0 := v.i0
  have vd1 := v.d1
  by_cases hb : s.bad_ = 0
  · obtain ⟨t, ht, hlt⟩ := tok_at v
    rw [atom_eq hlt hb]
    by_cases h1 : (mGet wordsL 0 t.Text).2 = true ∧ t.Kind = 1
    · rw [if_pos h1]
      have hn : s.i_ + 1 < s.l_.length := by
        rcases (by omega : s.i_ + 1 < s.l_.length ∨ s.i_ + 1 ≥ s.l_.length) with q | q
        · exact q
        · have hi1 := v.i1
          have hl := v.last s.i_.toNat (by omega) (by omega)
          have he : s.l_[s.i_.toNat]'(by omega) = t := (List.getElem?_eq_some_iff.1 ht).2
          rw [he, h1.2] at hl; cases hl
      rw [next_eq v hn, bsome]
      show ∃ s', rule_parser_put.f (adv1 s) _ = some s' ∧ _
      by_cases hfull : s.out_.length = 40
      · rw [put_full (s := adv1 s) hb hfull]
        exact ⟨_, rfl, v.of rfl (by show 0 ≤ s.i_ + 1; omega) hn rfl v.out, rfl, rfl, by show s.i_ ≤ s.i_ + 1; omega, fun q => absurd hb q, fun _ q => by cases q⟩
      · have ho := v.out
        rw [put_eq (s := adv1 s) hb (by show s.out_.length < 40; omega)]
        refine ⟨_, rfl, v.of rfl (by show 0 ≤ s.i_ + 1; omega) hn rfl (by simp [adv1]; omega), rfl, rfl, by show s.i_ ≤ s.i_ + 1; omega, fun q => absurd hb q, fun _ _ => ⟨[t], .lf (mGet wordsL 0 t.Text).1, ?_, .leaf h1.2 (mGet_some h1.1), rfl, by show s.i_ < s.i_ + 1; omega⟩⟩
        exact drop_tok v0 ht
    · rw [if_neg h1]
      by_cases h2 : isT t [91] = true
      · rw [if_pos h2]
        obtain ⟨s', e, w, hl, hd, hi, hg⟩ := inside_good h (e := [93]) v hb (notlast v ht h2) hm
        refine ⟨s', e, w, hl, hd, hi, fun q => absurd hb q, fun _ q => ?_⟩
        obtain ⟨wa, ta, b, ea, hb', hdp, da, oa, la⟩ := hg q
        refine ⟨t :: (wa ++ [b]), ta, ?_, ?_, oa, by omega⟩
        · rw [drop_tok v0 ht, ea]; simp
        · have : (12 - s.deep_).toNat = (11 - s.deep_).toNat + 1 := by omega
          rw [this]; exact .parL h2 da hb'
      · rw [if_neg h2, fail_eq hb]
        exact ⟨_, rfl, v.of rfl v.i0 v.i1 rfl v.out, rfl, rfl, Int.le_refl _, fun q => absurd hb q, fun _ q => by cases q⟩
  · rw [atom_bad hb]
    exact ⟨s, rfl, v, rfl, rfl, Int.le_refl _, fun _ => rfl, fun q => absurd q hb⟩
theorem label_good : ∀ m : Nat, Good 2 m (rule_parser_label.F m)
  | 0 => fun s v hm => by have := v.d1; omega
  | m + 1 => row_good (k := 2) (by omega) (rowLabel _) (row_good (k := 3) (by omega) (rowTerm _) (atom_good (label_good m)))
theorem label_all {s : rule_parser} (v : Val s) : ∃ s', rule_parser_label.f s = some s' ∧ Post 2 s s' := label_good 1000 s v (by have := v.d0; omega)
theorem prim_good {m : Nat} {rc : rule_parser → Option rule_parser} (h : Good 0 m rc) : Good 4 (m + 1) (rule_parser_prim.f rc) := by
  intro s v hm
  have v0 := v.i0
  have vd1 := v.d1
  rw [prim_eq]
  unfold primS
  obtain ⟨t, ht, hlt⟩ := tok_at v
  by_cases hb : s.bad_ = 0
  · have leaf : ∀ (w : Str) (op : Int), isT t w = true → Der 4 (12 - s.deep_).toNat [t] (.lf op) → ∃ s', rule_parser_put.f (adv1 s) op = some s' ∧ Post 4 s s' := by
      intro w op hw hD
      have hn := notlast v ht hw
      by_cases hfull : s.out_.length = 40
      · rw [put_full (s := adv1 s) hb hfull]
        exact ⟨_, rfl, v.of rfl (by show 0 ≤ s.i_ + 1; omega) hn rfl v.out, rfl, rfl, by show s.i_ ≤ s.i_ + 1; omega, fun q => absurd hb q, fun _ q => by cases q⟩
      · have ho := v.out
        rw [put_eq (s := adv1 s) hb (by show s.out_.length < 40; omega)]
        exact ⟨_, rfl, v.of rfl (by show 0 ≤ s.i_ + 1; omega) hn rfl (by simp [adv1]; omega), rfl, rfl, by show s.i_ ≤ s.i_ + 1; omega, fun q => absurd hb q, fun _ _ => ⟨[t], .lf op, drop_tok v0 ht, hD, rfl, by show s.i_ < s.i_ + 1; omega⟩⟩
    cases h1 : isT t [116, 114, 117, 101] with
    | true =>
      rw [take_yes v ht hb h1, bsome, if_pos rfl]
      exact leaf _ 1 h1 (.tru h1)
    | false =>
      rw [take_no v ht (.inr h1), bsome, if_neg (by simp)]
      cases h2 : isT t [102, 97, 108, 115, 101] with
      | true =>
        show ∃ s', (rule_parser_take.f s _ >>= _) = some s' ∧ _
        rw [take_yes v ht hb h2, bsome, if_pos rfl]
        exact leaf _ 2 h2 (.fls h2)
      | false =>
        show ∃ s', (rule_parser_take.f s _ >>= _) = some s' ∧ _
        rw [take_no v ht (.inr h2), bsome, if_neg (by simp)]
        show ∃ s', (rule_parser_is.f s _ >>= _) = some s' ∧ _
        rw [is_eq hlt, bsome, decide_eq_true hb, Bool.true_and]
        cases h3 : isT t [40] with
        | true =>
          rw [if_pos rfl]
          obtain ⟨s', e, w, hl, hd, hi, hg⟩ := inside_good h (e := [41]) v hb (notlast v ht h3) hm
          refine ⟨s', e, w, hl, hd, hi, fun q => absurd hb q, fun _ q => ?_⟩
          obtain ⟨wa, ta, b, ea, hb', hdp, da, oa, la⟩ := hg q
          refine ⟨t :: (wa ++ [b]), ta, ?_, ?_, oa, by omega⟩
          · rw [drop_tok v0 ht, ea]; simp
          · have : (12 - s.deep_).toNat = (11 - s.deep_).toNat + 1 := by omega
            rw [this]; exact .parC h3 da hb'
        | false =>
          rw [if_neg (by simp)]
          show ∃ s', (rule_parser_label.f s >>= _) = some s' ∧ _
          obtain ⟨s1, e1, w1, hl1, hd1, hi1, hb1, hg1⟩ := label_all v
          rw [e1, bsome]
          have w10 := w1.i0
          -- what stays wrong
          have bad : ∀ u : rule_parser, Val u → u.bad_ ≠ 0 → u.l_ = s.l_ → u.deep_ = s.deep_ → s.i_ ≤ u.i_ → ∃ s', (rule_parser_label.f u >>= fun v => rule_parser_put.f v 5) = some s' ∧ Post 4 s s' := by
            intro u vu hu q1 q2 q3
            obtain ⟨u1, e2, w2, _, _, _, hb2, _⟩ := label_all vu
            rw [e2, bsome, hb2 hu, put_bad hu]
            exact ⟨u, rfl, vu, q1, q2, q3, fun q => absurd hb q, fun _ q => absurd q hu⟩
          by_cases hbad : s1.bad_ = 0
          · rw [if_pos hbad]
            obtain ⟨t1, ht1, _⟩ := tok_at w1
            cases h4 : isT t1 [60, 61] with
            | false =>
              rw [take_no w1 ht1 (.inr h4), bsome, bsome]
              show ∃ s', ((if (!false) = true then rule_parser_fail.f s1 4 else _) >>= _) = some s' ∧ _
              rw [if_pos (by decide), fail_eq hbad, bsome]
              exact bad _ (w1.of rfl w1.i0 w1.i1 rfl w1.out) (by show (4 : Int) ≠ 0; decide) hl1 hd1 hi1
            | true =>
              have hn1 := notlast w1 ht1 h4
              rw [take_yes w1 ht1 hbad h4, bsome, bsome]
              show ∃ s', ((if (!true) = true then _ else some (adv1 s1)) >>= _) = some s' ∧ _
              rw [if_neg (by simp), bsome]
              have v2 := adv_val w1 hn1
              obtain ⟨s2, e2, w2, hl2, hd2, hi2, hb2, hg2⟩ := label_all v2
              have hl2' : s2.l_ = s.l_ := hl2.trans hl1
              have hd2' : s2.deep_ = s.deep_ := hd2.trans hd1
              have hi2' : s1.i_ + 1 ≤ s2.i_ := hi2
              rw [e2, bsome]
              by_cases hbad2 : s2.bad_ = 0
              · by_cases hfull : s2.out_.length = 40
                · rw [put_full hbad2 hfull]
                  exact ⟨_, rfl, w2.of rfl w2.i0 w2.i1 rfl w2.out, hl2', hd2', by show s.i_ ≤ s2.i_; omega, fun q => absurd hb q, fun _ q => by cases q⟩
                · have ho := w2.out
                  rw [put_eq hbad2 (by omega)]
                  obtain ⟨wa, ta, ea, da, oa, la⟩ := hg1 hb hbad
                  obtain ⟨wb, tb, eb, db, ob, lb⟩ := hg2 hbad hbad2
                  refine ⟨_, rfl, w2.of rfl w2.i0 w2.i1 rfl (by simp; omega), hl2', hd2', by show s.i_ ≤ s2.i_; omega, fun q => absurd hb q, fun _ _ => ⟨wa ++ t1 :: wb, .nd 5 ta tb, ?_, .flows da h4 ?_, ?_, by show s.i_ < s2.i_; omega⟩⟩
                  · rw [ea, hl1.symm, drop_tok w10 ht1]
                    have : s1.l_.drop (s1.i_ + 1).toNat = wb ++ s1.l_.drop s2.i_.toNat := eb
                    rw [this]; simp
                  · have : (adv1 s1).deep_ = s.deep_ := hd1
                    rw [this] at db; exact db
                  · show s2.out_ ++ [5] = _
                    rw [ob]
                    show (s1.out_ ++ tb.flat) ++ [5] = _
                    rw [oa]; simp [Tr.flat]
              · rw [put_bad hbad2]
                exact ⟨s2, rfl, w2, hl2', hd2', by omega, fun q => absurd hb q, fun _ q => absurd q hbad2⟩
          · rw [if_neg hbad, bsome]
            show ∃ s', ((if false = true then _ else some s1) >>= _) = some s' ∧ _
            rw [if_neg (by simp), bsome]
            exact bad s1 w1 hbad hl1 hd1 hi1
  · rw [take_no v ht (.inl hb), bsome, if_neg (by simp)]
    show ∃ s', (rule_parser_take.f s _ >>= _) = some s' ∧ _
    rw [take_no v ht (.inl hb), bsome, if_neg (by simp)]
    show ∃ s', (rule_parser_is.f s _ >>= _) = some s' ∧ _
    rw [is_eq hlt, bsome, decide_eq_false hb, Bool.false_and, if_neg (by simp)]
    show ∃ s', (rule_parser_label.f s >>= _) = some s' ∧ _
    obtain ⟨s1, e1, w1, _, _, _, hb1, _⟩ := label_all v
    obtain rfl := hb1 hb
    rw [e1, bsome, if_neg hb, bsome]
    show ∃ s', ((if false = true then _ else some s1) >>= _) = some s' ∧ _
    rw [if_neg (by simp), bsome, e1, bsome, put_bad hb]
    exact ⟨s1, rfl, v, rfl, rfl, Int.le_refl _, fun _ => rfl, fun q => absurd q hb⟩
theorem cond_good : ∀ m : Nat, Good 0 m (rule_parser_cond.F m)
  | 0 => fun s v hm => by have := v.d1; omega
  | m + 1 => row_good (k := 0) (by omega) (rowCond _) (row_good (k := 1) (by omega) (rowAnd _) (prim_good (cond_good m)))
theorem cond_all {s : rule_parser} (v : Val s) : ∃ s', rule_parser_cond.f s = some s' ∧ Post 0 s s' := cond_good 1000 s v (by have := v.d0; omega)
end Go.Proofs.Ytjkijjhjffodcaa.Par
