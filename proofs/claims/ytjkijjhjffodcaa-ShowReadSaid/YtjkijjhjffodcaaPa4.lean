/- What is read from a place on. -/
import Derived.Test.YtjkijjhjffodcaaPa3
set_option linter.unusedVariables false
set_option linter.unusedSimpArgs false
namespace Go.Proofs.Ytjkijjhjffodcaa.Par
open Go Go.Proofs.Ytjkijjhjffodcaa.Ab Go.Proofs.Ytjkijjhjffodcaa.LF
open Go.Proofs.Ytjkijjhjffodcaa.Lat (lAt_some)
def kOf (b : Bool) : Nat := if b then 2 else 0
structure May (l : List api_Tok) (i : Int) : Prop where
  i0 : 0 ≤ i
  i1 : i < l.length
  last : ∀ (j : Nat) (h : j < l.length), j + 1 = l.length → l[j].Kind = 0
theorem from_no {l : List api_Tok} {i : Int} {b : Bool} (hl : l.length ≤ 1000) (h : ¬ May l i) : rule_From.f l i b = some ([], 0, 1) := by
  unfold rule_From.f
  by_cases h0 : i < 0
  · rw [if_pos h0, bsome, if_pos rfl]
  · rw [if_neg h0]
    by_cases h1 : i ≥ (l.length : Int)
    · rw [if_pos h1, bsome, if_pos rfl]
    · rw [if_neg h1]
      have hlen : l.length - 1 < l.length := by omega
      have e : IntKind.i64.wrap ((l.length : Int) - 1) = ((l.length - 1 : Nat) : Int) := by rw [wrapZ (by omega) (by omega)]; omega
      rw [e, lAt_some hlen, bsome, bsome]
      have hk : l[l.length - 1].Kind ≠ 0 := by
        intro hk
        refine h ⟨by omega, by omega, fun j hj hj1 => ?_⟩
        have : j = l.length - 1 := by omega
        subst this; exact hk
      rw [if_pos (by rw [decide_eq_false hk]; rfl)]
theorem from_may {l : List api_Tok} {i : Int} {b : Bool} (hl : l.length ≤ 1000) (h : May l i) :
    rule_From.f l i b = ((if b = true then rule_parser_label.f ⟨l, i, [], 0, 0⟩ else rule_parser_cond.f ⟨l, i, [], 0, 0⟩) >>= fun y => if y.bad_ = 0 then some (y.out_, y.i_, 0) else some ([], y.i_, y.bad_)) := by
  unfold rule_From.f
  have h0 := h.i0
  have h1 := h.i1
  have hlen : l.length - 1 < l.length := by omega
  have e : IntKind.i64.wrap ((l.length : Int) - 1) = ((l.length - 1 : Nat) : Int) := by rw [wrapZ (by omega) (by omega)]; omega
  rw [if_neg (by omega), if_neg (by omega), e, lAt_some hlen, bsome, bsome, if_neg (by rw [h.last _ hlen (by omega)]; decide)]
  cases b <;> rfl
theorem val_of {l : List api_Tok} {i : Int} (hl : l.length ≤ 1000) (h : May l i) : Val ⟨l, i, [], 0, 0⟩ := ⟨hl, h.i0, h.i1, h.last, by show (0 : Int) ≤ 0; omega, by show (0 : Int) ≤ 12; omega, by simp⟩
/-- Whatever is read: an error, and nothing; or what a derivation tells. -/
theorem from_any {l : List api_Tok} {i : Int} {b : Bool} (hl : l.length ≤ 1000) : ∃ x j e, rule_From.f l i b = some (x, j, e) ∧ (e ≠ 0 → x = []) ∧
    (e = 0 → May l i ∧ i < j ∧ j < l.length ∧ ∃ w t, l.drop i.toNat = w ++ l.drop j.toNat ∧ Der (kOf b) 12 w t ∧ x = t.flat ∧ t.size ≤ 40) := by
  by_cases h : May l i
  · rw [from_may hl h]
    have v := val_of hl h
    have key : ∀ (f : rule_parser → Option rule_parser) (k : Nat), (∃ s', f ⟨l, i, [], 0, 0⟩ = some s' ∧ Post k ⟨l, i, [], 0, 0⟩ s') → k = kOf b →
        ∃ x j e, ((f ⟨l, i, [], 0, 0⟩ >>= fun y => if y.bad_ = 0 then some (y.out_, y.i_, 0) else some ([], y.i_, y.bad_)) : Option (List Int × Int × Int)) = some (x, j, e) ∧ (e ≠ 0 → x = []) ∧
          (e = 0 → May l i ∧ i < j ∧ j < l.length ∧ ∃ w t, l.drop i.toNat = w ++ l.drop j.toNat ∧ Der (kOf b) 12 w t ∧ x = t.flat ∧ t.size ≤ 40) := by
      rintro f k ⟨s', e, w, hl', hd, hi, hb, hg⟩ rfl
      rw [e, bsome]
      by_cases hbad : s'.bad_ = 0
      · rw [if_pos hbad]
        obtain ⟨wa, ta, ea, da, oa, la⟩ := hg rfl hbad
        have h1 := w.i1
        rw [hl'] at h1
        have ho := w.out
        have oa' : s'.out_ = ta.flat := oa
        rw [oa', flat_len] at ho
        exact ⟨_, _, _, rfl, fun q => absurd rfl q, fun _ => ⟨h, la, h1, wa, ta, ea, da, oa', ho⟩⟩
      · rw [if_neg hbad]
        exact ⟨_, _, _, rfl, fun _ => rfl, fun q => absurd q hbad⟩
    cases b with
    | true => exact key _ 2 (label_all v) rfl
    | false => exact key _ 0 (cond_all v) rfl
  · rw [from_no hl h]
    exact ⟨_, _, _, rfl, fun _ => rfl, fun q => by cases q⟩
/-- What a derivation tells is read, if what is behind it does not go on. -/
theorem from_der {l : List api_Tok} {i : Int} {b : Bool} {w r : List api_Tok} {z : api_Tok} {t : Tr} (hl : l.length ≤ 1000) (h : May l i) (hd : Der (kOf b) 12 w t) (hs : t.size ≤ 40) (hh : l.drop i.toNat = w ++ z :: r) (hz : Stops (outer (kOf b)) z) :
    rule_From.f l i b = some (t.flat, i + w.length, 0) := by
  rw [from_may hl h]
  have A : At ⟨l, i, [], 0, 0⟩ w z r 12 t.size := ⟨val_of hl h, rfl, hh, by show (0 : Int) + (12 : Nat) ≤ 12; omega, by show 0 + t.size ≤ 40; omega⟩
  have hf := full (comp hd) (m := 999) (by omega) A hz
  cases b with
  | true =>
    have : rule_parser_label.f ⟨l, i, [], 0, 0⟩ = some (advW ⟨l, i, [], 0, 0⟩ w t) := hf
    rw [if_pos rfl, this]; rfl
  | false =>
    have : rule_parser_cond.f ⟨l, i, [], 0, 0⟩ = some (advW ⟨l, i, [], 0, 0⟩ w t) := hf
    rw [if_neg (by decide), this]; rfl
theorem kOf_sort {b : Bool} : sortK (kOf b) = b := by cases b <;> rfl
theorem der_len : ∀ {k d : Nat} {w : List api_Tok} {t : Tr}, Der k d w t → 1 ≤ w.length := by
  intro k d w t h
  induction h <;> first | assumption | (simp only [List.length_append, List.length_cons, List.length_nil]; omega)
theorem zero_stops {l : List Str} {z : api_Tok} (h : z.Kind = 0) : Stops l z := by
  intro x _
  unfold isT
  rw [h]; rfl
theorem same_refl {a : List Int} (h : a.length ≤ 1000) : reticentref04_Same.f a a = some true := by
  unfold reticentref04_Same.f
  rw [if_pos rfl]
  have key : ∀ (d k : Nat), a.length = k + d → reticentref04_Same.l0 a a (k : Int) = some (.inr ()) := by
    intro d
    induction d with
    | zero => intro k hk; rw [reticentref04_Same.l0, if_neg (by omega)]
    | succ d ih =>
      intro k hk
      rw [reticentref04_Same.l0, if_pos (by omega), lAt_some (by omega), bsome, bsome, if_pos rfl, wS (by omega)]
      exact ih (k + 1) (by omega)
  rw [show (0 : Int) = ((0 : Nat) : Int) from rfl, key a.length 0 (by omega)]; rfl
end Go.Proofs.Ytjkijjhjffodcaa.Par
