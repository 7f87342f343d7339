/- RuleRight, RuleTold, ShowBack. -/
import Derived.Test.YthpmbokenhpakaaPa5
import Derived.Test.YthpmbokenhpakaaPr6
import Derived.Test.YthpmbokenhpakaaPr7
set_option linter.unusedVariables false
set_option linter.unusedSimpArgs false
namespace Go.Proofs.Ythpmbokenhpakaa.Par
open Go Go.Proofs.Ythpmbokenhpakaa.Ab Go.Proofs.Ythpmbokenhpakaa.LF
open Go.Proofs.Ythpmbokenhpakaa.Lat (lAt_some)
/-! A tree, written and read. -/
theorem size_flat {t : Tr} {l : List Int} (h : t.flat = l) : t.size = l.length := by rw [← h, flat_len]
theorem written {t : Tr} (hw : t.wf) (hs : t.size ≤ 40) (hd : (tx t).2 ≤ 12) : ∃ ts : List api_Tok, lex_Lex.f (tx t).1 = some (ts ++ [⟨0, [], ((tx t).1.length : Int)⟩], 0, 0) ∧ ts.map kt = tk t ∧ Der (kOf t.sort) 12 ts t ∧
    rule_From.f (ts ++ [⟨0, [], ((tx t).1.length : Int)⟩]) 0 t.sort = some (t.flat, (ts.length : Int), 0) := by
  have hk := tk_len t
  have hl := (tx_len t).1
  have hlx : LexTo (tx t).1 (tk t) := by
    have := tx_lex (wf_ok hw) sep_nil LexTo.nil
    simpa using this
  obtain ⟨ts, e1, e2⟩ := lex_eq hlx (by omega) (by omega)
  have hD := tk_der hw ts e2
  have hD2 := top_der (ok_op (wf_ok hw)) hD
  rw [← sort_op (wf_ok hw)] at hD2
  have hD3 := der_mono hD2 (d' := 12) (by omega)
  refine ⟨ts, e1, e2, hD3, ?_⟩
  have hlen : ts.length = (tk t).length := by rw [← e2]; simp
  have hp := der_len hD3
  have hM : May (ts ++ [⟨0, [], ((tx t).1.length : Int)⟩]) 0 := by
    refine ⟨by omega, by simp, fun j hj hj1 => ?_⟩
    have : j = ts.length := by simp at hj1; omega
    subst this
    simp
  have := from_der (l := ts ++ [⟨0, [], ((tx t).1.length : Int)⟩]) (i := 0) (by simp; omega) hM hD3 hs (r := []) (z := ⟨0, [], ((tx t).1.length : Int)⟩) (by simp) (zero_stops rfl)
  rw [this]; simp
theorem alive05 : reticentlaw05_alive.f = some true := by
  have hr : right [9, 10, 12, 11, 13, 8, 5] = some false := by decide
  have := (Psh.text_eq (l := [9, 10, 12, 11, 13, 8, 5]) (by decide)).2 (.nd 5 (.nd 13 (.nd 12 (.lf 9) (.lf 10)) (.lf 11)) (.lf 8)) (by simp [Tr.ok, NdOp, LfOp]) rfl (by rw [hr]; simp)
  unfold reticentlaw05_alive.f
  rw [this, bsome]
  decide
theorem alive04 : reticentlaw04_alive.f = some true := by
  have hw : (Tr.nd 5 (.nd 12 (.lf 9) (.lf 10)) (.lf 8)).wf := by simp [Tr.wf, NdOp, LfOp, Tr.sort]
  obtain ⟨ts, e1, e2, _, e3⟩ := written hw (by decide) (by decide)
  have ht : (tx (Tr.nd 5 (.nd 12 (.lf 9) (.lf 10)) (.lf 8))).1 = [111, 110, 101, 32, 106, 111, 105, 110, 32, 116, 119, 111, 32, 60, 61, 32, 112, 99] := by decide
  have hlen : ts.length = 5 := by
    have := congrArg List.length e2
    rw [List.length_map] at this
    rw [this]; decide
  rw [ht] at e1 e3
  unfold reticentlaw04_alive.f
  rw [e1, bsome]
  show (rule_From.f _ 0 false >>= _) = _
  have e3' : rule_From.f (ts ++ [⟨0, [], (([111, 110, 101, 32, 106, 111, 105, 110, 32, 116, 119, 111, 32, 60, 61, 32, 112, 99] : Str).length : Int)⟩]) 0 false = some ([9, 10, 12, 8, 5], ((5 : Nat) : Int), 0) := by
    rw [← hlen]; exact e3
  rw [e3', bsome]
  have hs := same_refl (a := [9, 10, 12, 8, 5]) (by decide)
  simp only [if_true]
  rw [if_pos (by decide), hs]; rfl
theorem showBack {l : List Int} : reticentlaw05_ShowBack.f l = some true := by
  have hm : (if 45 < (l.length : Int) then (45 : Int) else (l.length : Int)) = ((min 45 l.length : Nat) : Int) := by split <;> omega
  have hc : lCut l 0 ((min 45 l.length : Nat) : Int) = l.take (min 45 l.length) := by simp [lCut]
  have hl : (l.take (min 45 l.length)).length ≤ 900 := by simp; omega
  unfold reticentlaw05_ShowBack.f
  rw [hm, hc, if_pos ⟨by omega, by omega⟩, alive05]
  generalize l.take (min 45 l.length) = k at hl
  obtain ⟨h1, h2⟩ := Psh.text_eq hl
  cases hr : right k with
  | none =>
    rw [hr] at h1
    rw [h1, bsome]
    show (if (1 : Int) = 0 then _ else _) = _
    rw [if_neg (by decide)]; rfl
  | some b =>
    obtain ⟨t, hw, hs, hf, h40⟩ := right_wf hr
    have h3 := h2 t (wf_ok hw) hf (by rw [hr]; simp)
    rw [h3, bsome]
    unfold Psh.ans
    by_cases q : (tx t).2 > 12
    · rw [if_pos q]
      show (if (5 : Int) = 0 then _ else _) = _
      rw [if_neg (by decide)]; rfl
    · rw [if_neg q]
      show (if (0 : Int) = 0 then (lex_Lex.f (tx t).1 >>= _) else _) = _
      rw [if_pos rfl]
      have hsz := size_flat hf
      obtain ⟨ts, e1, e2, _, e3⟩ := written hw (by omega) (by omega)
      rw [e1, bsome, Right_eq hl, bsome, hr]
      have hb : decide (some b = some true) = t.sort := by rw [hs]; cases b <;> rfl
      rw [hb]
      show (rule_From.f (ts ++ [_]) 0 t.sort >>= _) = _
      rw [e3, bsome, bsome]
      have hk := tk_len t
      have hlen : ts.length = (tk t).length := by rw [← e2]; simp
      have hi : (ts.length : Int) = IntKind.i64.wrap (((ts ++ [⟨0, [], ((tx t).1.length : Int)⟩] : List api_Tok).length : Int) - 1) := by
        rw [wrapZ (by simp <;> omega) (by simp <;> omega)]; simp
      dsimp only
      rw [if_pos rfl, if_pos rfl, if_pos rfl, if_pos hi, hf, same_refl (by omega)]; rfl
/-! RuleRight. -/
theorem has_eq {R : List Int} {j : Nat} (hR : R.length ≤ 900) (hj : j < 4) : reticentref04_Has.f R (j : Int) = some (names R j) := by
  have hw : IntKind.i64.wrap (8 + (j : Int)) = 8 + (j : Int) := wrapZ (by omega) (by omega)
  have key : ∀ (d k : Nat), R.length = k + d → reticentref04_Has.l0 R (j : Int) (k : Int) = some (if names (R.drop k) j = true then .inl true else .inr ()) := by
    intro d
    induction d with
    | zero =>
      intro k hk
      rw [reticentref04_Has.l0, if_neg (by omega), List.drop_of_length_le (by omega)]; rfl
    | succ d ih =>
      intro k hk
      have hk' : k < R.length := by omega
      rw [reticentref04_Has.l0, if_pos (by omega), lAt_some hk', bsome, hw, List.drop_eq_getElem_cons hk', wS (by omega), ih (k + 1) (by omega)]
      unfold names
      rw [List.any_cons]
      by_cases q : R[k] = 8 + (j : Int)
      · rw [if_pos q, decide_eq_true q]; rfl
      · rw [if_neg q, decide_eq_false q, Bool.false_or]
  unfold reticentref04_Has.f
  rw [show (0 : Int) = ((0 : Nat) : Int) from rfl, key R.length 0 (by omega), bsome, List.drop_zero]
  cases names R j <;> rfl
theorem bits4 : ∀ u : Nat, u < 16 → u = (u.testBit 0).toNat + 2 * (u.testBit 1).toNat + 4 * (u.testBit 2).toNat + 8 * (u.testBit 3).toNat := by decide
theorem refUses_eq {R : List Int} (hR : R.length ≤ 900) {u : Nat} (hu : u < 16) (hb : ∀ j, j < 4 → u.testBit j = names R j) : reticentref04_Uses.f R = some (u : Int) := by
  unfold reticentref04_Uses.f
  rw [bits4 u hu, hb 0 (by omega), hb 1 (by omega), hb 2 (by omega), hb 3 (by omega)]
  have h0 := has_eq hR (show 0 < 4 by omega)
  have h1 := has_eq hR (show 1 < 4 by omega)
  have h2 := has_eq hR (show 2 < 4 by omega)
  have h3 := has_eq hR (show 3 < 4 by omega)
  generalize names R 0 = b0 at *
  generalize names R 1 = b1 at *
  generalize names R 2 = b2 at *
  generalize names R 3 = b3 at *
  have w1 : IntKind.i64.wrap ((0 : Int) + 1) = ((1 : Nat) : Int) := by decide
  have w2 : IntKind.i64.wrap (((1 : Nat) : Int) + 1) = ((2 : Nat) : Int) := by decide
  have w3 : IntKind.i64.wrap (((2 : Nat) : Int) + 1) = ((3 : Nat) : Int) := by decide
  have w4 : IntKind.i64.wrap (((3 : Nat) : Int) + 1) = ((4 : Nat) : Int) := by decide
  have h0' : reticentref04_Has.f R 0 = some b0 := h0
  cases b0 <;> cases b1 <;> cases b2 <;> cases b3 <;>
    (rw [reticentref04_Uses.l0, if_pos (by decide), h0', bsome]
     simp only [if_true, if_false, Bool.false_eq_true, bsome]
     rw [w1, reticentref04_Uses.l0, if_pos (by decide), h1, bsome]
     simp only [if_true, if_false, Bool.false_eq_true, bsome]
     rw [w2, reticentref04_Uses.l0, if_pos (by decide), h2, bsome]
     simp only [if_true, if_false, Bool.false_eq_true, bsome]
     rw [w3, reticentref04_Uses.l0, if_pos (by decide), h3, bsome]
     simp only [if_true, if_false, Bool.false_eq_true, bsome]
     rw [w4, reticentref04_Uses.l0, if_neg (by decide), bsome]
     rfl)
theorem refRight_eq {r : List Int} {b : Bool} (hr : r.length ≤ 900) : reticentref04_Right.f r b = some (decide (right r = some b)) := by
  unfold reticentref04_Right.f
  rw [refMade_eq hr]
  cases b <;> cases hq : right r with
  | none => rfl
  | some c => cases c <;> rfl
theorem ruleRight {l : List Int} {b : Bool} : reticentlaw04_RuleRight.f l b = some true := by
  have hm : (if 45 < (l.length : Int) then (45 : Int) else (l.length : Int)) = ((min 45 l.length : Nat) : Int) := by split <;> omega
  have hc : lCut l 0 ((min 45 l.length : Nat) : Int) = l.take (min 45 l.length) := by simp [lCut]
  have hl : (l.take (min 45 l.length)).length ≤ 900 := by simp; omega
  unfold reticentlaw04_RuleRight.f
  rw [hm, hc, if_pos ⟨by omega, by omega⟩, alive04]
  generalize l.take (min 45 l.length) = k at hl
  obtain ⟨u, hu, hbit, he⟩ := uses_eq hl
  rw [he, Right_eq hl, refRight_eq hl, refMade_eq hl]
  simp only [bsome, if_true]
  cases hr : right k with
  | none => simp
  | some c =>
    have := refUses_eq hl hu hbit
    cases c <;> simp [code, this, bsome]
/-! RuleTold. -/
theorem few_l0 {l : List api_Tok} (m : Nat) (hm : (if 150 < (l.length : Int) then (150 : Int) else (l.length : Int)) = (m : Int)) (hml : m ≤ l.length) (hm150 : m ≤ 150) :
    ∀ (d k : Nat) (acc : List api_Tok), m = k + d → acc.length = k → ∃ r, reticentlaw04_few.l0 l acc (k : Int) = some r ∧ r.length ≤ 150
  | 0, k, acc, e, ha => by
    have hlen : (lCut l 0 (m : Int)).length = m := by simp [lCut]; omega
    exact ⟨acc, by rw [reticentlaw04_few.l0, hm, hlen, if_neg (by omega)], by omega⟩
  | d + 1, k, acc, e, ha => by
    have hlen : (lCut l 0 (m : Int)).length = m := by simp [lCut]; omega
    have hk : k < (lCut l 0 (m : Int)).length := by omega
    rw [reticentlaw04_few.l0, hm, if_pos (by omega), lAt_some hk, bsome]
    generalize (lCut l 0 (m : Int))[k] = t
    have hm2 : (if 20 < (t.Text.length : Int) then (20 : Int) else (t.Text.length : Int)) = ((min 20 t.Text.length : Nat) : Int) := by split <;> omega
    have hB : 1000000 ≤ big := by decide
    rw [hm2, if_pos ⟨by omega, by omega⟩, if_pos (by simp; omega), wS (by omega)]
    exact few_l0 m hm hml hm150 d (k + 1) _ (by omega) (by simp [ha])
theorem few_eq {l : List api_Tok} : ∃ r, reticentlaw04_few.f l = some r ∧ r.length ≤ 150 := by
  have hm : (if 150 < (l.length : Int) then (150 : Int) else (l.length : Int)) = ((min 150 l.length : Nat) : Int) := by split <;> omega
  obtain ⟨r, e, h⟩ := few_l0 (min 150 l.length) hm (by omega) (by omega) (min 150 l.length) 0 [] (by omega) rfl
  refine ⟨r, ?_, h⟩
  unfold reticentlaw04_few.f
  have e' : reticentlaw04_few.l0 l [] 0 = some r := e
  rw [e', if_pos (by rw [hm]; constructor <;> omega)]; rfl
theorem ruleTold {l : List api_Tok} {i : Int} {b : Bool} : reticentlaw04_RuleTold.f l i b = some true := by
  obtain ⟨L, e, hL⟩ := few_eq (l := l)
  unfold reticentlaw04_RuleTold.f
  rw [e, bsome, alive04]
  obtain ⟨x, j, er, hF, hne, heq⟩ := from_any (l := L) (i := i) (b := b) (by omega)
  rw [hF, bsome]
  by_cases h0 : er = 0
  · subst h0
    obtain ⟨hM, hij, hjl, w, t, hd, hD, hx, hs⟩ := heq rfl
    subst hx
    have hi0 := hM.i0
    have hfl : t.flat.length ≤ 900 := by rw [flat_len]; omega
    have hrt := right_der hD hs
    rw [kOf_sort] at hrt
    show (if (0 : Int) = 0 then _ else _) = _
    rw [if_pos rfl]
    show ((rule_Right.f t.flat b >>= _) >>= _) = _
    rw [Right_eq hfl, bsome, hrt, decide_eq_true rfl, if_neg (by simp)]
    show ((rule_Right.f t.flat (!b) >>= _) >>= _) = _
    rw [Right_eq hfl, bsome, hrt, decide_eq_false (by cases b <;> simp), if_neg (by simp)]
    show ((if j ≤ i then _ else _) >>= _) = _
    rw [if_neg (by omega), bsome]
    show (if decide (j ≥ (L.length : Int)) = true then _ else _) = _
    rw [if_neg (by simp; omega), if_pos ⟨hi0, by show i ≤ j; omega, by show j ≤ (L.length : Int); omega⟩]
    have hwl : w.length = j.toNat - i.toNat := by
      have := congrArg List.length hd
      simp at this; omega
    have hcut : lCut L i j = w := by
      unfold lCut
      rw [hd, ← hwl, List.take_left]
    have hB : 1000000 ≤ big := by decide
    show (if (([] : List api_Tok).length + (lCut L i j).length) * 32 ≤ big then _ else _) = _
    rw [hcut, if_pos (by simp; omega), if_pos (by simp; omega), List.nil_append]
    have hwp := der_len hD
    have hM2 : May (w ++ [⟨0, [], 0⟩]) 0 := by
      refine ⟨by omega, by simp, fun q hq hq1 => ?_⟩
      have : q = w.length := by simp at hq1; omega
      subst this
      simp
    have hF2 := from_der (l := w ++ [⟨0, [], 0⟩]) (i := 0) (b := b) (by simp; omega) hM2 hD hs (r := []) (z := ⟨0, [], 0⟩) (by simp) (zero_stops rfl)
    rw [hF2, bsome, bsome]
    have hj : (0 : Int) + w.length = IntKind.i64.wrap (j - i) := by rw [wrapZ (by omega) (by omega)]; omega
    show ((if true = true then (if (0 : Int) = 0 then (if (0 : Int) + (w.length : Int) = IntKind.i64.wrap (j - i) then (reticentref04_Same.f t.flat t.flat >>= _) else _) else _) else _) >>= _) = _
    rw [if_pos rfl, if_pos rfl, if_pos hj, same_refl (by omega)]; rfl
  · show (if er = 0 then _ else _) = _
    rw [if_neg h0]
    have := hne h0
    subst this
    rfl
end Go.Proofs.Ythpmbokenhpakaa.Par
