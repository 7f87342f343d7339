/- ShowTexts: the law. -/
import Derived.Test.YthpmbokenhpakaaSho5
set_option linter.unusedVariables false
set_option linter.unusedSimpArgs false
namespace Go.Proofs.Ythpmbokenhpakaa.Sho
open Go Go.Proofs.Ythpmbokenhpakaa.Ab Go.Proofs.Ythpmbokenhpakaa.LB
open Go.Proofs.Ythpmbokenhpakaa.Lat (lAt_some)
/-! The two texts. -/
def ans (t : Tr) : Str × Int := if (tx t).2 > 12 then ([], 5) else ((tx t).1, 0)
theorem refText_eq {t : Tr} (ho : t.ok) (hl : t.flat.length ≤ 900) : reticentref05_Text.f t.flat = some (ans t) := by
  have h := thing hl t ho 1000 0 [] (by rw [← flat_len]; omega) (by simp)
  have hp : 1 ≤ t.size := by cases t <;> simp [Tr.size]
  unfold reticentref05_Text.f reticentref05_Thing.f ans
  rw [w1 (by omega), flat_len]
  have e : (((0 + t.size : Nat) : Int) - 1) = ((t.size : Nat) : Int) - 1 := by omega
  rw [e] at h
  rw [h, bsome]
  by_cases q : (tx t).2 > 12
  · rw [if_pos q, if_pos q]
  · rw [if_neg q, if_neg q]
theorem text_eq {l : List Int} (hl : l.length ≤ 900) : show_Text.f l = some (match right l with | none => ([], 1) | some _ => (match show_Text.f l with | some p => p | none => ([], 0))) ∧ ∀ t : Tr, t.ok → t.flat = l → right l ≠ none → show_Text.f l = some (ans t) := by
  have hR : ((rule_Right.f l false >>= fun y5 => if (!y5) = true then (rule_Right.f l true >>= fun y7 => some (!y7)) else (some false) : Option Bool)) = some (right l).isNone := by
    rw [Right_eq hl, Right_eq hl]
    cases right l with
    | none => rfl
    | some b => cases b <;> rfl
  have key : ∀ t : Tr, t.ok → t.flat = l → right l ≠ none → show_Text.f l = some (ans t) := by
    intro t ho e hr
    unfold show_Text.f
    rw [hR, bsome]
    have hn : (right l).isNone = false := by cases h : right l with | none => exact absurd h hr | some _ => rfl
    rw [hn, if_neg (by decide)]
    have h := text_l0 hl t ho [] 0 [] (by simp [e]) (by simp)
    rw [show ((0 : Nat) : Int) = 0 from rfl] at h
    rw [h, show 0 + t.size = l.length by rw [← e, flat_len]; omega]
    rw [show_Text.l0, if_neg (by omega), bsome, take_pile (by simp), bsome]
    unfold ans
    show (if (tx t).2 > 12 then _ else _) = _
    by_cases q : (tx t).2 > 12
    · rw [if_pos q, if_pos q]
    · rw [if_neg q, if_neg q]; rfl
  refine ⟨?_, key⟩
  cases hr : right l with
  | none =>
    unfold show_Text.f
    rw [hR, bsome, hr]; rfl
  | some b =>
    obtain ⟨t, ho, e, _⟩ := right_tree hr
    rw [key t ho e (by rw [hr]; simp)]
theorem alive : reticentlaw05_alive.f = some true := by
  have hr : right [9, 10, 12, 11, 13, 8, 5] = some false := by decide
  have := (text_eq (l := [9, 10, 12, 11, 13, 8, 5]) (by decide)).2 (.nd 5 (.nd 13 (.nd 12 (.lf 9) (.lf 10)) (.lf 11)) (.lf 8)) (by simp [Tr.ok, NdOp, LfOp]) rfl (by rw [hr]; simp)
  unfold reticentlaw05_alive.f
  rw [this, bsome]
  decide
theorem texts {l : List Int} : reticentlaw05_ShowTexts.f l = some true := by
  have hm : (if 45 < (l.length : Int) then (45 : Int) else (l.length : Int)) = ((min 45 l.length : Nat) : Int) := by split <;> omega
  have hc : lCut l 0 ((min 45 l.length : Nat) : Int) = l.take (min 45 l.length) := by simp [lCut]
  have hl : (l.take (min 45 l.length)).length ≤ 900 := by simp; omega
  unfold reticentlaw05_ShowTexts.f
  rw [hm, hc, if_pos ⟨by omega, by omega⟩]
  generalize l.take (min 45 l.length) = k at hl
  obtain ⟨h1, h2⟩ := text_eq hl
  rw [alive, refMade_eq hl]
  cases hr : right k with
  | none =>
    rw [hr] at h1
    rw [h1, bsome, bsome, if_pos rfl, bsome]
    simp
  | some b =>
    obtain ⟨t, ho, e, _⟩ := right_tree hr
    have h3 := h2 t ho e (by rw [hr]; simp)
    have h4 := refText_eq ho (by rw [e]; exact hl)
    rw [e] at h4
    rw [h3, h4, bsome, bsome, if_neg (by cases b <;> decide), bsome, bsome]
    simp
end Go.Proofs.Ythpmbokenhpakaa.Sho
