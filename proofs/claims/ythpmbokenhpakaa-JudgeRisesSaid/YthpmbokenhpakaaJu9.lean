/- JudgeRises. -/
import Derived.Test.YthpmbokenhpakaaJu8
set_option linter.unusedVariables false
set_option linter.unusedSimpArgs false
namespace Go.Proofs.Ythpmbokenhpakaa.Jdg
open Go Go.Proofs.Ythpmbokenhpakaa.Ab Go.Proofs.Ythpmbokenhpakaa.LE
open Go.Proofs.Ythpmbokenhpakaa.Lat (lAt_some bAnd_nat bOr_nat bShr_nat)
open Classical
def rest (l : api_Lattice) (R L O : List Int) (k a4 : Int) : Option Bool :=
  rule_Uses.f R >>= fun y7 => if y7.2 = 0 then (judge_Cond.f l R L >>= fun y9 => judge_Cond.f l R O >>= fun y10 => ((if y9.2 = 0 then (if y10.2 = 0 then (if ¬ k < 0 then (if bAnd .u32 (bShr .u32 y7.1 k) 1 = 0 then (some (!decide (y9.1 = y10.1))) else (some false)) else none) else (some false)) else (some false) : Option Bool) >>= fun x15 => if x15 = true then (some false) else (judge_Label.f l R L >>= fun y21 => judge_Label.f l R O >>= fun y22 => ((if y21.2 = 0 then (some (!decide (y22.2 = 0))) else (some true) : Option Bool) >>= fun x24 => if x24 = true then (reticentlaw07_alive.f >>= fun y27 => some y27) else (lAt L k >>= fun y28 => lattice_Flows.f l y28 a4 >>= fun y29 => lattice_Flows.f l y21.1 y22.1 >>= fun y30 => ((reticentlaw07_alive.f >>= fun y41 => if y41 = true then (if y29.2 = 0 then (if y30.2 = 0 then (if ¬ k < 0 then (if bAnd .u32 (bShr .u32 y7.1 k) 1 = 1 then (if (!y29.1) = true then (some true) else (some y30.1)) else (if y21.1 = y22.1 then (if (!y29.1) = true then (some true) else (some y30.1)) else (some false))) else none) else (some false)) else (some false)) else (some false) : Option Bool) >>= fun x40 => some x40)))))) else (reticentlaw07_alive.f >>= fun y50 => some y50)
theorem set_labs {l : api_Lattice} {L : List Int} {K : Nat} {v : Int} (E : Je l L) (E' : Je l (L.set K v)) : (∀ i, i < 4 → i ≠ K → E'.labs i = E.labs i) ∧ (K < 4 → v = (E'.labs K : Int)) := by
  have h4 := E.hlen
  refine ⟨fun i hi hn => ?_, fun hK => ?_⟩
  · have h1 := (E.hlab i hi).1
    have h2 := (E'.hlab i hi).1
    rw [lAt_some (by simp; omega)] at h2
    rw [lAt_some (by omega)] at h1
    rw [List.getElem_set_ne (by omega)] at h2
    have e := Option.some.inj (h1.symm.trans h2)
    omega
  · have h2 := (E'.hlab K hK).1
    rw [lAt_some (by simp; omega)] at h2
    rw [List.getElem_set_self] at h2
    exact Option.some.inj h2
theorem rest_eq {l : api_Lattice} {U : List Nat} (h : Nm l U) {R L O : List Int} {K : Nat} {v : Int} (hR : R.length ≤ 900) (hL : L.length ≤ 900) (hK : K < 4) (h1 : L.length = 4 → O = L.set K v) (h2 : L.length ≠ 4 → O = L) : rest l R L O K v = some true := by
  have hO : O.length ≤ 900 := by
    by_cases q : L.length = 4
    · rw [h1 q]; simp; omega
    · rw [h2 q]; exact hL
  obtain ⟨u, hu, hbit, he⟩ := uses_eq hR
  have hk0 : ¬ ((K : Nat) : Int) < 0 := by omega
  have hshr := bit_is hu hK
  rw [hbit K hK] at hshr
  unfold rest
  rw [he]
  cases hq : right R with
  | none => 
    rw [bsome, alive]
    dsimp only
    rw [if_neg (by decide)]; rfl
  | some b =>
    rw [bsome]
    show (if (0 : Int) = 0 then _ else _) = _
    rw [if_pos rfl]
    obtain ⟨t, ho, hs, hf, _⟩ := right_wf hq
    have two : ∀ b, mayS l U R L b = 0 → mayS l U R O b = 0 → L.length = 4 ∧ O = L.set K v ∧ chk l U = 0 ∧ L.all (inn U.length) = true ∧ O.length = 4 ∧ O.all (inn U.length) = true := by
      intro b p q
      obtain ⟨hc, _, p4, pa⟩ := mayS_zero p
      obtain ⟨_, _, q4, qa⟩ := mayS_zero q
      exact ⟨p4, h1 p4, hc, pa, q4, qa⟩
    cases b with
    | false =>
      have n1 : mayS l U R L true ≠ 0 := by intro q; have := (mayS_zero q).2.1; rw [hq] at this; cases this
      have n2 : mayS l U R O true ≠ 0 := by intro q; have := (mayS_zero q).2.1; rw [hq] at this; cases this
      rw [label_no h hR hL n1, label_no h hR hO n2, alive]
      by_cases q1 : mayS l U R L false = 0
      · by_cases q2 : mayS l U R O false = 0
        · obtain ⟨p4, rfl, hc, pa, p4', pb⟩ := two _ q1 q2
          obtain ⟨E, E', e1, e2, e3, e4, e5, e6, e7, e8, _, _⟩ := je_two h hc p4 pa p4' pb
          subst hf
          rw [cond_is h E ho hs hR hL q1, cond_is h E' ho hs hR hO q2]
          simp only [bsome, if_true, if_neg n1, if_neg hk0, not_false_eq_true, hshr]
          cases hn : names t.flat K with
          | true => simp
          | false =>
            have := (ev_same E E' (by rw [e3, e4]) e5 e6 e7 e8 (set_labs E E').1 ho hn).2 hs
            simp [this]
        · rw [cond_no h hR hO q2]
          obtain ⟨E, t, _, _, _, _, a1, a2⟩ := cond_yes h hR hL q1
          rw [a1]
          simp only [bsome, if_neg q2, if_neg n1, if_true]
          simp
      · rw [cond_no h hR hL q1]
        simp only [bsome, if_neg q1, if_neg n1, if_true]
        by_cases q2 : mayS l U R O false = 0
        · obtain ⟨E, t, _, _, _, _, a1, a2⟩ := cond_yes h hR hO q2
          rw [a1]; simp
        · rw [cond_no h hR hO q2]; simp
    | true =>
      have n1 : mayS l U R L false ≠ 0 := by intro q; have := (mayS_zero q).2.1; rw [hq] at this; cases this
      have n2 : mayS l U R O false ≠ 0 := by intro q; have := (mayS_zero q).2.1; rw [hq] at this; cases this
      rw [cond_no h hR hL n1, cond_no h hR hO n2, alive]
      simp only [bsome, if_neg n1, if_true, if_neg (show ¬ (false = true) by decide)]
      by_cases q1 : mayS l U R L true = 0
      · by_cases q2 : mayS l U R O true = 0
        · obtain ⟨p4, rfl, hc, pa, p4', pb⟩ := two _ q1 q2
          obtain ⟨E, E', e1, e2, e3, e4, e5, e6, e7, e8, hJ, hM⟩ := je_two h hc p4 pa p4' pb
          subst hf
          have s1 := label_is h E ho hs hR hL q1
          have s2 := label_is h E' ho hs hR hO q2
          have lv := (set_labs E E').2 hK
          have hbt := ev_lt E ho hs
          have hbt' := ev_lt E' ho hs
          rw [e1] at hbt
          rw [e2] at hbt'
          have lK := (E.hlab K hK).2
          have lK' := (E'.hlab K hK).2
          rw [e1] at lK
          rw [e2] at lK'
          rw [s1, s2]
          simp only [bsome, if_true, decide_true, Bool.not_true, if_neg (show ¬ (false = true) by decide)]
          have hy := (yes2 h hc lK lK').1
          rw [← lv] at hy
          rw [(E.hlab K hK).1, bsome, hy, bsome, (yes2 h hc hbt hbt').1, bsome]
          simp only [if_true, if_neg hk0, not_false_eq_true, hshr]
          have mono : le U (E.labs K) (E'.labs K) = true → le U (ev E t).2 (ev E' t).2 = true := by
            intro hle
            obtain ⟨_, hO, _⟩ := chk_zero hc
            refine ev_mono E E' hO e1 e2 e5 e6 e7 e8 hJ hM (fun i hi => ?_) ho hs
            by_cases q : i = K
            · subst q; exact hle
            · rw [(set_labs E E').1 i hi q]
              exact hO.refl _ (by rw [← e1]; exact (E.hlab i hi).2)
          have fin : ∀ x y : Bool, (x = true → y = true) → ((if (!x) = true then some true else some y : Option Bool) >>= fun x40 => some x40) = some true := by
            intro x y hxy
            cases x with
            | false => rfl
            | true => rw [hxy rfl]; rfl
          cases hn : names t.flat K with
          | true =>
            rw [if_pos hk0, if_pos rfl, if_pos rfl]
            exact fin _ _ mono
          | false =>
            have := (ev_same E E' (by rw [e3, e4]) e5 e6 e7 e8 (set_labs E E').1 ho hn).1 hs
            rw [if_pos hk0, if_neg (show ¬ ((if false = true then (1 : Int) else 0) = 1) by decide), if_pos (show ((ev E t).2 : Int) = ((ev E' t).2 : Int) by rw [this])]
            exact fin _ _ mono
        · rw [label_no h hR hO q2]
          obtain ⟨E, t, _, _, _, _, a1, a2⟩ := label_yes h hR hL q1
          rw [a1]
          simp [q2, bsome]
      · rw [label_no h hR hL q1]
        simp only [bsome, if_neg q1, if_true]
        by_cases q2 : mayS l U R O true = 0
        · obtain ⟨E, t, _, _, _, _, a1, a2⟩ := label_yes h hR hO q2
          rw [a1]; simp
        · rw [label_no h hR hO q2]; simp
theorem rises {l : api_Lattice} {r labels : List Int} {a3 a4 : Int} (hl : ∃ H cs, (kR f_api_Lattice).reps H cs l) : reticentlaw07_JudgeRises.f l r labels a3 a4 = some true := by
  obtain ⟨l', U, hf, h⟩ := few_eq hl
  have hm : (if 45 < (r.length : Int) then (45 : Int) else (r.length : Int)) = ((min 45 r.length : Nat) : Int) := by split <;> omega
  have hm2 : (if 4 < (labels.length : Int) then (4 : Int) else (labels.length : Int)) = ((min 4 labels.length : Nat) : Int) := by split <;> omega
  have hc1 : lCut r 0 ((min 45 r.length : Nat) : Int) = r.take (min 45 r.length) := by simp [lCut]
  have hc2 : lCut labels 0 ((min 4 labels.length : Nat) : Int) = labels.take (min 4 labels.length) := by simp [lCut]
  have hr : (r.take (min 45 r.length)).length ≤ 900 := by simp; omega
  have hb : (labels.take (min 4 labels.length)).length ≤ 900 := by simp; omega
  obtain ⟨K, hK, hKe⟩ := modn (a := a3)
  unfold reticentlaw07_JudgeRises.f
  rw [show (⟨l.Names, l.Up⟩ : api_Lattice) = l from rfl, hf, bsome, hm, hm2, hc1, hc2, if_pos ⟨by omega, by omega⟩, if_pos ⟨by omega, by omega⟩, hKe]
  have eta : (⟨l'.Names, l'.Up⟩ : api_Lattice) = l' := rfl
  rw [eta]
  generalize r.take (min 45 r.length) = R at hr
  generalize labels.take (min 4 labels.length) = L at hb
  rw [clone_eq hb, bsome]
  by_cases h4 : L.length = 4
  · rw [if_pos (show (L.length : Int) = 4 by omega), lAt_some (show K < L.length by omega), bsome, Int.toNat_natCast]
    have q := rest_eq (v := a4) h hr hb hK (fun _ => rfl) (fun q => absurd h4 q)
    unfold rest at q
    rw [lAt_some (show K < L.length by omega)] at q
    exact q
  · rw [if_neg (show ¬ (L.length : Int) = 4 by omega)]
    have q := rest_eq (v := a4) h hr hb hK (fun q => absurd q h4) (fun _ => rfl)
    unfold rest at q
    exact q
end Go.Proofs.Ythpmbokenhpakaa.Jdg
