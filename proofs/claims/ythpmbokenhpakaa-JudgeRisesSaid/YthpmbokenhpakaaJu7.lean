/- JudgeComes. -/
import Derived.Test.YthpmbokenhpakaaJu6
set_option linter.unusedVariables false
set_option linter.unusedSimpArgs false
namespace Go.Proofs.Ythpmbokenhpakaa.Jdg
open Go Go.Proofs.Ythpmbokenhpakaa.Ab Go.Proofs.Ythpmbokenhpakaa.LE
open Go.Proofs.Ythpmbokenhpakaa.Lat (lAt_some)
open Classical
theorem je_of {l : api_Lattice} {U : List Nat} (h : Nm l U) (hc : chk l U = 0) {labels : List Int} (h4 : labels.length = 4) (ha : labels.all (inn U.length) = true) : ∃ E : Je l labels, E.n = U.length := by
  obtain ⟨hm, hO, _⟩ := chk_zero hc
  obtain ⟨J, hJ⟩ := J_is hc
  obtain ⟨M, hM⟩ := M_is hc
  obtain ⟨b, ⟨b1, _⟩, b2, b3⟩ := bot_same h hc
  obtain ⟨t, ⟨t1, _⟩, t2, t3⟩ := top_same h hc
  have hl : ∀ i : Nat, i < 4 → ∃ k : Nat, lAt labels (i : Int) = some (k : Int) ∧ k < U.length := by
    intro i hi
    have hi' : i < labels.length := by omega
    obtain ⟨k, e, hk⟩ := inn_nat (List.all_eq_true.1 ha _ (List.getElem_mem hi'))
    exact ⟨k, by rw [lAt_some hi', e], hk⟩
  refine ⟨⟨U.length, le U, J, M, b, t, fun i => if hi : i < 4 then (hl i hi).choose else 0, ⟨b1, b2, b3⟩, ⟨t1, t2, t3⟩, fun x y hx hy => ?_, fun x y hx hy => ?_, fun x y hx hy => ?_, h4, fun i hi => ?_⟩, rfl⟩
  · obtain ⟨e1, e2, e3, e4, e5, e6⟩ := yes2 h hc hx hy
    exact ⟨e1, e4⟩
  · obtain ⟨e1, e2, e3, e4, e5, e6⟩ := yes2 h hc hx hy
    rw [(hJ x y hx hy).1] at e2 e5
    exact ⟨(hJ x y hx hy).2.1, e2, e5⟩
  · obtain ⟨e1, e2, e3, e4, e5, e6⟩ := yes2 h hc hx hy
    rw [(hM x y hx hy).1] at e3 e6
    exact ⟨(hM x y hx hy).2.1, e3, e6⟩
  · have := (hl i hi).choose_spec
    simp only [hi, dif_pos]
    exact this
def okL (n : Nat) (labels : List Int) : Bool := decide (labels.length = 4) && labels.all (inn n)
noncomputable def mayS (l : api_Lattice) (U : List Nat) (r : List Int) (labels : List Int) (b : Bool) : Int :=
  if chk l U = 0 then (if right r = some b then (if okL U.length labels = true then 0 else 9) else 1) else chk l U
theorem odd_eq {l : api_Lattice} {U : List Nat} (h : Nm l U) (x : Int) : judge_may_1.f x l = some (!inn U.length x) := by
  unfold judge_may_1.f inn
  rw [h.n]
  by_cases h1 : x < 0
  · have h1' : ¬ 0 ≤ x := by omega
    simp [h1, h1']
  · have h1' : 0 ≤ x := by omega
    by_cases h2 : x < (U.length : Int)
    · have h2' : ¬ x ≥ (U.length : Int) := by omega
      simp [h1, h1', h2, h2']
    · have h2' : x ≥ (U.length : Int) := by omega
      simp [h1, h1', h2, h2']
theorem may_eq {l : api_Lattice} {U : List Nat} (h : Nm l U) {r labels : List Int} {b : Bool} (hr : r.length ≤ 900) (hl : labels.length ≤ 900) : judge_may.f l r labels b = some (mayS l U r labels b) := by
  unfold judge_may.f mayS
  rw [check_eq h, bsome, Right_eq hr]
  by_cases hc : chk l U = 0
  · rw [if_pos hc, if_pos hc, bsome]
    by_cases hq : right r = some b
    · rw [decide_eq_true hq, if_neg (by decide), if_pos hq]
      rw [containsF_eq (g := fun z0 => judge_may_1.f z0 l) (p := fun a => !inn U.length a) (odd_eq h) (by omega)]
      have : labels.any (fun a => !inn U.length a) = !labels.all (inn U.length) := by rw [List.not_all_eq_any_not]
      rw [this]
      unfold okL
      by_cases h4 : labels.length = 4
      · have h4' : (labels.length : Int) = 4 := by omega
        rw [if_pos h4', bsome, bsome, decide_eq_true h4]
        cases labels.all (inn U.length) <;> rfl
      · have h4' : ¬ (labels.length : Int) = 4 := by omega
        rw [if_neg h4', bsome, decide_eq_false h4]; rfl
    · rw [decide_eq_false hq, if_pos (show (!false) = true from rfl), if_neg hq]
  · rw [if_neg hc, if_neg hc]
theorem refRight_eq {r : List Int} {b : Bool} (hr : r.length ≤ 900) : reticentref04_Right.f r b = some (decide (right r = some b)) := by
  unfold reticentref04_Right.f
  rw [refMade_eq hr]
  cases b <;> cases hq : right r with
  | none => rfl
  | some c => cases c <;> rfl
theorem refMay_loop {l : api_Lattice} {U : List Nat} (h : Nm l U) {labels : List Int} (hl : labels.length ≤ 900) : reticentref07_May.l0 l labels 0 = some (if labels.all (inn U.length) = true then .inr () else .inl 9) := by
  have key : reticentref07_May.l0 l labels 0 = some (out (fstOf labels.length fun k => if !inn U.length (labels.getD k 0) then some (9 : Int) else none)) := by
    refine search (fun k => reticentref07_May.l0 l labels k) labels.length _ ?_ ?_
    · show reticentref07_May.l0 l labels (labels.length : Int) = _
      rw [reticentref07_May.l0, if_neg (by omega)]
    · intro k hk
      show reticentref07_May.l0 l labels (k : Int) = _
      have hx := odd_eq h labels[k]
      unfold judge_may_1.f at hx
      have hx' : ((if labels[k] < 0 then (some true) else (some (decide (labels[k] ≥ (l.Up.length : Int)))) : Option Bool)) = some (!inn U.length labels[k]) := by
        generalize ((if labels[k] < 0 then (some true) else (some (decide (labels[k] ≥ (l.Up.length : Int)))) : Option Bool)) = z at hx ⊢
        cases z with
        | none => exact hx
        | some v => exact hx
      have e : labels.getD k 0 = labels[k] := by simp [hk]
      rw [reticentref07_May.l0, if_pos (by omega), lAt_some hk, bsome, hx', bsome, step1 (by omega) hk, e]
      cases inn U.length labels[k] <;> rfl
  rw [key, fst_bool]
  have e : (∃ k, k < labels.length ∧ (!inn U.length (labels.getD k 0)) = true) ↔ ¬ labels.all (inn U.length) = true := by
    rw [List.all_eq_true]
    constructor
    · rintro ⟨k, hk, q⟩ q2
      have := q2 labels[k] (List.getElem_mem hk)
      simp [hk, this] at q
    · intro q
      apply Classical.byContradiction
      intro q2
      apply q
      intro x hx
      obtain ⟨k, hk, rfl⟩ := List.getElem_of_mem hx
      cases q3 : inn U.length labels[k] with
      | true => rfl
      | false => exact absurd ⟨k, hk, by simp [hk, q3]⟩ q2
  simp only [e]
  by_cases q : labels.all (inn U.length) = true
  · rw [if_pos q, decide_eq_false (fun k => k q)]; rfl
  · rw [if_neg q, decide_eq_true q]; rfl
theorem refMay_eq {l : api_Lattice} {U : List Nat} (h : Nm l U) {r labels : List Int} {b : Bool} (hr : r.length ≤ 900) (hl : labels.length ≤ 900) : reticentref07_May.f l r labels b = some (mayS l U r labels b) := by
  unfold reticentref07_May.f mayS
  rw [refCheck_eq h, bsome, refRight_eq hr]
  by_cases hc : chk l U = 0
  · rw [if_pos hc, if_pos hc, bsome]
    by_cases hq : right r = some b
    · rw [decide_eq_true hq, if_neg (by decide), if_pos hq, refMay_loop h hl, bsome]
      unfold okL
      by_cases ha : labels.all (inn U.length) = true
      · rw [if_pos ha, ha]
        by_cases h4 : labels.length = 4
        · have h4' : (labels.length : Int) = 4 := by omega
          simp only [if_pos h4', decide_eq_true h4]; rfl
        · have h4' : ¬ (labels.length : Int) = 4 := by omega
          simp only [if_neg h4', decide_eq_false h4]; rfl
      · have ha' : labels.all (inn U.length) = false := by simpa using ha
        rw [if_neg ha, ha']
        cases decide (labels.length = 4) <;> rfl
    · rw [decide_eq_false hq, if_pos (show (!false) = true from rfl), if_neg hq]
  · rw [if_neg hc, if_neg hc]
theorem mayS_zero {l : api_Lattice} {U : List Nat} {r labels : List Int} {b : Bool} (h : mayS l U r labels b = 0) : chk l U = 0 ∧ right r = some b ∧ labels.length = 4 ∧ labels.all (inn U.length) = true := by
  unfold mayS at h
  by_cases hc : chk l U = 0
  · rw [if_pos hc] at h
    by_cases hq : right r = some b
    · rw [if_pos hq] at h
      by_cases ho : okL U.length labels = true
      · unfold okL at ho
        rw [Bool.and_eq_true, decide_eq_true_iff] at ho
        exact ⟨hc, hq, ho.1, ho.2⟩
      · rw [if_neg ho] at h; cases h
    · rw [if_neg hq] at h; cases h
  · rw [if_neg hc] at h; exact absurd h hc
/-- What Cond and Label answer, and what the reference judges. -/
theorem cond_yes {l : api_Lattice} {U : List Nat} (h : Nm l U) {r labels : List Int} (hr : r.length ≤ 900) (hl : labels.length ≤ 900) (hm : mayS l U r labels false = 0) :
    ∃ (E : Je l labels) (t : Tr), E.n = U.length ∧ t.wf ∧ t.sort = false ∧ t.flat = r ∧ judge_Cond.f l r labels = some ((ev E t).1, 0) ∧ reticentref07_Judge.f l r labels = some ⟨(ev E t).1, 0, 0⟩ := by
  obtain ⟨hc, hq, h4, ha⟩ := mayS_zero hm
  obtain ⟨E, hE⟩ := je_of h hc h4 ha
  obtain ⟨t, ho, hs, hf, _⟩ := right_wf hq
  have h1 := comes_eq E ho (by rw [hf]; exact hr)
  have h2 := judge_ref E ho (by rw [hf]; exact hr)
  rw [hf] at h1 h2
  have hv : val E t = .c110 (ev E t).1 := by unfold val; rw [hs]; rfl
  have hi : vis E t = (ev E t).1 := by unfold vis; rw [hs]; rfl
  have hia : via E t = 0 := by unfold via; rw [hs]; rfl
  refine ⟨E, t, hE, ho, hs, hf, ?_, by rw [h2, hi, hia]⟩
  unfold judge_Cond.f
  rw [may_eq h hr hl, hm, bsome, if_pos rfl]
  show (judge_judge_comes.f (⟨l, labels, []⟩ : judge_judge) r >>= _) = _
  rw [h1, bsome, hv]; rfl
theorem label_yes {l : api_Lattice} {U : List Nat} (h : Nm l U) {r labels : List Int} (hr : r.length ≤ 900) (hl : labels.length ≤ 900) (hm : mayS l U r labels true = 0) :
    ∃ (E : Je l labels) (t : Tr), E.n = U.length ∧ t.wf ∧ t.sort = true ∧ t.flat = r ∧ judge_Label.f l r labels = some (((ev E t).2 : Int), 0) ∧ reticentref07_Judge.f l r labels = some ⟨false, ((ev E t).2 : Int), 0⟩ := by
  obtain ⟨hc, hq, h4, ha⟩ := mayS_zero hm
  obtain ⟨E, hE⟩ := je_of h hc h4 ha
  obtain ⟨t, ho, hs, hf, _⟩ := right_wf hq
  have h1 := comes_eq E ho (by rw [hf]; exact hr)
  have h2 := judge_ref E ho (by rw [hf]; exact hr)
  rw [hf] at h1 h2
  have hv : val E t = .c119 ((ev E t).2 : Int) := by unfold val; rw [hs]; rfl
  have hi : vis E t = false := by unfold vis; rw [hs]; rfl
  have hia : via E t = ((ev E t).2 : Int) := by unfold via; rw [hs]; rfl
  refine ⟨E, t, hE, ho, hs, hf, ?_, by rw [h2, hi, hia]⟩
  unfold judge_Label.f
  rw [may_eq h hr hl, hm, bsome, if_pos rfl]
  show (judge_judge_comes.f (⟨l, labels, []⟩ : judge_judge) r >>= _) = _
  rw [h1, bsome, hv]; rfl
theorem cond_no {l : api_Lattice} {U : List Nat} (h : Nm l U) {r labels : List Int} (hr : r.length ≤ 900) (hl : labels.length ≤ 900) (hm : mayS l U r labels false ≠ 0) : judge_Cond.f l r labels = some (false, mayS l U r labels false) := by
  unfold judge_Cond.f
  rw [may_eq h hr hl, bsome, if_neg hm]
theorem label_no {l : api_Lattice} {U : List Nat} (h : Nm l U) {r labels : List Int} (hr : r.length ≤ 900) (hl : labels.length ≤ 900) (hm : mayS l U r labels true ≠ 0) : judge_Label.f l r labels = some (0, mayS l U r labels true) := by
  unfold judge_Label.f
  rw [may_eq h hr hl, bsome, if_neg hm]
theorem alive : reticentlaw07_alive.f = some true := by
  have h := four_nm
  have hm : mayS four [15, 10, 12, 8] [9, 10, 12] [0, 1, 2, 0] true = 0 := by
    unfold mayS
    rw [if_pos four_chk, if_pos (by decide), if_pos (by decide)]
  obtain ⟨E, t, hn, ho, hs, hf, h1, _⟩ := label_yes h (r := [9, 10, 12]) (labels := [0, 1, 2, 0]) (by decide) (by decide) hm
  have hj := (E.hjoin 1 2 (by rw [hn]; decide) (by rw [hn]; decide)).2.1
  have hj2 := (yes2 h four_chk (a := 1) (b := 2) (by decide) (by decide)).2.1
  rw [four_12] at hj2
  rw [hj2] at hj
  have h3 : (3 : Int) = (E.J 1 2 : Int) := by
    have := Option.some.inj hj
    exact congrArg Prod.fst this
  have ht : t = .nd 12 (.lf 9) (.lf 10) := by
    match t, ho, hf with
    | .lf op, ho, hf => simp [Tr.flat] at hf
    | .nd op x y, ho, hf =>
      simp only [Tr.flat] at hf
      have hlen := congrArg List.length hf
      simp [flat_len] at hlen
      match x, y, hlen, hf with
      | .lf a, .lf b, _, hf => simp [Tr.flat] at hf; obtain ⟨rfl, rfl, rfl⟩ := hf; rfl
      | .nd _ a b, y, hlen, _ => have := size_pos a; have := size_pos b; have := size_pos y; simp [Tr.size] at hlen; omega
      | .lf _, .nd _ a b, hlen, _ => have := size_pos a; have := size_pos b; simp [Tr.size] at hlen; omega
  subst ht
  have l1 := (E.hlab 1 (by omega)).1
  have l2 := (E.hlab 2 (by omega)).1
  have e1 : E.labs 1 = 1 := by
    have : lAt ([0, 1, 2, 0] : List Int) ((1 : Nat) : Int) = some 1 := rfl
    rw [this] at l1
    have := Option.some.inj l1; omega
  have e2 : E.labs 2 = 2 := by
    have : lAt ([0, 1, 2, 0] : List Int) ((2 : Nat) : Int) = some 2 := rfl
    rw [this] at l2
    have := Option.some.inj l2; omega
  have hev : (ev E (.nd 12 (.lf 9) (.lf 10))).2 = E.J (E.labs 1) (E.labs 2) := rfl
  rw [hev, e1, e2, ← h3] at h1
  unfold reticentlaw07_alive.f
  show (judge_Label.f four [9, 10, 12] [0, 1, 2, 0] >>= _) = _
  rw [h1]; rfl
theorem comes {l : api_Lattice} {r labels : List Int} (hl : ∃ H cs, (kR f_api_Lattice).reps H cs l) : reticentlaw07_JudgeComes.f l r labels = some true := by
  obtain ⟨l', U, hf, h⟩ := few_eq hl
  have hm : (if 45 < (r.length : Int) then (45 : Int) else (r.length : Int)) = ((min 45 r.length : Nat) : Int) := by split <;> omega
  have hm2 : (if 6 < (labels.length : Int) then (6 : Int) else (labels.length : Int)) = ((min 6 labels.length : Nat) : Int) := by split <;> omega
  have hc1 : lCut r 0 ((min 45 r.length : Nat) : Int) = r.take (min 45 r.length) := by simp [lCut]
  have hc2 : lCut labels 0 ((min 6 labels.length : Nat) : Int) = labels.take (min 6 labels.length) := by simp [lCut]
  have hr : (r.take (min 45 r.length)).length ≤ 900 := by simp; omega
  have hb : (labels.take (min 6 labels.length)).length ≤ 900 := by simp; omega
  unfold reticentlaw07_JudgeComes.f
  rw [show (⟨l.Names, l.Up⟩ : api_Lattice) = l from rfl, hf, bsome, hm, hm2, hc1, hc2, if_pos ⟨by omega, by omega⟩, if_pos ⟨by omega, by omega⟩]
  have eta : (⟨l'.Names, l'.Up⟩ : api_Lattice) = l' := rfl
  rw [eta]
  generalize r.take (min 45 r.length) = R at hr
  generalize labels.take (min 6 labels.length) = L at hb
  rw [refMay_eq h hr hb, refMay_eq h hr hb, alive]
  by_cases q1 : mayS l' U R L false = 0
  · obtain ⟨E, t, _, _, _, _, a1, a2⟩ := cond_yes h hr hb q1
    have q2 : mayS l' U R L true ≠ 0 := by
      intro q2
      have e1 := (mayS_zero q1).2.1
      rw [(mayS_zero q2).2.1] at e1
      cases e1
    rw [a1, label_no h hr hb q2, a2]
    simp only [bsome, q1, if_true, if_neg q2]
    simp
  · by_cases q2 : mayS l' U R L true = 0
    · obtain ⟨E, t, _, _, _, _, a1, a2⟩ := label_yes h hr hb q2
      rw [cond_no h hr hb q1, a1, a2]
      simp only [bsome, q2, if_true, if_neg q1]
      simp
    · rw [cond_no h hr hb q1, label_no h hr hb q2]
      simp only [bsome, if_true, if_neg q1, if_neg q2]
      simp
end Go.Proofs.Ythpmbokenhpakaa.Jdg
namespace Go.Proofs.Ythpmbokenhpakaa.Pure
open Go Go.Proofs.Ythpmbokenhpakaa.Ab Go.Proofs.Ythpmbokenhpakaa.LE
theorem JudgeComes (l : api_Lattice) (r labels : List Int) (hl : ∃ H cs, (kR f_api_Lattice).reps H cs l) (hr : ∃ H cs, (kL (kI .i64)).reps H cs r) (hb : ∃ H cs, (kL (kI .i64)).reps H cs labels) : reticentlaw07_JudgeComes.f l r labels = some true := Jdg.comes hl
end Go.Proofs.Ythpmbokenhpakaa.Pure
