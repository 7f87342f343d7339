/- MutantWeaker: the law. -/
import Derived.Test.YthpmbokenhpakaaMut6
set_option linter.unusedVariables false
set_option linter.unusedSimpArgs false
namespace Go.Proofs.Ythpmbokenhpakaa.Mut
open Go Go.Proofs.Ythpmbokenhpakaa.Ab Go.Proofs.Ythpmbokenhpakaa.LD
open Go.Proofs.Ythpmbokenhpakaa.Lat (lAt_some)
noncomputable def all (l : List Int) (b : Bool) : List (List Int) := if b then cnd l 6 ++ wks l 12 l.length 0 else cnd l 1 ++ wks l 3 l.length 0
theorem ref_cnd {l : List Int} {least : Int} (hl : l.length ≤ 900) : ((if (l.length : Int) = 1 then (lAt l 0 >>= fun y7 => some (!decide (y7 = least))) else (some true) : Option Bool)) = some (!decide (l = [least])) := by
  match l with
  | [] => simp
  | [a] => simp [lAt]
  | a :: b :: r =>
    have : ¬ (((a :: b :: r).length : Nat) : Int) = 1 := by simp; omega
    rw [if_neg this]
    simp
theorem weaker_p {l : List Int} {b : Bool} (h : right l = some b) : mutant_weaker.f l = some (all l b) := by
  have hr := rt_of h
  have hl := hr.len
  have hB : (([] : List (List Int)).length + ([([6] : List Int)] : List (List Int)).length) * 24 ≤ big := by decide
  have hB' : (([] : List (List Int)).length + ([([1] : List Int)] : List (List Int)).length) * 24 ≤ big := by decide
  have hRt : rule_Right.f l true = some b := by rw [Right_eq (by omega), h]; cases b <;> rfl
  unfold mutant_weaker.f all cnd
  rw [hRt, bsome]
  cases b with
  | true =>
    rw [if_pos rfl, equal_eq (by omega), bsome, if_pos rfl]
    by_cases q : l = [6]
    · rw [decide_eq_true q, if_neg (by decide), p1 hr (by simp), bsome, if_pos q]
    · rw [decide_eq_false q, if_pos (by decide), if_pos hB, p0 hr (by simp), bsome, if_neg q]; rfl
  | false =>
    rw [if_neg (show ¬ (false = true) by decide), equal_eq (by omega), bsome, if_neg (show ¬ (false = true) by decide)]
    by_cases q : l = [1]
    · rw [decide_eq_true q, if_neg (by decide), p3 hr (by simp), bsome, if_pos q]
    · rw [decide_eq_false q, if_pos (by decide), if_pos hB', p2 hr (by simp), bsome, if_neg q]; rfl
theorem weaker_r {l : List Int} {b : Bool} (h : right l = some b) : reticentref24_Weaker.f l = some (all l b) := by
  have hr := rt_of h
  have hl := hr.len
  have hB : (([] : List (List Int)).length + ([([6] : List Int)] : List (List Int)).length) * 24 ≤ big := by decide
  have hB' : (([] : List (List Int)).length + ([([1] : List Int)] : List (List Int)).length) * 24 ≤ big := by decide
  have hM : reticentref04_Made.f l = some (code b) := by rw [refMade_eq (by omega), h]
  unfold reticentref24_Weaker.f all cnd
  rw [hM, bsome]
  cases b with
  | true =>
    rw [if_pos (show code true = 2 from rfl), ref_cnd (by omega), bsome, if_pos rfl]
    by_cases q : l = [6]
    · rw [decide_eq_true q, if_neg (by decide), r1 hr (by simp), bsome, if_pos q]
    · rw [decide_eq_false q, if_pos (by decide), if_pos hB, r0 hr (by simp), bsome, if_neg q]; rfl
  | false =>
    rw [if_neg (show ¬ code false = 2 by decide), ref_cnd (by omega), bsome, if_neg (show ¬ (false = true) by decide)]
    by_cases q : l = [1]
    · rw [decide_eq_true q, if_neg (by decide), r3 hr (by simp), bsome, if_pos q]
    · rw [decide_eq_false q, if_pos (by decide), if_pos hB', r2 hr (by simp), bsome, if_neg q]; rfl
theorem Weaker_eq {l : List Int} (hl : l.length ≤ 900) : mutant_Weaker.f l = some (match right l with | none => ([], 1) | some b => (all l b, 0)) := by
  have hR : ((rule_Right.f l false >>= fun y5 => if (!y5) = true then (rule_Right.f l true >>= fun y7 => some (!y7)) else (some false) : Option Bool)) = some (right l).isNone := by
    rw [Right_eq hl, Right_eq hl]
    cases right l with
    | none => rfl
    | some b => cases b <;> rfl
  unfold mutant_Weaker.f
  rw [hR, bsome]
  cases h : right l with
  | none => rfl
  | some b => rw [if_neg (by simp), weaker_p h, bsome]
theorem alive : reticentlaw24_alive.f = some true := by
  have hr : right [9, 10, 12] = some true := by decide
  have hW := Weaker_eq (l := [9, 10, 12]) (by decide)
  have hless := (less_eq (l := [9, 10, 12]) (by decide) (x := .lf 9) (y := .lf 10) (s := 0) (i := 2) (r := []) (op := 12) (by simp [Tr.ok, LfOp]) (by simp [Tr.ok, LfOp]) rfl rfl).1
  have hls : ls [9, 10, 12] 2 = [[9], [10]] := by unfold ls; rw [hless]; rfl
  have hall : all [9, 10, 12] true = [[6], [9], [10]] := by
    unfold all cnd
    rw [if_pos rfl, if_neg (by decide)]
    show [[6]] ++ wks [9, 10, 12] 12 3 0 = _
    simp only [wks]
    rw [if_neg (by decide), if_neg (by decide), if_pos (by decide), hls]; rfl
  rw [hr] at hW
  simp only [hall] at hW
  unfold reticentlaw24_alive.f
  rw [hW, bsome, if_pos rfl, if_pos (by decide)]
  show ((lAt ([[6], [9], [10]] : List (List Int)) 0 >>= _) >>= _) = _
  rw [show lAt ([[6], [9], [10]] : List (List Int)) 0 = some [6] from rfl, bsome, same_eq (by decide), bsome, if_pos (by decide)]
  rw [show lAt ([[6], [9], [10]] : List (List Int)) 1 = some [9] from rfl, bsome, same_eq (by decide), bsome, if_pos (by decide)]
  rw [show lAt ([[6], [9], [10]] : List (List Int)) 2 = some [10] from rfl, bsome, same_eq (by decide), bsome]
  rfl
theorem same_all {x : List (List Int)} {e : Int} (hx : x.length ≤ 900) (hs : ∀ y ∈ x, y.length ≤ 1000) : ∀ (d k : Nat), x.length = k + d → reticentlaw24_MutantWeaker.l0 (x, e) x (k : Int) = some (.inr ())
  | 0, k, h => by rw [reticentlaw24_MutantWeaker.l0, if_neg (by show ¬ (k : Int) < (x.length : Int); omega)]
  | d + 1, k, h => by
    have hk : k < x.length := by omega
    rw [reticentlaw24_MutantWeaker.l0, if_pos (by show (k : Int) < (x.length : Int); omega)]
    show (lAt x (k : Int) >>= _) = _
    rw [lAt_some hk, bsome, bsome, same_eq (hs _ (List.getElem_mem hk)), bsome, decide_eq_true rfl, if_neg (by decide), wS (by omega)]
    exact same_all hx hs d (k + 1) (by omega)
theorem wks_le {l : List Int} (h : Rt l) {j : Int} (hj : NdOp j) : ∀ (d k : Nat), l.length = k + d → (wks l j d k).length ≤ 2 * d ∧ ∀ y ∈ wks l j d k, y.length ≤ 1000
  | 0, k, e => by simp [wks]
  | d + 1, k, e => by
    obtain ⟨h1, h2⟩ := wks_le h hj d (k + 1) (by omega)
    have hk : k < l.length := by omega
    have hd : l.getD k 0 = l[k] := by simp [hk]
    have hl := h.len
    unfold wks
    rw [hd]
    by_cases q : l[k] = j
    · have hn : NdOp l[k] := by rw [q]; exact hj
      rw [if_pos q]
      obtain ⟨A, B, q0, s1, s0, q1, q2, q3, q4, q5, q6⟩ := h.part k hk hn
      have e2 : ls l k = [A, B] := by unfold ls; rw [q0]; rfl
      rw [e2]
      refine ⟨by simp; omega, fun y hy => ?_⟩
      rcases List.mem_append.1 hy with hy | hy
      · simp at hy
        rcases hy with rfl | rfl
        · exact q5
        · exact q6
      · exact h2 y hy
    · rw [if_neg q]
      exact ⟨by simp; omega, fun y hy => h2 y (by simpa using hy)⟩
theorem cnd_le {l : List Int} {x : Int} : (cnd l x).length ≤ 1 ∧ ∀ y ∈ cnd l x, y.length ≤ 1000 := by
  unfold cnd
  split
  · simp
  · simp
theorem all_le {l : List Int} {b : Bool} (h : right l = some b) : (all l b).length ≤ 900 ∧ ∀ y ∈ all l b, y.length ≤ 1000 := by
  have hr := rt_of h
  have hl := hr.len
  have key : ∀ (x j : Int), NdOp j → (cnd l x ++ wks l j l.length 0).length ≤ 900 ∧ ∀ y ∈ cnd l x ++ wks l j l.length 0, y.length ≤ 1000 := by
    intro x j hj
    obtain ⟨h1, h2⟩ := wks_le hr hj l.length 0 (by omega)
    obtain ⟨h3, h4⟩ := cnd_le (l := l) (x := x)
    exact ⟨by rw [List.length_append]; omega, fun y hy => (List.mem_append.1 hy).elim (h4 y) (h2 y)⟩
  unfold all
  cases b with
  | true => rw [if_pos rfl]; exact key 6 12 n12
  | false => rw [if_neg (show ¬ (false = true) by decide)]; exact key 1 3 n3
theorem weakers {l : List Int} : reticentlaw24_MutantWeaker.f l = some true := by
  have hm : (if 45 < (l.length : Int) then (45 : Int) else (l.length : Int)) = ((min 45 l.length : Nat) : Int) := by split <;> omega
  have hc : lCut l 0 ((min 45 l.length : Nat) : Int) = l.take (min 45 l.length) := by simp [lCut]
  have hl : (l.take (min 45 l.length)).length ≤ 900 := by simp; omega
  unfold reticentlaw24_MutantWeaker.f
  rw [hm, hc, if_pos ⟨by omega, by omega⟩]
  generalize l.take (min 45 l.length) = k at hl
  rw [Weaker_eq hl, refMade_eq hl, alive]
  cases hr : right k with
  | none => rw [bsome, bsome, if_pos rfl, bsome, if_pos rfl, if_pos rfl]; rfl
  | some b =>
    obtain ⟨h1, h2⟩ := all_le hr
    have hs := same_all (e := 0) h1 h2 (all k b).length 0 (by omega)
    rw [show ((0 : Nat) : Int) = 0 from rfl] at hs
    rw [bsome, bsome]
    show (if code b = 0 then _ else _) = _
    rw [if_neg (by cases b <;> decide), weaker_r hr, bsome, if_pos rfl]
    show ((if ((all k b).length : Int) = ((all k b).length : Int) then _ else _) >>= _) = _
    rw [if_pos rfl, bsome, bsome, if_neg (by decide), hs]
    rfl
end Go.Proofs.Ythpmbokenhpakaa.Mut
