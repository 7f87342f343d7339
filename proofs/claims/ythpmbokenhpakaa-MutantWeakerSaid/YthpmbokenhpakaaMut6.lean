/- MutantWeaker. -/
import Derived.Test.YthpmbokenhpakaaMut5
set_option linter.unusedVariables false
set_option linter.unusedSimpArgs false
namespace Go.Proofs.Ythpmbokenhpakaa.Mut
open Go Go.Proofs.Ythpmbokenhpakaa.Ab Go.Proofs.Ythpmbokenhpakaa.LD
open Go.Proofs.Ythpmbokenhpakaa.Lat (lAt_some)
/-- Two rows, element by element. -/
theorem same_l0 {a b : List Int} (h : a.length = b.length) (hl : a.length ≤ 1000) : ∀ (d k : Nat), a.length = k + d →
    reticentref04_Same.l0 a b (k : Int) = some (if a.drop k = b.drop k then .inr () else .inl false)
  | 0, k, e => by
    rw [reticentref04_Same.l0, if_neg (by omega), List.drop_of_length_le (by omega), List.drop_of_length_le (by omega), if_pos rfl]
  | d + 1, k, e => by
    have hk : k < a.length := by omega
    have hk' : k < b.length := by omega
    rw [reticentref04_Same.l0, if_pos (by omega), lAt_some hk, lAt_some hk', bsome, bsome, wS (by omega), same_l0 h hl d (k + 1) (by omega), List.drop_eq_getElem_cons hk, List.drop_eq_getElem_cons hk']
    by_cases q : a[k] = b[k]
    · rw [if_pos q, q]
      simp only [List.cons.injEq, true_and]
    · rw [if_neg q, if_neg (fun h => q (List.cons.inj h).1)]
theorem same_eq {a b : List Int} (hl : a.length ≤ 1000) : reticentref04_Same.f a b = some (decide (a = b)) := by
  unfold reticentref04_Same.f
  by_cases h : a.length = b.length
  · have := same_l0 h hl a.length 0 (by omega)
    rw [show ((0 : Nat) : Int) = 0 from rfl, List.drop_zero, List.drop_zero] at this
    rw [if_pos (by omega), this]
    by_cases q : a = b
    · rw [if_pos q, decide_eq_true q]; rfl
    · rw [if_neg q, decide_eq_false q]; rfl
  · rw [if_neg (by omega), decide_eq_false (fun q => h (by rw [q]))]
theorem equal_l0 {a b : List Int} (h : a.length = b.length) (hl : a.length ≤ 1000) : ∀ (d k : Nat), a.length = k + d →
    slices_Equal_int_int.l0 a b (k : Int) = some (if a.drop k = b.drop k then .inr () else .inl false)
  | 0, k, e => by
    rw [slices_Equal_int_int.l0, if_neg (by omega), List.drop_of_length_le (by omega), List.drop_of_length_le (by omega), if_pos rfl]
  | d + 1, k, e => by
    have hk : k < a.length := by omega
    have hk' : k < b.length := by omega
    have ih := equal_l0 h hl d (k + 1) (by omega)
    rw [slices_Equal_int_int.l0, if_pos (by omega), lAt_some hk, lAt_some hk', bsome, bsome, wS (by omega), ih, List.drop_eq_getElem_cons hk, List.drop_eq_getElem_cons hk']
    by_cases q : a[k] = b[k]
    · rw [if_pos q, q]
      simp only [List.cons.injEq, true_and]
    · rw [if_neg q, if_neg (fun h => q (List.cons.inj h).1)]
theorem equal_eq {a b : List Int} (hl : a.length ≤ 1000) : slices_Equal_int_int.f a b = some (decide (a = b)) := by
  unfold slices_Equal_int_int.f
  by_cases h : a.length = b.length
  · have := equal_l0 h hl a.length 0 (by omega)
    rw [show ((0 : Nat) : Int) = 0 from rfl, List.drop_zero, List.drop_zero] at this
    have h' : (a.length : Int) = (b.length : Int) := by omega
    rw [if_pos h', this]
    by_cases q : a = b
    · rw [if_pos q, decide_eq_true q]; rfl
    · rw [if_neg q, decide_eq_false q]; rfl
  · rw [if_neg (by omega), decide_eq_false (fun q => h (by rw [q]))]
/-! The loops over a rule's things. -/
noncomputable def ls (l : List Int) (k : Nat) : List (List Int) := (mutant_less.f l (k : Int)).getD []
noncomputable def wks (l : List Int) (j : Int) : Nat → Nat → List (List Int)
  | 0, _ => []
  | d + 1, k => (if l.getD k 0 = j then ls l k else []) ++ wks l j d (k + 1)
theorem loopW {l : List Int} {j : Int} {L : List (List Int) → Int → Option (List (List Int))} (hend : ∀ acc, L acc (l.length : Int) = some acc)
    (hstep : ∀ acc (k : Nat) (hk : k < l.length), acc.length ≤ 2 * k + 1 → L acc (k : Int) = L (acc ++ (if l[k] = j then ls l k else [])) ((k + 1 : Nat) : Int)) (hls : ∀ k (hk : k < l.length), l[k] = j → (ls l k).length = 2) :
    ∀ (d k : Nat) (acc : List (List Int)), l.length = k + d → acc.length ≤ 2 * k + 1 → L acc (k : Int) = some (acc ++ wks l j d k)
  | 0, k, acc, e, ha => by rw [show k = l.length by omega, hend]; simp [wks]
  | d + 1, k, acc, e, ha => by
    have hk : k < l.length := by omega
    have hl : (if l[k] = j then ls l k else []).length ≤ 2 := by
      split
      · rename_i h; rw [hls k hk h]; exact Nat.le_refl _
      · simp
    rw [hstep acc k hk ha, loopW hend hstep hls d (k + 1) _ (by omega) (by rw [List.length_append]; omega)]
    have : l.getD k 0 = l[k] := by simp [hk]
    rw [wks, this, List.append_assoc]
/-- A rule that is made right, and its joins. -/
structure Rt (l : List Int) : Prop where
  len : l.length ≤ 40
  part : ∀ (i : Nat) (hi : i < l.length), NdOp l[i] → ∃ A B, mutant_less.f l (i : Int) = some [A, B] ∧ ∃ s1 s0 : Int, reticentref24_from.f l (IntKind.i64.wrap ((i : Int) - 1)) = some s1 ∧ reticentref24_from.f l (IntKind.i64.wrap (s1 - 1)) = some s0 ∧
    reticentref24_but.f l s1 (i : Int) (i : Int) = some A ∧ reticentref24_but.f l s0 s1 (i : Int) = some B ∧ A.length ≤ 1000 ∧ B.length ≤ 1000
theorem rt_of {l : List Int} {b : Bool} (h : right l = some b) : Rt l := by
  obtain ⟨t, ho, e, h40⟩ := right_tree h
  refine ⟨h40, fun i hi hn => ?_⟩
  have hsz : t.size = l.length := by rw [← e, flat_len]
  obtain ⟨x, y, s, r, hx, hy, e2, hi2⟩ := part_at t ho 0 [] (by rw [e]; simp) i hi (by omega) (by omega) hn
  obtain ⟨q1, q2, q3, q4, q5⟩ := less_eq (l := l) (by omega) hx hy e2 hi2
  exact ⟨_, _, q1, _, _, q2, q3, q4, q5, by simp; omega, by simp; omega⟩
theorem Rt.ls {l : List Int} (h : Rt l) {j : Int} (hj : NdOp j) : ∀ k (hk : k < l.length), l[k] = j → (ls l k).length = 2 := by
  intro k hk e
  obtain ⟨A, B, q, _⟩ := h.part k hk (by rw [e]; exact hj)
  unfold Mut.ls
  rw [q]; rfl
theorem Rt.less {l : List Int} (h : Rt l) {k : Nat} (hk : k < l.length) (hj : NdOp l[k]) : mutant_less.f l (k : Int) = some (Mut.ls l k) ∧ (Mut.ls l k).length = 2 := by
  obtain ⟨A, B, q, _⟩ := h.part k hk hj
  unfold Mut.ls
  rw [q]; exact ⟨rfl, rfl⟩
def cnd (l : List Int) (least : Int) : List (List Int) := if l = [least] then [] else [[least]]
theorem n12 : NdOp 12 := by unfold NdOp; simp
theorem n3 : NdOp 3 := by unfold NdOp; simp
section
variable {l : List Int} (h : Rt l)
include h
theorem prog_step {j : Int} (hj : NdOp j) {L : List (List Int) → Int → Option (List (List Int))} {k : Nat} (hk : k < l.length) {acc : List (List Int)} (ha : acc.length ≤ 2 * k + 1) :
    ((lAt l (k : Int) >>= fun y => if y = j then (mutant_less.f l (k : Int) >>= fun y37 => if (acc.length + y37.length) * 24 ≤ big then (some (acc ++ y37)) else none) else (some acc) : Option (List (List Int))) >>= fun x => L x (IntKind.i64.wrap ((k : Int) + 1))) = L (acc ++ (if l[k] = j then Mut.ls l k else [])) ((k + 1 : Nat) : Int) := by
  have hl := h.len
  have hB : 100000 ≤ big := by decide
  rw [lAt_some hk, bsome, wS (by omega)]
  by_cases q : l[k] = j
  · obtain ⟨e1, e2⟩ := h.less hk (by rw [q]; exact hj)
    rw [if_pos q, if_pos q, e1, bsome, if_pos (by rw [e2]; omega), bsome]
  · rw [if_neg q, if_neg q, bsome, List.append_nil]
theorem ref_step {j : Int} (hj : NdOp j) {L : List (List Int) → Int → Option (List (List Int))} {k : Nat} (hk : k < l.length) {acc : List (List Int)} (ha : acc.length ≤ 2 * k + 1) :
    ((lAt l (k : Int) >>= fun y59 => if y59 = j then (reticentref24_from.f l (IntKind.i64.wrap ((k : Int) - 1)) >>= fun y61 => reticentref24_from.f l (IntKind.i64.wrap (y61 - 1)) >>= fun y62 => reticentref24_but.f l y61 (k : Int) (k : Int) >>= fun y63 => if (acc.length + ([y63] : List (List Int)).length) * 24 ≤ big then (reticentref24_but.f l y62 y61 (k : Int) >>= fun y65 => if ((acc ++ ([y63] : List (List Int))).length + ([y65] : List (List Int)).length) * 24 ≤ big then (some ((acc ++ ([y63] : List (List Int))) ++ ([y65] : List (List Int)))) else none) else none) else (some acc) : Option (List (List Int))) >>= fun x58 => L x58 (IntKind.i64.wrap ((k : Int) + 1))) = L (acc ++ (if l[k] = j then Mut.ls l k else [])) ((k + 1 : Nat) : Int) := by
  have hl := h.len
  have hB : 100000 ≤ big := by decide
  rw [lAt_some hk, bsome, wS (by omega)]
  by_cases q : l[k] = j
  · obtain ⟨A, B, q0, s1, s0, q1, q2, q3, q4, _⟩ := h.part k hk (by rw [q]; exact hj)
    have e : Mut.ls l k = [A, B] := by unfold Mut.ls; rw [q0]; rfl
    rw [if_pos q, if_pos q, q1, bsome, q2, bsome, q3, bsome, if_pos (by simp; omega), q4, bsome, if_pos (by simp; omega), bsome, e]
    simp
  · rw [if_neg q, if_neg q, bsome, List.append_nil]
theorem run_all {j : Int} (hj : NdOp j) {L : List (List Int) → Int → Option (List (List Int))} (hend : ∀ acc, L acc (l.length : Int) = some acc)
    (hstep : ∀ acc (k : Nat) (hk : k < l.length), acc.length ≤ 2 * k + 1 → L acc (k : Int) = L (acc ++ (if l[k] = j then Mut.ls l k else [])) ((k + 1 : Nat) : Int)) {acc : List (List Int)} (ha : acc.length ≤ 1) : L acc 0 = some (acc ++ wks l j l.length 0) :=
  loopW hend hstep (h.ls hj) l.length 0 acc (by omega) (by omega)
theorem p0 {acc : List (List Int)} (ha : acc.length ≤ 1) : mutant_weaker.l0 l acc 0 = some (acc ++ wks l 12 l.length 0) :=
  run_all h n12 (fun acc => by rw [mutant_weaker.l0, if_neg (by omega)]) (fun acc k hk ha => by rw [mutant_weaker.l0, if_pos (by omega)]; exact prog_step h n12 hk ha) ha
theorem p1 {acc : List (List Int)} (ha : acc.length ≤ 1) : mutant_weaker.l1 l acc 0 = some (acc ++ wks l 12 l.length 0) :=
  run_all h n12 (fun acc => by rw [mutant_weaker.l1, if_neg (by omega)]) (fun acc k hk ha => by rw [mutant_weaker.l1, if_pos (by omega)]; exact prog_step h n12 hk ha) ha
theorem p2 {acc : List (List Int)} (ha : acc.length ≤ 1) : mutant_weaker.l2 l acc 0 = some (acc ++ wks l 3 l.length 0) :=
  run_all h n3 (fun acc => by rw [mutant_weaker.l2, if_neg (by omega)]) (fun acc k hk ha => by rw [mutant_weaker.l2, if_pos (by omega)]; exact prog_step h n3 hk ha) ha
theorem p3 {acc : List (List Int)} (ha : acc.length ≤ 1) : mutant_weaker.l3 l acc 0 = some (acc ++ wks l 3 l.length 0) :=
  run_all h n3 (fun acc => by rw [mutant_weaker.l3, if_neg (by omega)]) (fun acc k hk ha => by rw [mutant_weaker.l3, if_pos (by omega)]; exact prog_step h n3 hk ha) ha
theorem r0 {acc : List (List Int)} (ha : acc.length ≤ 1) : reticentref24_Weaker.l0 l acc 0 = some (acc ++ wks l 12 l.length 0) :=
  run_all h n12 (fun acc => by rw [reticentref24_Weaker.l0, if_neg (by omega)]) (fun acc k hk ha => by rw [reticentref24_Weaker.l0, if_pos (by omega)]; exact ref_step h n12 hk ha) ha
theorem r1 {acc : List (List Int)} (ha : acc.length ≤ 1) : reticentref24_Weaker.l1 l acc 0 = some (acc ++ wks l 12 l.length 0) :=
  run_all h n12 (fun acc => by rw [reticentref24_Weaker.l1, if_neg (by omega)]) (fun acc k hk ha => by rw [reticentref24_Weaker.l1, if_pos (by omega)]; exact ref_step h n12 hk ha) ha
theorem r2 {acc : List (List Int)} (ha : acc.length ≤ 1) : reticentref24_Weaker.l2 l acc 0 = some (acc ++ wks l 3 l.length 0) :=
  run_all h n3 (fun acc => by rw [reticentref24_Weaker.l2, if_neg (by omega)]) (fun acc k hk ha => by rw [reticentref24_Weaker.l2, if_pos (by omega)]; exact ref_step h n3 hk ha) ha
theorem r3 {acc : List (List Int)} (ha : acc.length ≤ 1) : reticentref24_Weaker.l3 l acc 0 = some (acc ++ wks l 3 l.length 0) :=
  run_all h n3 (fun acc => by rw [reticentref24_Weaker.l3, if_neg (by omega)]) (fun acc k hk ha => by rw [reticentref24_Weaker.l3, if_pos (by omega)]; exact ref_step h n3 hk ha) ha
end
end Go.Proofs.Ythpmbokenhpakaa.Mut
