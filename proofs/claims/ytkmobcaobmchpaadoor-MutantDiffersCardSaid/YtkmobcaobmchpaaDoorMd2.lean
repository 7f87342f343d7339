/- MutantDiffers: the law. -/
import Derived.Test.YtkmobcaobmchpaaDoorMdb1
import Derived.Test.YtkmobcaobmchpaaDoorGMD
set_option linter.unusedVariables false
set_option linter.unusedSimpArgs false
set_option linter.unusedSectionVars false
namespace Go.Proofs.YtkmobcaobmchpaaDoor.Md
open Go Go.Proofs.YtkmobcaobmchpaaDoor.Ab Go.Proofs.YtkmobcaobmchpaaDoor.MD
def rowB (a b : api_Row) : Bool := decide (a.May = b.May) && decide (a.Res = b.Res) && decide (a.Pc = b.Pc)
theorem rowB_self (a : api_Row) : rowB a a = true := by simp [rowB]
theorem likeRow {a b : api_Row} (h1 : a.May.length ≤ 45) (h2 : a.Res.length ≤ 45) (h3 : a.Pc.length ≤ 45) : table_likeRow.f a b = some (rowB a b) := by
  unfold table_likeRow.f
  rw [equal_eq (by omega), bsome, equal_eq (by omega), bsome, equal_eq (by omega), bsome]
  unfold rowB
  by_cases q1 : a.May = b.May <;> by_cases q2 : a.Res = b.Res <;> by_cases q3 : a.Pc = b.Pc <;> simp [q1, q2, q3]
def likeB : List api_Row → List api_Row → Bool
  | [], [] => true
  | a :: A, b :: B => rowB a b && likeB A B
  | _, _ => false
theorem likeB_len : ∀ {A B : List api_Row}, ¬ A.length = B.length → likeB A B = false
  | [], [], h => absurd rfl h
  | a :: A, b :: B, h => by simp [likeB, likeB_len (A := A) (B := B) (fun e => h (by simp [e]))]
  | [], _ :: _, _ => rfl
  | _ :: _, [], _ => rfl
theorem likeB_no : ∀ {A B : List api_Row} (o : Nat) (h1 : o < A.length) (h2 : o < B.length), rowB A[o] B[o] = false → likeB A B = false
  | a :: A, b :: B, 0, _, _, h => by rw [likeB, show rowB a b = false from h]; rfl
  | a :: A, b :: B, o + 1, h1, h2, h => by rw [likeB, likeB_no o (by simpa using h1) (by simpa using h2) h, Bool.and_false]
  | [], _, _, h, _, _ => by simp at h
  | _ :: _, [], _, _, h, _ => by simp at h
def endB (b : Bool) : Bool ⊕ Unit := if b = true then .inr () else .inl false
theorem like_l0m {A B : List api_Row} (h : A.length = B.length) (hA : Few A) : ∀ (d k : Nat), A.length = k + d →
    slices_EqualFunc_api_Row_api_Row_api_Row_api_Row.l0 A B table_likeRow.f (k : Int) = some (endB (likeB (A.drop k) (B.drop k)))
  | 0, k, e => by
    rw [slices_EqualFunc_api_Row_api_Row_api_Row_api_Row.l0, if_neg (by omega), List.drop_of_length_le (by omega), List.drop_of_length_le (by omega)]; rfl
  | d + 1, k, e => by
    have hk : k < A.length := by omega
    have hk' : k < B.length := by omega
    have hl := hA.len
    have hm := List.getElem_mem hk
    rw [slices_EqualFunc_api_Row_api_Row_api_Row_api_Row.l0, if_pos (by omega), lAt_some hk, lAt_some hk', bsome, bsome, likeRow (hA.may _ hm) (hA.res _ hm) (hA.pc _ hm), bsome, wS (by omega), like_l0m h hA d (k + 1) (by omega), List.drop_eq_getElem_cons hk, List.drop_eq_getElem_cons hk', likeB]
    cases rowB A[k] B[k] <;> rfl
theorem like_eqm {A B : List api_Row} (hA : Few A) : table_Like.f ⟨A⟩ ⟨B⟩ = some (likeB A B) := by
  unfold table_Like.f slices_EqualFunc_api_Row_api_Row_api_Row_api_Row.f
  by_cases h : A.length = B.length
  · have := like_l0m h hA A.length 0 (by omega)
    rw [show ((0 : Nat) : Int) = 0 from rfl, List.drop_zero, List.drop_zero] at this
    rw [if_pos (show (A.length : Int) = (B.length : Int) by omega), this]
    cases likeB A B <;> rfl
  · rw [if_neg (show ¬ (A.length : Int) = (B.length : Int) by omega), likeB_len h]; rfl
/-- A mutant's rows: one row is another one. -/
structure Mut (R M : List api_Row) (o : Nat) : Prop where
  ho : o < R.length
  few : Few M
  ck : chT M = (0, 0)
  len : M.length = R.length
  off : ∀ (k : Nat) (h1 : k < M.length) (h2 : k < R.length), k ≠ o → M[k] = R[k]
  dif : ∀ (h1 : o < M.length) (h2 : o < R.length), rowB M[o] R[o] = false
theorem mut_of {R : List api_Row} (hF : Few R) (h0 : (chT R).2 = 0) {p : mutant_spot × List Int} (hp : p ∈ sp R) : ∃ M o, mk R p = ⟨M⟩ ∧ Mut R M o := by
  obtain ⟨h13, _, hr, hE⟩ := chT_zero h0
  obtain ⟨o, ho, e, hA⟩ := sp8_at hp
  rw [Nat.zero_add] at e
  obtain ⟨⟨op, wh, n⟩, w⟩ := p
  simp only at e
  subst e
  have hrow := hr _ (List.getElem_mem ho)
  have hEo := hE o ho
  have hm := List.getElem_mem ho
  refine ⟨R.set o (upd wh R[o] w), o, mk_nat ho, ?_⟩
  have key : ∃ r' : api_Row, upd wh R[o] w = r' ∧ rowE o r' = 0 ∧ r'.May.length ≤ 45 ∧ r'.Res.length ≤ 45 ∧ r'.Pc.length ≤ 45 ∧ rowB r' R[o] = false := by
    have f1 := hF.may _ hm
    have f2 := hF.res _ hm
    have f3 := hF.pc _ hm
    unfold rowE at hEo
    rw [if_pos ⟨hrow.may, hrow.res, hrow.pc⟩] at hEo
    have hh : (hasS o R[o].May && (hasS o R[o].Res && hasS o R[o].Pc)) = true := by
      cases q : (hasS o R[o].May && (hasS o R[o].Res && hasS o R[o].Pc)) with
      | true => rfl
      | false => rw [q] at hEo; cases hEo
    rw [Bool.and_eq_true, Bool.and_eq_true] at hh
    obtain ⟨g1, g2, g3⟩ := hh
    rcases hA with ⟨q, hw⟩ | ⟨q, hw⟩ | ⟨q, hw⟩ <;> simp only at q hw <;> subst q
    · have W := wm hrow.may hw
      have hl := W.len
      refine ⟨⟨w, R[o].Res, R[o].Pc⟩, rfl, ?_, by show w.length ≤ 45; omega, f2, f3, ?_⟩
      · unfold rowE; rw [if_pos ⟨W.right, hrow.res, hrow.pc⟩, has_sub W g1, g2, g3]; rfl
      · unfold rowB; rw [decide_eq_false W.ne]; rfl
    · have W := wm hrow.res hw
      have hl := W.len
      refine ⟨⟨R[o].May, w, R[o].Pc⟩, rfl, ?_, f1, by show w.length ≤ 45; omega, f3, ?_⟩
      · unfold rowE; rw [if_pos ⟨hrow.may, W.right, hrow.pc⟩, has_sub W g2, g1, g3]; rfl
      · unfold rowB; rw [decide_eq_false W.ne, Bool.and_false]; rfl
    · have W := wm hrow.pc hw
      have hl := W.len
      refine ⟨⟨R[o].May, R[o].Res, w⟩, rfl, ?_, f1, f2, by show w.length ≤ 45; omega, ?_⟩
      · unfold rowE; rw [if_pos ⟨hrow.may, hrow.res, W.right⟩, has_sub W g3, g1, g2]; rfl
      · unfold rowB; rw [decide_eq_false W.ne, Bool.and_false]
  obtain ⟨r', hr', e0, l1, l2, l3, hd⟩ := key
  rw [hr']
  have hl : (R.set o r').length = R.length := List.length_set
  have hmem : ∀ r ∈ R.set o r', r = r' ∨ r ∈ R := fun r h => by
    rcases List.mem_or_eq_of_mem_set h with q | q
    · exact .inr q
    · exact .inl q
  have hfew : Few (R.set o r') := ⟨by rw [hl]; exact hF.len, fun r h => (hmem r h).elim (fun q => q ▸ l1) (hF.may r), fun r h => (hmem r h).elim (fun q => q ▸ l2) (hF.res r), fun r h => (hmem r h).elim (fun q => q ▸ l3) (hF.pc r)⟩
  refine ⟨ho, hfew, ?_, hl, fun k h1 h2 hk => List.getElem_set_ne (fun q => hk q.symm) .., fun h1 h2 => by rw [List.getElem_set_self]; exact hd⟩
  have hck : ckl (R.set o r') 0 = none := by
    refine ckl_nil fun i hi => ?_
    rw [Nat.zero_add]
    by_cases q : i = o
    · subst q; rw [List.getElem_set_self]; exact e0
    · rw [List.getElem_set_ne (fun z => q z.symm)]; exact hE i (by rw [hl] at hi; exact hi)
  unfold chT
  rw [if_pos (by rw [hl]; exact h13), hck]
theorem cut1 {α : Type} {A : List α} {k : Nat} (h : k < A.length) : lCut A (k : Int) ((k + 1 : Nat) : Int) = [A[k]] := by
  unfold lCut
  rw [Int.toNat_natCast, Int.toNat_natCast, Nat.add_sub_cancel_left, List.drop_eq_getElem_cons h, List.take_succ_cons, List.take_zero]
theorem others {R M : List api_Row} {o : Nat} (h : Mut R M o) (hR : Few R) : ∀ (d k : Nat) (c : Nat), M.length = k + d → (c = if o < k then 1 else 0) → reticentlaw24_MutantDiffers.l3 ⟨R⟩ ⟨M⟩ (k : Int) (c : Int) = some 1
  | 0, k, c, e, hc => by
    have := h.ho
    have := h.len
    rw [reticentlaw24_MutantDiffers.l3, if_neg (show ¬ (k : Int) < (M.length : Int) by omega), hc, if_pos (by omega)]; rfl
  | d + 1, k, c, e, hc => by
    have hk : k < M.length := by omega
    have hk2 : k < R.length := by rw [← h.len]; exact hk
    have hl := h.few.len
    have hm := List.getElem_mem hk
    rw [reticentlaw24_MutantDiffers.l3, if_pos (show (k : Int) < (M.length : Int) by omega), wS (by omega)]
    rw [if_pos (show (0 : Int) ≤ (k : Int) ∧ (k : Int) ≤ ((k + 1 : Nat) : Int) ∧ ((k + 1 : Nat) : Int) ≤ (M.length : Int) by omega), if_pos (show (0 : Int) ≤ (k : Int) ∧ (k : Int) ≤ ((k + 1 : Nat) : Int) ∧ ((k + 1 : Nat) : Int) ≤ (R.length : Int) by omega)]
    show ((table_Like.f ⟨lCut M (k : Int) ((k + 1 : Nat) : Int)⟩ ⟨lCut R (k : Int) ((k + 1 : Nat) : Int)⟩ >>= _) >>= _) = _
    rw [cut1 hk, cut1 hk2, like_eqm ⟨by simp, fun r q => by simp at q; subst q; exact h.few.may _ hm, fun r q => by simp at q; subst q; exact h.few.res _ hm, fun r q => by simp at q; subst q; exact h.few.pc _ hm⟩, bsome]
    have hb : likeB [M[k]] [R[k]] = rowB M[k] R[k] := by simp [likeB]
    rw [hb]
    by_cases q : k = o
    · subst q
      have hc0 : c = 0 := by rw [hc, if_neg (by omega)]
      rw [h.dif hk hk2, if_pos (by decide), hc0, bsome]
      exact others h hR d (k + 1) 1 (by omega) (by rw [if_pos (by omega)])
    · rw [h.off k hk hk2 q, rowB_self, if_neg (by decide), bsome]
      refine others h hR d (k + 1) c (by omega) ?_
      rw [hc]
      by_cases z : o < k
      · rw [if_pos z, if_pos (by omega)]
      · rw [if_neg z, if_neg (by omega)]
theorem each_l2 {R : List api_Row} (hF : Few R) (h0 : (chT R).2 = 0) {z : Int} : ∀ (d k : Nat), (sp R).length = k + d → (sp R).length ≤ 5000 → reticentlaw24_MutantDiffers.l2 ⟨R⟩ ((sp R).map (mk R), z) (k : Int) = some (.inr ())
  | 0, k, e, hl => by
    rw [reticentlaw24_MutantDiffers.l2, if_neg (by simp; omega)]
  | d + 1, k, e, hl => by
    have hk : k < (sp R).length := by omega
    have hk1 : k < ((sp R).map (mk R)).length := by simpa using hk
    obtain ⟨M, o, eM, hM⟩ := mut_of hF h0 (List.getElem_mem hk)
    have hlen := hM.len
    have ho := hM.ho
    rw [reticentlaw24_MutantDiffers.l2, if_pos (by simp; omega)]
    show (lAt ((sp R).map (mk R)) (k : Int) >>= _) = _
    rw [lAt_some hk1, bsome, List.getElem_map, eM, check_eq hM.few, bsome, hM.ck]
    show ((if (0 : Int) = 0 then (if (0 : Int) = 0 then _ else _) else _) >>= _) = _
    rw [if_pos rfl, if_pos rfl, like_eqm hM.few, likeB_no o (by omega) (by omega) (hM.dif (by omega) ho), bsome, bsome, if_neg (by decide)]
    have := others hM hF M.length 0 0 (by omega) (by rw [if_neg (by omega)])
    rw [show ((0 : Nat) : Int) = 0 from rfl] at this
    rw [this, bsome, if_pos rfl, wS (by omega)]
    exact each_l2 hF h0 d (k + 1) (by omega) hl
theorem differs {t : api_Table} : reticentlaw24_MutantDiffers.f t = some true := by
  obtain ⟨R0⟩ := t
  have hF := few_ok (R := R0)
  unfold reticentlaw24_MutantDiffers.f
  rw [few_eq, bsome]
  generalize fewR R0 = R at hF ⊢
  have al : reticentlaw24_alive.f = some true := reticentlaw24_alive.f_le 60 _ (by kernel_rfl)
  by_cases h0 : (chT R).2 = 0
  · obtain ⟨h13, _, hr, _⟩ := chT_zero h0
    have hl := sp_len h13
    rw [All_eq hF h0, bsome, if_pos (show (((sp R).map (mk R), (0 : Int)) : List api_Table × Int).2 = 0 from rfl)]
    have := each_l2 hF h0 (z := 0) (sp R).length 0 (by omega) (by omega)
    rw [show ((0 : Nat) : Int) = 0 from rfl] at this
    rw [this, bsome, al]; rfl
  · rw [All_bad hF h0, bsome, if_neg h0, al]; rfl
end Go.Proofs.YtkmobcaobmchpaaDoor.Md
