/- TableNames: names, the usual table, which two are the same. -/
import Derived.Test.YtjkijjhjffodcaaDoorTnb1
import Derived.Test.YtjkijjhjffodcaaDoorGTN
set_option linter.unusedVariables false
set_option linter.unusedSimpArgs false
namespace Go.Proofs.YtjkijjhjffodcaaDoor.Tn
open Go Go.Proofs.YtjkijjhjffodcaaDoor.Ab Go.Proofs.YtjkijjhjffodcaaDoor.TN
theorem aliveT : reticentlaw06_alive.f = some true := reticentlaw06_alive.f_le 60 _ (by kernel_rfl)
theorem parseU : ∃ r, reticentref06_Parse.f ks0 = some r ∧ some r.T = table_Usual.f := by
  refine ⟨(reticentref06_Parse.f_g 300 ks0).getD ⟨⟨[]⟩, 0, 0⟩, reticentref06_Parse.f_le 300 _ _ (by kernel_rfl), by kernel_rfl⟩
def rowB (a b : api_Row) : Bool := decide (a.May = b.May) && decide (a.Res = b.Res) && decide (a.Pc = b.Pc)
theorem rowB_self (a : api_Row) : rowB a a = true := by simp [rowB]
theorem likeRow {a b : api_Row} (h1 : a.May.length ≤ 45) (h2 : a.Res.length ≤ 45) (h3 : a.Pc.length ≤ 45) : table_likeRow.f a b = some (rowB a b) := by
  unfold table_likeRow.f
  rw [equal_eq (by omega), bsome, equal_eq (by omega), bsome, equal_eq (by omega), bsome]
  unfold rowB
  by_cases q1 : a.May = b.May <;> by_cases q2 : a.Res = b.Res <;> by_cases q3 : a.Pc = b.Pc <;> simp [q1, q2, q3]
def likeB : List api_Row → List api_Row → Bool
  | [], [] => true
  | a :: A, b :: B => rowB a b && likeB A B
  | _, _ => false
theorem likeB_self : ∀ (A : List api_Row), likeB A A = true
  | [] => rfl
  | a :: A => by simp [likeB, rowB_self, likeB_self A]
theorem likeB_len : ∀ {A B : List api_Row}, ¬ A.length = B.length → likeB A B = false
  | [], [], h => absurd rfl h
  | a :: A, b :: B, h => by simp [likeB, likeB_len (A := A) (B := B) (fun e => h (by simp [e]))]
  | [], _ :: _, _ => rfl
  | _ :: _, [], _ => rfl
def endB (b : Bool) : Bool ⊕ Unit := if b = true then .inr () else .inl false
theorem like_l0 {A B : List api_Row} (h : A.length = B.length) (hA : Few A) : ∀ (d k : Nat), A.length = k + d →
    slices_EqualFunc_api_Row_api_Row_api_Row_api_Row.l0 A B table_likeRow.f (k : Int) = some (endB (likeB (A.drop k) (B.drop k)))
  | 0, k, e => by
    rw [slices_EqualFunc_api_Row_api_Row_api_Row_api_Row.l0, if_neg (by omega), List.drop_of_length_le (by omega), List.drop_of_length_le (by omega)]; rfl
  | d + 1, k, e => by
    have hk : k < A.length := by omega
    have hk' : k < B.length := by omega
    have hl := hA.len
    have hm := List.getElem_mem hk
    rw [slices_EqualFunc_api_Row_api_Row_api_Row_api_Row.l0, if_pos (by omega), lAt_some hk, lAt_some hk', bsome, bsome, likeRow (hA.may _ hm) (hA.res _ hm) (hA.pc _ hm), bsome, wS (by omega), like_l0 h hA d (k + 1) (by omega), List.drop_eq_getElem_cons hk, List.drop_eq_getElem_cons hk', likeB]
    cases rowB A[k] B[k] <;> rfl
theorem like_eq {A B : List api_Row} (hA : Few A) : table_Like.f ⟨A⟩ ⟨B⟩ = some (likeB A B) := by
  unfold table_Like.f slices_EqualFunc_api_Row_api_Row_api_Row_api_Row.f
  by_cases h : A.length = B.length
  · have := like_l0 h hA A.length 0 (by omega)
    rw [show ((0 : Nat) : Int) = 0 from rfl, List.drop_zero, List.drop_zero] at this
    rw [if_pos (show (A.length : Int) = (B.length : Int) by omega), this]
    cases likeB A B <;> rfl
  · rw [if_neg (show ¬ (A.length : Int) = (B.length : Int) by omega), likeB_len h]; rfl
theorem rlike_l0 {A B : List api_Row} (h : A.length = B.length) (hA : Few A) : ∀ (d k : Nat), A.length = k + d →
    reticentref06_Like.l0 ⟨A⟩ ⟨B⟩ (k : Int) = some (endB (likeB (A.drop k) (B.drop k)))
  | 0, k, e => by
    rw [reticentref06_Like.l0, if_neg (show ¬ (k : Int) < (A.length : Int) by omega), List.drop_of_length_le (by omega), List.drop_of_length_le (by omega)]; rfl
  | d + 1, k, e => by
    have hk : k < A.length := by omega
    have hk' : k < B.length := by omega
    have hl := hA.len
    have hm := List.getElem_mem hk
    rw [reticentref06_Like.l0, if_pos (show (k : Int) < (A.length : Int) by omega), wS (by omega), rlike_l0 h hA d (k + 1) (by omega), List.drop_eq_getElem_cons hk, List.drop_eq_getElem_cons hk', likeB]
    show (((lAt A (k : Int) >>= _) : Option Bool) >>= _) = _
    rw [lAt_some hk, bsome]
    show (((lAt B (k : Int) >>= _) : Option Bool) >>= _) = _
    have h1 := hA.may _ hm
    have h2 := hA.res _ hm
    have h3 := hA.pc _ hm
    rw [lAt_some hk', bsome, same_eq (by omega), bsome, bsome, bsome, same_eq (by omega), bsome, bsome, bsome, same_eq (by omega), bsome]
    unfold rowB
    by_cases q1 : A[k].May = B[k].May <;> by_cases q2 : A[k].Res = B[k].Res <;> by_cases q3 : A[k].Pc = B[k].Pc <;> simp [q1, q2, q3, endB]
theorem rlike_eq {A B : List api_Row} (hA : Few A) : reticentref06_Like.f ⟨A⟩ ⟨B⟩ = some (likeB A B) := by
  unfold reticentref06_Like.f
  by_cases h : A.length = B.length
  · have := rlike_l0 h hA A.length 0 (by omega)
    rw [show ((0 : Nat) : Int) = 0 from rfl, List.drop_zero, List.drop_zero] at this
    rw [if_pos (show (A.length : Int) = (B.length : Int) by omega), this]
    cases likeB A B <;> rfl
  · rw [if_neg (show ¬ (A.length : Int) = (B.length : Int) by omega), likeB_len h]
theorem usualFew : ∃ U, table_Usual.f = some ⟨U⟩ ∧ Few U := ⟨_, rfl, ⟨by decide, by decide, by decide, by decide⟩⟩
theorem in13 {op : Int} (h0 : ¬ op < 0) (h1 : ¬ op > 12) : ∃ s n, table_Name.f op = some (s, 0) ∧ table_Arity.f op = some (n, 0) ∧ reticentref06_Word.f op = some s ∧ reticentref06_Arity.f op = some n := by
  obtain ⟨k, rfl⟩ : ∃ k : Nat, op = (k : Int) := ⟨op.toNat, by omega⟩
  have hk : k < 13 := by omega
  clear h0 h1
  match k, hk with
  | 0, _ => exact ⟨_, _, rfl, rfl, rfl, rfl⟩
  | 1, _ => exact ⟨_, _, rfl, rfl, rfl, rfl⟩
  | 2, _ => exact ⟨_, _, rfl, rfl, rfl, rfl⟩
  | 3, _ => exact ⟨_, _, rfl, rfl, rfl, rfl⟩
  | 4, _ => exact ⟨_, _, rfl, rfl, rfl, rfl⟩
  | 5, _ => exact ⟨_, _, rfl, rfl, rfl, rfl⟩
  | 6, _ => exact ⟨_, _, rfl, rfl, rfl, rfl⟩
  | 7, _ => exact ⟨_, _, rfl, rfl, rfl, rfl⟩
  | 8, _ => exact ⟨_, _, rfl, rfl, rfl, rfl⟩
  | 9, _ => exact ⟨_, _, rfl, rfl, rfl, rfl⟩
  | 10, _ => exact ⟨_, _, rfl, rfl, rfl, rfl⟩
  | 11, _ => exact ⟨_, _, rfl, rfl, rfl, rfl⟩
  | 12, _ => exact ⟨_, _, rfl, rfl, rfl, rfl⟩
  | n + 13, h => omega
theorem outN {op : Int} (h : op < 0 ∨ op > 12) : table_Name.f op = some ([], 9) ∧ table_Arity.f op = some (0, 9) := by
  unfold table_Name.f table_Arity.f
  by_cases q : op < 0
  · rw [if_pos q]; exact ⟨rfl, rfl⟩
  · rw [if_neg q, decide_eq_true (show op ≥ 13 by omega)]; exact ⟨rfl, rfl⟩
theorem names {op : Int} {a b : api_Table} : reticentlaw06_TableNames.f op a b = some true := by
  obtain ⟨A0⟩ := a
  obtain ⟨B0⟩ := b
  have hA := few_ok (R := A0)
  have hB := few_ok (R := B0)
  obtain ⟨r, hr, hU⟩ := parseU
  obtain ⟨U, eU, fU⟩ := usualFew
  unfold reticentlaw06_TableNames.f
  rw [few_eq, bsome, few_eq, bsome]
  generalize fewR A0 = A at hA ⊢
  generalize fewR B0 = B at hB ⊢
  rw [eU] at hU
  have hT : r.T = ⟨U⟩ := Option.some.inj hU
  have key : ((table_Usual.f >>= fun y17 => reticentref06_Usual.f >>= fun y18 => reticentref06_Parse.f y18 >>= fun y19 => table_Like.f y17 y19.T >>= fun y20 => if (!y20) = true then (some true) else (table_Like.f ⟨A⟩ ⟨B⟩ >>= fun y22 => reticentref06_Like.f ⟨A⟩ ⟨B⟩ >>= fun y23 => if y22 = y23 then (table_Like.f ⟨A⟩ ⟨A⟩ >>= fun y25 => if (!y25) = true then (some true) else (reticentlaw06_alive.f >>= fun y27 => some (!y27))) else (some true)) : Option Bool)) = some false := by
    rw [eU, bsome, show reticentref06_Usual.f = some ks0 from rfl, bsome, hr, bsome, hT, like_eq fU, bsome, likeB_self, if_neg (by decide), like_eq hA, bsome, rlike_eq hA, bsome, if_pos rfl, like_eq hA, bsome, likeB_self, if_neg (by decide), aliveT]; rfl
  by_cases h0 : op < 0
  · obtain ⟨e1, e2⟩ := outN (.inl h0)
    rw [e1, bsome, e2, bsome, key, bsome, if_neg (by decide), if_pos h0]; rfl
  · by_cases h1 : op > 12
    · obtain ⟨e1, e2⟩ := outN (.inr h1)
      rw [e1, bsome, e2, bsome, key, bsome, if_neg (by decide), if_neg h0, decide_eq_true h1]; rfl
    · obtain ⟨s, n, e1, e2, e3, e4⟩ := in13 h0 h1
      rw [e1, bsome, e2, bsome, key, bsome, if_neg (by decide), if_neg h0, decide_eq_false h1, bsome, if_neg (by decide), if_pos rfl, if_pos rfl, e3, bsome, if_pos rfl, e4, bsome, decide_eq_true rfl]; rfl
end Go.Proofs.YtjkijjhjffodcaaDoor.Tn
