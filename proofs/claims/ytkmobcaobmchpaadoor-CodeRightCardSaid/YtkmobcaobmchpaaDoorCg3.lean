/- CodeRight: the law. -/
import Derived.Test.YtkmobcaobmchpaaDoorCg2
set_option linter.unusedVariables false
set_option linter.unusedSimpArgs false
set_option linter.unusedSectionVars false
namespace Go.Proofs.YtkmobcaobmchpaaDoor.Cg
open Go Go.Proofs.YtkmobcaobmchpaaDoor.Ab Go.Proofs.YtkmobcaobmchpaaDoor.CG
theorem oks {l : api_Lattice} {U : List Nat} (h : Nm l U) (hc : chk l U = 0) {c : List api_Instr} (hr : rightB (l.Up.length : Int) c = true) : c.length ≤ 12 ∧ (∀ x ∈ c, Iok l x) ∧ (∀ s ∈ l.Names, s.length ≤ 1000) := by
  unfold rightB at hr
  rw [Bool.and_eq_true] at hr
  have hm : May l U := by
    unfold chk at hc
    by_cases q : May l U
    · exact q
    · rw [if_pos q] at hc; cases hc
  have hn : l.Names.length = l.Up.length := by rw [hm.nm, h.n]
  exact ⟨of_decide_eq_true hr.1, fun x hx => iok_of hn (List.all_eq_true.1 hr.2 x hx), h.sl⟩
noncomputable def txt (l : api_Lattice) (c : List api_Instr) : Str := Lib.join (c.map (tx l)) [32]
theorem txt_len {l : api_Lattice} (hN : ∀ s ∈ l.Names, s.length ≤ 1000) {c : List api_Instr} (hc : ∀ x ∈ c, Iok l x) (hl : c.length ≤ 12) : (txt l c).length ≤ 13212 := by
  have h1 := join_len (sep := [32]) (n := 1100) (xs := c.map (tx l)) (fun s hs => by
    obtain ⟨x, hxm, rfl⟩ := List.mem_map.1 hs
    exact tx_len hN (hc x hxm))
  have h2 : (c.map (tx l)).length ≤ 12 := by rw [List.length_map]; exact hl
  exact Nat.le_trans h1 (Nat.mul_le_mul_right _ h2)
theorem text_p {l : api_Lattice} {U : List Nat} (h : Nm l U) {c : List api_Instr} (hl : c.length ≤ 100) : code_Text.f l c = some (if chk l U = 0 then (if rightB (l.Up.length : Int) c = true then (txt l c, 0) else ([], 1)) else ([], chk l U)) := by
  unfold code_Text.f
  rw [check_eq h, bsome]
  by_cases hc : chk l U = 0
  · rw [if_pos hc, if_pos hc, pright_eq h (by omega), bsome, decide_eq_true hc, Bool.true_and]
    cases hr : rightB (l.Up.length : Int) c with
    | false => rfl
    | true =>
      obtain ⟨h12, hok, hN⟩ := oks h hc hr
      have e := text_l0 hN hok hl c.length 0 [] (by omega) rfl
      rw [show ((0 : Nat) : Int) = 0 from rfl, List.drop_zero, List.nil_append] at e
      have ht := txt_len hN hok h12
      have ej : lib_Join (c.map (tx l)) [32] = some (txt l c) := by
        unfold lib_Join
        rw [if_pos (show (Lib.join (c.map (tx l)) [32]).length ≤ 140737488355328 by unfold txt at ht; omega)]; rfl
      rw [if_neg (by decide), e, bsome, ej, bsome, if_pos rfl]
  · rw [if_neg hc, if_neg hc]
theorem text_r {l : api_Lattice} {U : List Nat} (h : Nm l U) (hc : chk l U = 0) {c : List api_Instr} (hr : rightB (l.Up.length : Int) c = true) : reticentref08_Text.f l c = some (txt l c) := by
  obtain ⟨h12, hok, hN⟩ := oks h hc hr
  have e := rtext_l0 hN hok (by omega) c.length 0 (by omega)
  rw [show ((0 : Nat) : Int) = 0 from rfl, List.take_zero, List.map_nil, Lib.join_nil] at e
  unfold reticentref08_Text.f
  rw [e]; rfl
theorem alive08 : reticentlaw08_alive.f = some true := reticentlaw08_alive.f_le 60 _ (by kernel_rfl)
theorem lcut_le {α : Type} {a : List α} {n : Nat} : (lCut a 0 (if (n : Int) < (a.length : Int) then (n : Int) else (a.length : Int))).length ≤ n := by
  unfold lCut
  split
  · simp; omega
  · simp; omega
theorem rights {l : api_Lattice} {a b : List api_Instr} (hl : ∃ H cs, (kR f_api_Lattice).reps H cs l) : reticentlaw08_CodeRight.f l a b = some true := by
  obtain ⟨l', U, e, h⟩ := few_eq hl
  unfold reticentlaw08_CodeRight.f
  rw [e, bsome, show (15 : Int) = ((15 : Nat) : Int) from rfl, if_pos cutok, if_pos cutok]
  have ha := lcut_le (a := a) (n := 15)
  generalize lCut a 0 (if ((15 : Nat) : Int) < (a.length : Int) then ((15 : Nat) : Int) else (a.length : Int)) = A at ha ⊢
  generalize lCut b 0 (if ((15 : Nat) : Int) < (b.length : Int) then ((15 : Nat) : Int) else (b.length : Int)) = B
  obtain ⟨s1, s2⟩ := isame (a := A) (b := B) (by omega)
  obtain ⟨_, s3⟩ := isame (a := A) (b := A) (by omega)
  rw [text_p h (by omega), bsome, refCheck_eq h, bsome, pright_eq h (by omega), s1, s2, s3, alive08]
  have key : ((if chk l' U = 0 then (reticentref08_Right.f l' A >>= fun y10 => some y10) else (some false) : Option Bool)) = some (decide (chk l' U = 0) && rightB (l'.Up.length : Int) A) := by
    by_cases hc : chk l' U = 0
    · rw [if_pos hc, rright_eq (by omega), decide_eq_true hc, Bool.true_and]; rfl
    · rw [if_neg hc, decide_eq_false hc, Bool.false_and]
  rw [key, bsome, bsome, if_pos rfl, bsome, bsome, if_pos rfl, bsome, decide_eq_true rfl, if_neg (by decide), bsome, bsome, if_neg (by decide)]
  by_cases hc : chk l' U = 0
  · rw [if_pos hc, if_pos hc, decide_eq_true hc, Bool.true_and]
    cases hr : rightB (l'.Up.length : Int) A with
    | false => rfl
    | true =>
      rw [text_r h hc hr, if_neg (by decide)]
      show ((if (0 : Int) = 0 then (some (decide (txt l' A = txt l' A))) else some false : Option Bool) >>= _) = _
      rw [if_pos rfl, decide_eq_true rfl]; rfl
  · rw [if_neg hc, if_neg hc]
    show ((if chk l' U = chk l' U then (some (decide (([] : Str) = []))) else some false : Option Bool) >>= _) = _
    rw [if_pos rfl, decide_eq_true rfl]; rfl
end Go.Proofs.YtkmobcaobmchpaaDoor.Cg
