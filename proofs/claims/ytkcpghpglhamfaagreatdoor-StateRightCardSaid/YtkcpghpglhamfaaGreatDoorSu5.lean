/- States: the document's text; StateRight. -/
import Derived.Test.YtkcpghpglhamfaaGreatDoorSu4
set_option linter.unusedVariables false
set_option linter.unusedSimpArgs false
set_option linter.unusedSectionVars false
namespace Go.Proofs.YtkcpghpglhamfaaGreatDoor.Su
open Go Go.Proofs.YtkcpghpglhamfaaGreatDoor.Ab Go.Proofs.YtkcpghpglhamfaaGreatDoor.ST
theorem text_rs {l : api_Lattice} {U : List Nat} (h : Nm l U) (hc : chk l U = 0) {s : api_State} (hr : rightS (l.Up.length : Int) s = true) : reticentref09_Text.f l s = some (stT l s) := by
  have F := fine h hc hr
  unfold reticentref09_Text.f
  have hw := wr_len F.nm F.pc
  have hM := cumA_len F.nm (word := [109, 101, 109]) (by decide) F.mem (by have := F.ml; omega)
  have hO := cumA_len F.nm (word := [111, 117, 116]) (by decide) F.out (by have := F.ol; omega)
  have hS := cumS_len F.nm F.stack (by have := F.sl; omega)
  have l1 : reticentref09_line.f l ([109, 101, 109] : Str) s.Mem = some (lnA l [109, 101, 109] s.Mem) := line_r F.nm (by decide) F.mem (by have := F.ml; omega)
  have l3 : reticentref09_line.f l ([111, 117, 116] : Str) s.Out = some (lnA l [111, 117, 116] s.Out) := line_r F.nm (by decide) F.out (by have := F.ol; omega)
  have hst : stT l s = ((((((([112, 99, 32] : Str) ++ wr l s.Pc.V s.Pc.L) ++ ([32, 59, 10, 99, 111, 100, 101] : Str)) ++ prg l s) ++ ([10] : Str)) ++ lnA l [109, 101, 109] s.Mem) ++ lnS l s.Stack) ++ lnA l [111, 117, 116] s.Out := rfl
  have htl := F.tl
  have hS0 : (cum ([115, 116, 97, 99, 107] : Str) (tS l s.Stack)).length ≤ 200000 := by
    unfold lnS at hS
    rw [List.length_append] at hS
    omega
  rw [hst, one_r F.nm F.pc, bsome]
  generalize hMe : lnA l [109, 101, 109] s.Mem = M at *
  generalize lnA l [111, 117, 116] s.Out = O at *
  generalize wr l s.Pc.V s.Pc.L = W at *
  rw [if_pos (by simp only [List.length_cons, List.length_nil]; omega), if_pos (by simp only [List.length_append, List.length_cons, List.length_nil]; omega)]
  by_cases hk : s.Code = []
  · have hp : prg l s = [] := by unfold prg; rw [if_pos hk]
    have hlen : ¬ (s.Code.length : Int) > 0 := by rw [hk]; simp
    rw [hp, if_neg hlen, if_pos (by simp only [List.length_append, List.length_cons, List.length_nil]; omega), l1, bsome, if_pos (by simp only [List.length_append, List.length_cons, List.length_nil]; omega), if_pos (by simp only [List.length_append, List.length_cons, List.length_nil]; omega)]
    rw [(stack_t F.nm F.stack (by have := F.sl; omega) (base := (((((([112, 99, 32] : Str) ++ W) ++ ([32, 59, 10, 99, 111, 100, 101] : Str)) ++ ([10] : Str)) ++ M) ++ ([115, 116, 97, 99, 107] : Str))) (by simp only [List.length_append, List.length_cons, List.length_nil]; omega)).2, bsome, cum_app]
    rw [if_pos (by simp only [List.length_append, List.length_cons, List.length_nil]; omega), l3, bsome, if_pos (by simp only [List.length_append, List.length_cons, List.length_nil]; omega)]
    unfold lnS
    simp only [List.append_assoc, List.nil_append]
  · have hp : prg l s = ([32] : Str) ++ txt l s.Code := by unfold prg; rw [if_neg hk]
    have hlen : (s.Code.length : Int) > 0 := by
      have := List.length_pos_iff.2 hk
      omega
    rw [hp, if_pos hlen, if_pos (by simp only [List.length_append, List.length_cons, List.length_nil]; omega), text_r h hc F.code, bsome, if_pos (by simp only [List.length_append, List.length_cons, List.length_nil]; omega), if_pos (by simp only [List.length_append, List.length_cons, List.length_nil]; omega), l1, bsome, if_pos (by simp only [List.length_append, List.length_cons, List.length_nil]; omega), if_pos (by simp only [List.length_append, List.length_cons, List.length_nil]; omega)]
    rw [(stack_t F.nm F.stack (by have := F.sl; omega) (base := (((((((([112, 99, 32] : Str) ++ W) ++ ([32, 59, 10, 99, 111, 100, 101] : Str)) ++ ([32] : Str)) ++ txt l s.Code) ++ ([10] : Str)) ++ M) ++ ([115, 116, 97, 99, 107] : Str))) (by simp only [List.length_append, List.length_cons, List.length_nil]; omega)).1, bsome, cum_app]
    rw [if_pos (by simp only [List.length_append, List.length_cons, List.length_nil]; omega), l3, bsome, if_pos (by simp only [List.length_append, List.length_cons, List.length_nil]; omega)]
    unfold lnS
    simp only [List.append_assoc]
theorem right_any {l : api_Lattice} {U : List Nat} (h : Nm l U) {s : api_State} (z : Sz s) : state_Right.f l s = some (decide (chk l U = 0) && rightS (l.Up.length : Int) s) := by
  by_cases hc : chk l U = 0
  · rw [right_s h hc z, decide_eq_true hc, Bool.true_and]
  · rw [decide_eq_false hc, Bool.false_and]
    unfold state_Right.f
    rw [pright_eq h z.code, decide_eq_false hc, Bool.false_and]
    have hz : ∃ b, ((if (s.Mem.length : Int) ≤ 6 then (if (s.Stack.length : Int) ≤ 12 then (some (decide ((s.Out.length : Int) ≤ 8))) else (some false)) else (some false) : Option Bool)) = some b := by
      split
      · split
        · exact ⟨_, rfl⟩
        · exact ⟨_, rfl⟩
      · exact ⟨_, rfl⟩
    obtain ⟨b, hb⟩ := hz
    rw [hb]; rfl
theorem cut_eq (s : api_State) : ∃ s', reticentlaw09_cut.f s = some s' ∧ Sz s' := by
  unfold reticentlaw09_cut.f
  rw [show (15 : Int) = ((15 : Nat) : Int) from rfl, if_pos cutok, if_pos cutok, if_pos cutok, if_pos cutok]
  refine ⟨_, rfl, ⟨?_, ?_, ?_, ?_⟩⟩
  · exact Nat.le_trans lcut_le (by decide)
  · exact Nat.le_trans lcut_le (by decide)
  · exact Nat.le_trans lcut_le (by decide)
  · exact Nat.le_trans lcut_le (by decide)
theorem alive09 : reticentlaw09_alive.f = some true := reticentlaw09_alive.f_le 60 _ (by kernel_rfl)
theorem rights {l : api_Lattice} {a b : api_State} (hl : ∃ H cs, (kR f_api_Lattice).reps H cs l) : reticentlaw09_StateRight.f l a b = some true := by
  obtain ⟨l', U, e, h⟩ := few_eq hl
  obtain ⟨A, ea, za⟩ := cut_eq a
  obtain ⟨B, eb, zb⟩ := cut_eq b
  unfold reticentlaw09_StateRight.f
  rw [e, bsome, ea, bsome, eb, bsome, refCheck_eq h, (like (y := B) za).1, (like (y := B) za).2, (like (y := A) za).1, right_any h za, right_rs za, alive09]
  have hself : sameB A A = true := by unfold sameB; simp
  rw [hself]
  by_cases hc : chk l' U = 0
  · rw [text_s h hc za, bsome, bsome, if_pos hc, bsome, bsome, bsome, decide_eq_true hc, Bool.true_and, if_pos rfl, bsome, bsome, if_pos rfl, bsome, if_neg (by decide), bsome, bsome, if_neg (by decide), if_pos hc]
    cases hr : rightS (l'.Up.length : Int) A with
    | false =>
      rw [if_neg ff, if_pos (by decide), if_pos rfl]; rfl
    | true =>
      rw [if_pos tt, if_neg (by decide), if_pos rfl, text_rs h hc hr, bsome, decide_eq_true rfl]; rfl
  · have ht : state_Text.f l' A = some ([], chk l' U) := by
      unfold state_Text.f
      rw [check_eq h, bsome, if_neg hc]
    rw [ht, bsome, bsome, if_neg hc, bsome, bsome, decide_eq_false hc, Bool.false_and, if_pos rfl, bsome, bsome, if_pos rfl, bsome, if_neg (by decide), bsome, bsome, if_neg (by decide), if_neg hc, if_pos rfl]; rfl
end Go.Proofs.YtkcpghpglhamfaaGreatDoor.Su
