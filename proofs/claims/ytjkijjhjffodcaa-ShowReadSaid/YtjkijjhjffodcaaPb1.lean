/- A tree, written and read. -/
import Derived.Test.YtjkijjhjffodcaaPa5
import Derived.Test.YtjkijjhjffodcaaPr6
set_option linter.unusedVariables false
set_option linter.unusedSimpArgs false
namespace Go.Proofs.Ytjkijjhjffodcaa.Par
open Go Go.Proofs.Ytjkijjhjffodcaa.Ab Go.Proofs.Ytjkijjhjffodcaa.LF
open Go.Proofs.Ytjkijjhjffodcaa.Lat (lAt_some)
theorem size_flat {t : Tr} {l : List Int} (h : t.flat = l) : t.size = l.length := by rw [← h, flat_len]
theorem written {t : Tr} (hw : t.wf) (hs : t.size ≤ 40) (hd : (tx t).2 ≤ 12) : ∃ ts : List api_Tok, lex_Lex.f (tx t).1 = some (ts ++ [⟨0, [], ((tx t).1.length : Int)⟩], 0, 0) ∧ ts.map kt = tk t ∧ Der (kOf t.sort) 12 ts t ∧
    rule_From.f (ts ++ [⟨0, [], ((tx t).1.length : Int)⟩]) 0 t.sort = some (t.flat, (ts.length : Int), 0) := by
  have hk := tk_len t
  have hl := (tx_len t).1
  have hlx : LexTo (tx t).1 (tk t) := by
    have := tx_lex (wf_ok hw) sep_nil LexTo.nil
    simpa using this
  obtain ⟨ts, e1, e2⟩ := lex_eq hlx (by omega) (by omega)
  have hD := tk_der hw ts e2
  have hD2 := top_der (ok_op (wf_ok hw)) hD
  rw [← sort_op (wf_ok hw)] at hD2
  have hD3 := der_mono hD2 (d' := 12) (by omega)
  refine ⟨ts, e1, e2, hD3, ?_⟩
  have hlen : ts.length = (tk t).length := by rw [← e2]; simp
  have hp := der_len hD3
  have hM : May (ts ++ [⟨0, [], ((tx t).1.length : Int)⟩]) 0 := by
    refine ⟨by omega, by simp, fun j hj hj1 => ?_⟩
    have : j = ts.length := by simp at hj1; omega
    subst this
    simp
  have := from_der (l := ts ++ [⟨0, [], ((tx t).1.length : Int)⟩]) (i := 0) (by simp; omega) hM hD3 hs (r := []) (z := ⟨0, [], ((tx t).1.length : Int)⟩) (by simp) (zero_stops rfl)
  rw [this]; simp
theorem alive05 : reticentlaw05_alive.f = some true := by
  have hr : right [9, 10, 12, 11, 13, 8, 5] = some false := by decide
  have := (Psh.text_eq (l := [9, 10, 12, 11, 13, 8, 5]) (by decide)).2 (.nd 5 (.nd 13 (.nd 12 (.lf 9) (.lf 10)) (.lf 11)) (.lf 8)) (by simp [Tr.ok, NdOp, LfOp]) rfl (by rw [hr]; simp)
  unfold reticentlaw05_alive.f
  rw [this, bsome]
  decide
end Go.Proofs.Ytjkijjhjffodcaa.Par
