/- States: what is written, as tokens. -/
import Derived.Test.YtkcpghpglhamfaaGreatDoorSk3
set_option linter.unusedVariables false
set_option linter.unusedSimpArgs false
set_option linter.unusedSectionVars false
namespace Go.Proofs.YtkcpghpglhamfaaGreatDoor.Sk
open Go Go.Proofs.YtkcpghpglhamfaaGreatDoor.Ab Go.Proofs.YtkcpghpglhamfaaGreatDoor.SK
theorem lt_nl {s : Str} {T : List (Int × Str)} (k : LexTo s T) : LexTo (10 :: s) T := .skip (n := 1) rfl (by decide) k
theorem lt_cm {s : Str} {T : List (Int × Str)} (k : LexTo s T) : LexTo (44 :: s) ((3, [44]) :: T) := by
  have h : tokS (44 :: s) = (3, 1) := by
    show tokX 44 44 s = _
    unfold tokX
    rw [if_neg (by decide), if_neg (by decide), if_neg (by decide), if_neg (by decide), if_neg (fun q => by cases s <;> simp at q), if_pos (by decide)]
  exact LexTo.tok (n := 1) h (by decide) (by decide) k
/-- An atom's tokens. -/
def wrT (l : api_Lattice) (v a : Int) : List (Int × Str) := sgT v ++ [(3, [64]), (1, l.Names.getD a.toNat [])]
theorem dg {c : UInt8} {r : Str} (h : digP (c.toNat : Int) = false) : ∀ c' r', c :: r = c' :: r' → digP (c'.toNat : Int) = false := fun c' r' e => by cases e; exact h
theorem wr_lex {l : api_Lattice} (hL : Lok l) {v a : Int} (h : Aok l v a) {s : Str} {T : List (Int × Str)} (hs : Sep s) (k : LexTo s T) : LexTo (wr l v a ++ s) (wrT l v a ++ T) := by
  have ha := h.a0
  have ha1 := h.a1
  have hm : l.Names.getD a.toNat [] ∈ l.Names := by
    have hi : a.toNat < l.Names.length := by omega
    rw [show l.Names.getD a.toNat [] = l.Names[a.toNat] by simp [hi]]; exact List.getElem_mem hi
  have hn := hL.word _ hm
  unfold wr wrT
  simp only [List.append_assoc]
  refine sg_lex h.v0 h.v1 (dg (by decide)) (lt_sp (lt_mk (.inr (.inr rfl)) (lt_sp ?_)))
  exact lt_word hn.1 hn.2 hs k
theorem lex_of {F : Str} {T : List (Int × Str)} (h : LexTo F T) : (∃ a, lex_Lex.f F = some ([], a, 8)) ∨ ∃ ts, lex_Lex.f F = some (ts ++ [⟨0, [], (F.length : Int)⟩], 0, 0) ∧ ts.map kt = T ∧ ts.length < 200 := by
  by_cases hF : F.length ≤ 2000
  · by_cases hT : T.length < 200
    · obtain ⟨ts, e1, e2⟩ := lex_eq h hF hT
      refine .inr ⟨ts, e1, e2, ?_⟩
      have := congrArg List.length e2
      rw [List.length_map] at this
      omega
    · left
      obtain ⟨ts, e1, e2⟩ := lex_to (by omega) h 0 [] rfl (by omega) (by simp)
      have hlen : ts.length = T.length := by rw [← e2]; simp
      have hle : lex_Lex.l0 F [] 0 = some (.inr ts) := e1
      obtain ⟨r, j, e, h1, h2⟩ := lex_end (s := F)
      by_cases he : e = 0
      · exfalso
        obtain ⟨L, rfl, hL⟩ := h2 he
        unfold lex_Lex.f at h1
        rw [if_neg (by omega), hle, bsome] at h1
        have h1 : (if (ts.length + ([(⟨0, [], (F.length : Int)⟩ : api_Tok)] : List api_Tok).length) * 32 ≤ big then (if ((ts ++ ([(⟨0, [], (F.length : Int)⟩ : api_Tok)] : List api_Tok)).length : Int) > 200 then (some (([] : List api_Tok), (0 : Int), (8 : Int))) else (some (ts ++ ([(⟨0, [], (F.length : Int)⟩ : api_Tok)] : List api_Tok), 0, 0))) else none) = some (L ++ [⟨0, [], (F.length : Int)⟩], j, e) := h1
        split at h1
        · split at h1
          · have := congrArg (fun x => x.map (fun y => y.2.2)) h1
            simp at this
            omega
          · rename_i hq
            simp at hq
            omega
        · cases h1
      · unfold lex_Lex.f at h1 ⊢
        rw [if_neg (by omega), hle, bsome] at h1 ⊢
        have h1 : (if (ts.length + ([(⟨0, [], (F.length : Int)⟩ : api_Tok)] : List api_Tok).length) * 32 ≤ big then (if ((ts ++ ([(⟨0, [], (F.length : Int)⟩ : api_Tok)] : List api_Tok)).length : Int) > 200 then (some (([] : List api_Tok), (0 : Int), (8 : Int))) else (some (ts ++ ([(⟨0, [], (F.length : Int)⟩ : api_Tok)] : List api_Tok), 0, 0))) else none) = some (r, j, e) := h1
        show ∃ a, (if (ts.length + ([(⟨0, [], (F.length : Int)⟩ : api_Tok)] : List api_Tok).length) * 32 ≤ big then (if ((ts ++ ([(⟨0, [], (F.length : Int)⟩ : api_Tok)] : List api_Tok)).length : Int) > 200 then (some (([] : List api_Tok), (0 : Int), (8 : Int))) else (some (ts ++ ([(⟨0, [], (F.length : Int)⟩ : api_Tok)] : List api_Tok), 0, 0))) else none) = some ([], a, 8)
        split at h1
        · rename_i hb
          rw [if_pos hb]
          split at h1
          · rename_i hq
            rw [if_pos hq]
            exact ⟨0, rfl⟩
          · rename_i hq
            simp at hq
            omega
        · cases h1
  · left
    unfold lex_Lex.f
    rw [if_pos (by omega)]
    exact ⟨0, rfl⟩
theorem tailc_lex {l : api_Lattice} (hL : Lok l) {s : Str} {T : List (Int × Str)} (k : LexTo s T) : ∀ {c : List api_Instr}, (∀ x ∈ c, Iok l x) → LexTo (Lib.joinTail [32] (c.map (txi l)) ++ s) (c.flatMap (txT l) ++ T)
  | [], _ => k
  | x :: c, h => by
    have := lt_sp (txi_lex hL (h x (List.mem_cons_self ..)) (tailc_lex hL k fun y hy => h y (List.mem_cons_of_mem _ hy)))
    rw [List.flatMap_cons]
    simpa [Lib.joinTail, List.append_assoc] using this
theorem textc_lex {l : api_Lattice} (hL : Lok l) {s : Str} {T : List (Int × Str)} (k : LexTo s T) : ∀ {c : List api_Instr}, (∀ x ∈ c, Iok l x) → LexTo (txt l c ++ s) (c.flatMap (txT l) ++ T)
  | [], _ => k
  | x :: c, h => by
    unfold txt
    rw [List.map_cons, Lib.join_cons, List.flatMap_cons, List.append_assoc, List.append_assoc]
    exact txi_lex hL (h x (List.mem_cons_self ..)) (tailc_lex hL k fun y hy => h y (List.mem_cons_of_mem _ hy))
end Go.Proofs.YtkcpghpglhamfaaGreatDoor.Sk
