/- States: lines as tokens; all of the text. -/
import Derived.Test.YtkcpghpglhamfaaGreatDoorSk4
set_option linter.unusedVariables false
set_option linter.unusedSimpArgs false
set_option linter.unusedSectionVars false
namespace Go.Proofs.YtkcpghpglhamfaaGreatDoor.Sk
open Go Go.Proofs.YtkcpghpglhamfaaGreatDoor.Ab Go.Proofs.YtkcpghpglhamfaaGreatDoor.SK
section
variable {α : Type} {f : α → Str} {g : α → List (Int × Str)}
theorem jt_lex {s : Str} {T : List (Int × Str)} (hs : Sep s) (k : LexTo s T) : ∀ {x : List α}, (∀ a ∈ x, ∀ s T, Sep s → LexTo s T → LexTo (f a ++ s) (g a ++ T)) →
    LexTo (Lib.joinTail [32, 44, 32] (x.map f) ++ s) (x.flatMap (fun a => (3, [44]) :: g a) ++ T) ∧ Sep (Lib.joinTail [32, 44, 32] (x.map f) ++ s)
  | [], _ => ⟨k, hs⟩
  | a :: x, h => by
    obtain ⟨i1, i2⟩ := jt_lex hs k (x := x) (fun b hb => h b (List.mem_cons_of_mem _ hb))
    have h1 := lt_sp (lt_cm (lt_sp (h a (List.mem_cons_self ..) _ _ i2 i1)))
    rw [List.flatMap_cons]
    refine ⟨by simpa [Lib.joinTail, List.append_assoc] using h1, ?_⟩
    simp only [List.map_cons, Lib.joinTail]
    exact sep_cons (by decide)
def rowK (g : α → List (Int × Str)) : List α → List (Int × Str)
  | [] => []
  | a :: x => g a ++ x.flatMap (fun a => (3, [44]) :: g a)
theorem line_lex {word : Str} (hw : word ≠ []) (hw2 : ∀ c ∈ word, letP (c.toNat : Int) = true) {s : Str} {T : List (Int × Str)} (k : LexTo s T) {x : List α} (h : ∀ a ∈ x, ∀ s T, Sep s → LexTo s T → LexTo (f a ++ s) (g a ++ T)) :
    LexTo ((cum word (x.map f) ++ ([32, 59, 10] : Str)) ++ s) ((1, word) :: (rowK g x ++ (3, [59]) :: T)) := by
  have fin : LexTo (([32, 59, 10] : Str) ++ s) ((3, [59]) :: T) := lt_sp (lt_mk (.inr (.inl rfl)) (lt_nl k))
  have hsep : Sep (([32, 59, 10] : Str) ++ s) := sep_cons (by decide)
  rw [List.append_assoc]
  cases x with
  | nil =>
    unfold cum rowK
    rw [List.map_nil, if_pos rfl]
    exact lt_word hw hw2 hsep fin
  | cons a x =>
    unfold cum rowK
    rw [if_neg (by simp), List.map_cons, Lib.join_cons, List.append_assoc, List.append_assoc, List.append_assoc]
    obtain ⟨i1, i2⟩ := jt_lex hsep fin (x := x) (fun b hb => h b (List.mem_cons_of_mem _ hb))
    refine lt_word hw hw2 (sep_cons (by decide)) (lt_sp ?_)
    have := h a (List.mem_cons_self ..) _ _ i2 i1
    simpa [List.append_assoc] using this
end
def slT (l : api_Lattice) (x : api_Slot) : List (Int × Str) := (if x.Ret = true then [(1, [114, 101, 116])] else []) ++ wrT l x.V x.L
theorem slot_lex {l : api_Lattice} (hL : Lok l) {x : api_Slot} (h : Aok l x.V x.L) {s : Str} {T : List (Int × Str)} (hs : Sep s) (k : LexTo s T) : LexTo (tS1 l x ++ s) (slT l x ++ T) := by
  have i := wr_lex hL h hs k
  unfold tS1 slT
  cases x.Ret with
  | true =>
    rw [if_pos tt, if_pos tt]
    have := lt_word (w := [114, 101, 116]) (by decide) (by decide) (sep_cons (c := 32) (by decide)) (lt_sp i)
    simpa [List.append_assoc] using this
  | false =>
    rw [if_neg ff, if_neg ff]
    exact i
/-- The whole text's tokens. -/
def stTk (l : api_Lattice) (s : api_State) : List (Int × Str) :=
  (1, [112, 99]) :: (wrT l s.Pc.V s.Pc.L ++ ((3, [59]) :: (1, [99, 111, 100, 101]) :: (s.Code.flatMap (txT l) ++
    ((1, [109, 101, 109]) :: (rowK (fun a => wrT l a.V a.L) s.Mem ++ (3, [59]) :: ((1, [115, 116, 97, 99, 107]) :: (rowK (slT l) s.Stack ++ (3, [59]) :: ((1, [111, 117, 116]) :: (rowK (fun a => wrT l a.V a.L) s.Out ++ [(3, [59])])))))))))
theorem prg_lex {l : api_Lattice} (hL : Lok l) {s : api_State} (hI : ∀ x ∈ s.Code, Iok l x) {R : Str} {T : List (Int × Str)} (k : LexTo R T) : LexTo (prg l s ++ (10 :: R)) (s.Code.flatMap (txT l) ++ T) ∧ Sep (prg l s ++ (10 :: R)) := by
  unfold prg
  by_cases hk : s.Code = []
  · rw [if_pos hk, hk]
    exact ⟨lt_nl k, sep_cons (by decide)⟩
  · rw [if_neg hk, List.append_assoc]
    exact ⟨lt_sp (textc_lex hL (lt_nl k) hI), sep_cons (by decide)⟩
theorem st_lex {l : api_Lattice} {U : List Nat} (h : Nm l U) (hc : chk l U = 0) {s : api_State} (F : Fine l s) (hI : ∀ x ∈ s.Code, Iok l x) : LexTo (stT l s) (stTk l s) := by
  have hL := lok_of h hc
  have hA : ∀ {x : List api_Atom}, (∀ a ∈ x, Aok l a.V a.L) → ∀ a ∈ x, ∀ (s : Str) (T : List (Int × Str)), Sep s → LexTo s T → LexTo ((fun a : api_Atom => wr l a.V a.L) a ++ s) ((fun a : api_Atom => wrT l a.V a.L) a ++ T) := fun hx a ha s T hs k => wr_lex hL (hx a ha) hs k
  have e1 : LexTo (lnA l [111, 117, 116] s.Out) ((1, [111, 117, 116]) :: (rowK (fun a => wrT l a.V a.L) s.Out ++ [(3, [59])])) := by
    have := line_lex (f := fun a : api_Atom => wr l a.V a.L) (g := fun a : api_Atom => wrT l a.V a.L) (word := [111, 117, 116]) (by decide) (by decide) LexTo.nil (hA F.out)
    rw [List.append_nil] at this
    exact this
  have e2 : LexTo (lnS l s.Stack ++ lnA l [111, 117, 116] s.Out) _ := line_lex (f := tS1 l) (g := slT l) (word := [115, 116, 97, 99, 107]) (by decide) (by decide) e1 (fun a ha s T hs k => slot_lex hL (F.stack a ha) hs k)
  have e3 : LexTo (lnA l [109, 101, 109] s.Mem ++ (lnS l s.Stack ++ lnA l [111, 117, 116] s.Out)) _ := line_lex (f := fun a : api_Atom => wr l a.V a.L) (g := fun a : api_Atom => wrT l a.V a.L) (word := [109, 101, 109]) (by decide) (by decide) e2 (hA F.mem)
  have e4 := prg_lex hL hI e3
  have e5 := lt_sp (lt_mk (.inr (.inl rfl)) (lt_nl (lt_word (w := [99, 111, 100, 101]) (by decide) (by decide) e4.2 e4.1)))
  have e6 := wr_lex hL F.pc (sep_cons (c := 32) (by decide)) e5
  have e7 := lt_word (w := [112, 99]) (by decide) (by decide) (sep_cons (c := 32) (by decide)) (lt_sp e6)
  unfold stT pre stTk
  simpa [List.append_assoc] using e7
end Go.Proofs.YtkcpghpglhamfaaGreatDoor.Sk
