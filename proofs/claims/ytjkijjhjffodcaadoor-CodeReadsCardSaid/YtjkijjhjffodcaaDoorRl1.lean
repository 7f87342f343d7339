/- The reference's tokens are the program's. -/
import Derived.Test.YtjkijjhjffodcaaDoorCrb1
import Derived.Test.YtjkijjhjffodcaaDoorGCR
set_option linter.unusedVariables false
set_option linter.unusedSimpArgs false
namespace Go.Proofs.YtjkijjhjffodcaaDoor.Cr
open Go Go.Proofs.YtjkijjhjffodcaaDoor.Ab Go.Proofs.YtjkijjhjffodcaaDoor.CR
theorem rletter_eq (c : Int) : reticentref03_letter.f c = some (letP c) := by
  unfold reticentref03_letter.f letP
  by_cases h : c ≥ 97 <;> simp [h]
theorem rdigit_eq (c : Int) : reticentref03_digit.f c = some (digP c) := by
  unfold reticentref03_digit.f digP
  by_cases h : c ≥ 48 <;> simp [h]
theorem rkind_eq (c : Int) : reticentref03_kind.f c = some (if letP c = true then 1 else if digP c = true then 2 else 3) := by
  unfold reticentref03_kind.f
  rw [rletter_eq, rdigit_eq, bsome]
  cases letP c <;> cases digP c <;> rfl
theorem rmark_all : ((List.range 256).all fun n => reticentref03_mark.f_g 20 (n : Int) == some (decide (Lib.indexByte marks n.toUInt8 ≥ 0))) = true := by kernel_rfl
theorem rmark_eq (c : UInt8) : reticentref03_mark.f (c.toNat : Int) = some (decide (Lib.indexByte marks c ≥ 0)) := by
  have h := List.all_eq_true.1 rmark_all c.toNat (List.mem_range.2 c.toNat_lt)
  have h' := eq_of_beq h
  rw [show (c.toNat).toUInt8 = c by simp] at h'
  exact reticentref03_mark.f_le 20 _ _ h'
/-- A loop that goes on while the bytes are of a sort. -/
theorem scan {p : Int → Bool} {L : Int → Option Int} {s : Str} (hs : s.length ≤ 3000) (hend : L (s.length : Int) = some (s.length : Int))
    (hgo : ∀ k, k < s.length → L (k : Int) = if p (sAt s (k : Int)) = true then L ((k + 1 : Nat) : Int) else some (k : Int)) : ∀ (d k : Nat), s.length = k + d → L (k : Int) = some ((k + cnt p (s.drop k) : Nat) : Int)
  | 0, k, e => by
    obtain rfl : k = s.length := by omega
    rw [hend, List.drop_of_length_le (by omega)]; simp [cnt]
  | d + 1, k, e => by
    have hk : k < s.length := by omega
    rw [hgo k hk, scan hs hend hgo d (k + 1) (by omega), sAt_get hk, List.drop_eq_getElem_cons hk]
    unfold cnt
    rw [List.takeWhile_cons]
    cases hp : p (s[k].toNat : Int) with
    | true => simp; omega
    | false => simp
theorem rend0 {s : Str} (hs : s.length ≤ 3000) {k : Nat} (hk : k ≤ s.length) : reticentref03_end.l0 s (k : Int) = some ((k + cnt letP (s.drop k) : Nat) : Int) :=
  scan (L := fun k => reticentref03_end.l0 s k) hs (by show reticentref03_end.l0 s _ = _; rw [reticentref03_end.l0, if_neg (by omega)]; rfl)
    (fun k hk => by show reticentref03_end.l0 s _ = _; rw [reticentref03_end.l0, if_pos (by omega), if_pos ⟨by omega, by omega⟩, rletter_eq, bsome, bsome, wS (by omega)]) (s.length - k) k (by omega)
theorem rend1 {s : Str} (hs : s.length ≤ 3000) {k : Nat} (hk : k ≤ s.length) : reticentref03_end.l1 s (k : Int) = some ((k + cnt digP (s.drop k) : Nat) : Int) :=
  scan (L := fun k => reticentref03_end.l1 s k) hs (by show reticentref03_end.l1 s _ = _; rw [reticentref03_end.l1, if_neg (by omega)]; rfl)
    (fun k hk => by show reticentref03_end.l1 s _ = _; rw [reticentref03_end.l1, if_pos (by omega), if_pos ⟨by omega, by omega⟩, rdigit_eq, bsome, bsome, wS (by omega)]) (s.length - k) k (by omega)
theorem rlex6 {s : Str} (hs : s.length ≤ 3000) {k : Nat} (hk : k ≤ s.length) : reticentref03_Lex.l6 s (k : Int) = some ((k + cnt remP (s.drop k) : Nat) : Int) :=
  scan (L := fun k => reticentref03_Lex.l6 s k) hs (by show reticentref03_Lex.l6 s _ = _; rw [reticentref03_Lex.l6, if_neg (by omega)]; rfl)
    (fun k hk => by show reticentref03_Lex.l6 s _ = _; rw [reticentref03_Lex.l6, if_pos (by omega), if_pos ⟨by omega, by omega⟩, bsome, wS (by omega)]; rfl) (s.length - k) k (by omega)
/-- How long a token is. -/
def endN (c : UInt8) (r : Str) : Nat := if letP c.toNat = true then cnt letP (c :: r) else if digP c.toNat = true then cnt digP (c :: r) else if (c :: r).take 2 = [60, 61] then 2 else if Lib.indexByte marks c ≥ 0 then 1 else 0
theorem toNat60 {c : UInt8} {n : Nat} (hn : n < 256) : ((c.toNat : Int) = (n : Int)) ↔ c = n.toUInt8 := by
  constructor
  · intro h
    have : c.toNat = n := by omega
    rw [← this]; simp
  · rintro rfl
    simp [Nat.mod_eq_of_lt hn]
theorem ff : ¬ (false = true) := by decide
theorem tt : true = true := rfl
theorem rend_eq {s : Str} (hs : s.length ≤ 2500) {k : Nat} {c : UInt8} {r : Str} (e : s.drop k = c :: r) : reticentref03_end.f s (k : Int) = some ((k + endN c r : Nat) : Int) := by
  have hk : k < s.length := by
    rcases Nat.lt_or_ge k s.length with h | h
    · exact h
    · rw [List.drop_of_length_le h] at e; cases e
  have e' := List.drop_eq_getElem_cons hk
  rw [e] at e'
  have hc : c = s[k] := (List.cons.inj e').1
  have hr : r = s.drop (k + 1) := (List.cons.inj e').2
  have hx : sAt s (k : Int) = (c.toNat : Int) := by rw [sAt_get hk, hc]
  have hg : (0 : Int) ≤ (k : Int) ∧ (k : Int) < (s.length : Int) := ⟨by omega, by omega⟩
  unfold reticentref03_end.f
  rw [if_pos hg, hx, rletter_eq, bsome, rend0 (by omega) (by omega), e, bsome, if_pos hg, rdigit_eq, bsome, rend1 (by omega) (by omega), e, bsome]
  unfold endN
  cases h1 : letP (c.toNat : Int) with
  | true => rw [if_pos tt, if_pos tt]
  | false =>
    rw [if_neg ff, if_neg ff]
    cases h2 : digP (c.toNat : Int) with
    | true => rw [if_pos tt, if_pos tt]
    | false =>
      rw [if_neg ff, if_neg ff, if_pos hg, if_pos hg, rmark_eq, bsome, wS (by omega)]
      have h60 : ((c.toNat : Int) = 60) ↔ c = 60 := toNat60 (n := 60) (by decide)
      have key : ((if (c.toNat : Int) = 60 then (if ((k + 1 : Nat) : Int) < (s.length : Int) then (if (0 : Int) ≤ ((k + 1 : Nat) : Int) ∧ ((k + 1 : Nat) : Int) < (s.length : Int) then (some (decide (sAt s ((k + 1 : Nat) : Int) = 61))) else none) else (some false)) else (some false) : Option Bool)) = some (decide ((c :: r).take 2 = [60, 61])) := by
        by_cases q : c = 60
        · rw [if_pos (h60.2 q)]
          by_cases q2 : k + 1 < s.length
          · have er := List.drop_eq_getElem_cons q2
            rw [← hr] at er
            rw [if_pos (by omega), if_pos ⟨by omega, by omega⟩, sAt_get q2, er, q]
            have h61 : ((s[k + 1].toNat : Int) = 61) ↔ s[k + 1] = 61 := toNat60 (n := 61) (by decide)
            congr 1
            by_cases z : s[k + 1] = 61
            · rw [decide_eq_true (h61.2 z), z]; simp
            · rw [decide_eq_false (fun w => z (h61.1 w)), decide_eq_false]
              intro w
              rw [List.take_succ_cons, List.take_succ_cons] at w
              exact z (by simpa using w)
          · have er : r = [] := by rw [hr, List.drop_of_length_le (by omega)]
            rw [if_neg (by omega), er, decide_eq_false (by simp)]
        · rw [if_neg (fun w => q (h60.1 w)), decide_eq_false]
          intro w
          simp at w
          exact q w.1
      rw [key, bsome]
      by_cases q : (c :: r).take 2 = [60, 61]
      · rw [decide_eq_true q, if_pos tt, if_pos q, wrapZ (by omega) (by omega)]; rfl
      · rw [decide_eq_false q, if_neg ff, if_neg q]
        by_cases q2 : Lib.indexByte marks c ≥ 0
        · rw [decide_eq_true q2, if_pos tt, if_pos q2]
        · rw [decide_eq_false q2, if_neg ff, if_neg q2]; rfl
theorem cnt_pos {p : Int → Bool} {c : UInt8} {r : Str} (h : p (c.toNat : Int) = true) : 0 < cnt p (c :: r) := by
  unfold cnt; rw [List.takeWhile_cons, if_pos h]; simp
theorem rlex_step {s : Str} (hs : s.length ≤ 2500) {L : List api_Tok} (hL : L.length ≤ 2500) {k : Nat} (hk : k < s.length) :
    reticentref03_Lex.l4 s L (k : Int) = (if (tokS (s.drop k)).2 = 0 then some (.inl ⟨[], (k : Int), 4⟩) else if (tokS (s.drop k)).1 = 0 then reticentref03_Lex.l4 s L ((k + (tokS (s.drop k)).2 : Nat) : Int)
      else reticentref03_Lex.l4 s (L ++ [⟨(tokS (s.drop k)).1, (s.drop k).take (tokS (s.drop k)).2, (k : Int)⟩]) ((k + (tokS (s.drop k)).2 : Nat) : Int)) := by
  have hne : s.drop k ≠ [] := by
    intro h
    have := congrArg List.length h
    simp at this; omega
  have hle := tok_le hne
  have hd : (s.drop k).length = s.length - k := List.length_drop ..
  obtain ⟨c, r, e⟩ : ∃ c r, s.drop k = c :: r := by
    match h : s.drop k with
    | [] => exact absurd h hne
    | c :: r => exact ⟨c, r, rfl⟩
  have e' := List.drop_eq_getElem_cons hk
  rw [e] at e'
  have hx : sAt s (k : Int) = (c.toNat : Int) := by rw [sAt_get hk, (List.cons.inj e').1]
  have hg : (0 : Int) ≤ (k : Int) ∧ (k : Int) < (s.length : Int) := ⟨by omega, by omega⟩
  have hB : 1000000 ≤ big := by decide
  have e6 := rlex6 (s := s) (by omega) (k := k) (by omega)
  have ee := rend_eq hs e
  rw [e] at e6 hle hd ⊢
  rw [reticentref03_Lex.l4, if_pos (show (k : Int) < (s.length : Int) by omega)]
  simp only [if_pos hg]
  rw [hx, e6, ee, bsome, bsome, rkind_eq, bsome]
  have hT : tokS (c :: r) = tokX (c.toNat : Int) c r := rfl
  rw [hT] at hle ⊢
  have hn : endN c r ≤ (c :: r).length := by
    unfold endN
    split
    · exact cnt_le ..
    · split
      · exact cnt_le ..
      · split
        · rename_i h
          have := congrArg List.length h
          simp at this ⊢
          omega
        · split <;> simp
  have hcut : sCut s (k : Int) ((k + endN c r : Nat) : Int) = (c :: r).take (endN c r) := by
    unfold sCut
    rw [Int.toNat_natCast, Int.toNat_natCast, ← e, Nat.add_sub_cancel_left]
  have hg2 : (0 : Int) ≤ (k : Int) ∧ (k : Int) ≤ ((k + endN c r : Nat) : Int) ∧ ((k + endN c r : Nat) : Int) ≤ (s.length : Int) := ⟨by omega, by omega, by omega⟩
  have hg3 : ∀ t : api_Tok, (L.length + ([t] : List api_Tok).length) * 32 ≤ big := by intro t; simp; omega
  rw [hcut, if_pos hg2, if_pos (hg3 _)]
  generalize hxx : (c.toNat : Int) = x at *
  unfold tokX
  have hw1 : IntKind.i64.wrap ((k : Int) + 1) = ((k + 1 : Nat) : Int) := wS (by omega)
  rw [hw1]
  by_cases h1 : x = 9
  · subst h1; simp
  · by_cases h2 : x = 10
    · subst h2; simp
    · by_cases h3 : x = 32
      · subst h3; simp
      · rw [if_neg h1, if_neg h2, decide_eq_false h3, bsome, if_neg (by decide), if_neg (show ¬ (x = 32 ∨ x = 9 ∨ x = 10) by omega)]
        by_cases h4 : x = 35
        · have hp : 0 < cnt remP (c :: r) := cnt_pos (by rw [hxx]; unfold remP; simp; omega)
          rw [if_pos h4, if_pos h4, bsome]
          simp only []
          rw [if_neg (by omega), if_pos trivial]
        · rw [if_neg h4, if_neg h4]
          unfold endN at hn hg2 ⊢
          rw [hxx] at hn hg2 ⊢
          cases h5 : letP x with
          | true =>
            have hp : 0 < cnt letP (c :: r) := cnt_pos (by rw [hxx]; exact h5)
            simp only [h5, if_true] at hn hg2 ⊢
            rw [if_neg (by omega), if_neg (by omega), if_neg (by decide), bsome]
          | false =>
            cases h6 : digP x with
            | true =>
              have hp : 0 < cnt digP (c :: r) := cnt_pos (by rw [hxx]; exact h6)
              simp only [h5, h6, if_true, if_false, Bool.false_eq_true] at hn hg2 ⊢
              rw [if_neg (by omega), if_neg (by omega), if_neg (by decide), bsome]
            | false =>
              simp only [h5, h6, if_false, Bool.false_eq_true] at hn hg2 ⊢
              by_cases h7 : (c :: r).take 2 = [60, 61]
              · simp only [h7, if_true] at hn hg2 ⊢
                rw [if_neg (by omega), if_neg (by decide), if_neg (by decide), bsome]
              · by_cases h8 : Lib.indexByte marks c ≥ 0
                · simp only [h7, h8, if_true, if_false] at hn hg2 ⊢
                  rw [if_neg (by omega), if_neg (by decide), if_neg (by decide), bsome]
                · simp only [h7, h8, if_false] at hn hg2 ⊢
                  rw [if_pos (by omega), if_pos trivial, bsome]
/-- What the two loops come to. -/
theorem lex_pair {s : Str} (hs : s.length ≤ 2000) : ∀ (d k : Nat) (L : List api_Tok), s.length - k ≤ d → k ≤ s.length → L.length ≤ k →
    (∃ q, lex_Lex.l0 s L (k : Int) = some (.inl ([], q, 4)) ∧ reticentref03_Lex.l4 s L (k : Int) = some (.inl ⟨[], q, 4⟩)) ∨ ∃ L', lex_Lex.l0 s L (k : Int) = some (.inr L') ∧ reticentref03_Lex.l4 s L (k : Int) = some (.inr L') ∧ L'.length ≤ s.length
  | 0, k, L, hd, hk, hL => by
    refine .inr ⟨L, by rw [lex_Lex.l0, if_neg (by omega)], by rw [reticentref03_Lex.l4, if_neg (by omega)], by omega⟩
  | d + 1, k, L, hd, hk, hL => by
    rcases Nat.lt_or_ge k s.length with hlt | hge
    · rw [lex_step (by omega) (by omega) hlt, rlex_step (by omega) (by omega) hlt]
      have hne : s.drop k ≠ [] := by
        intro h
        have := congrArg List.length h
        simp at this; omega
      have hle := tok_le hne
      rw [List.length_drop] at hle
      generalize hT : tokS (s.drop k) = T at *
      obtain ⟨kd, n⟩ := T
      simp only at hle ⊢
      by_cases h0 : n = 0
      · rw [if_pos h0, if_pos h0]; exact .inl ⟨_, rfl, rfl⟩
      · rw [if_neg h0, if_neg h0]
        by_cases h1 : kd = 0
        · rw [if_pos h1, if_pos h1]
          exact lex_pair hs d (k + n) L (by omega) (by omega) (by omega)
        · rw [if_neg h1, if_neg h1]
          exact lex_pair hs d (k + n) _ (by omega) (by omega) (by simp; omega)
    · exact .inr ⟨L, by rw [lex_Lex.l0, if_neg (by omega)], by rw [reticentref03_Lex.l4, if_neg (by omega)], by omega⟩
/-- Any text: the same tokens, or the same error at the same place; tokens end with the end, and with nothing else of its kind. -/
theorem lex_both {s : Str} : ∃ r j e, lex_Lex.f s = some (r, j, e) ∧ reticentref03_Lex.f s = some ⟨r, j, e⟩ ∧ (e = 0 → ∃ L, r = L ++ [⟨0, [], (s.length : Int)⟩] ∧ r.length ≤ 200) := by
  unfold lex_Lex.f reticentref03_Lex.f
  by_cases h : (s.length : Int) > 2000
  · rw [if_pos h, if_pos h]
    exact ⟨_, _, _, rfl, rfl, fun h => by cases h⟩
  · rw [if_neg h, if_neg h]
    have hB : 1000000 ≤ big := by decide
    rcases lex_pair (s := s) (by omega) s.length 0 [] (by omega) (by omega) (by simp) with ⟨q, e1, e2⟩ | ⟨L, e1, e2, hl⟩
    · rw [show ((0 : Nat) : Int) = 0 from rfl] at e1 e2
      rw [e1, e2, bsome, bsome]
      exact ⟨_, _, _, rfl, rfl, fun h => by cases h⟩
    · rw [show ((0 : Nat) : Int) = 0 from rfl] at e1 e2
      rw [e1, e2, bsome, bsome]
      dsimp only
      have hb : (L.length + ([(⟨0, [], (s.length : Int)⟩ : api_Tok)] : List api_Tok).length) * 32 ≤ big := by simp; omega
      rw [if_pos hb, if_pos hb]
      by_cases q : ((L ++ [(⟨0, [], (s.length : Int)⟩ : api_Tok)]).length : Int) > 200
      · rw [if_pos q, if_pos q]
        exact ⟨_, _, _, rfl, rfl, fun h => by cases h⟩
      · rw [if_neg q, if_neg q]
        exact ⟨_, _, _, rfl, rfl, fun _ => ⟨L, rfl, by omega⟩⟩
end Go.Proofs.YtjkijjhjffodcaaDoor.Cr
