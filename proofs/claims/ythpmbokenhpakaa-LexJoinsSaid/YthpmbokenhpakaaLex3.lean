/- Tokens read, one by one; LexJoins. -/
import Derived.Test.YthpmbokenhpakaaLex2
set_option linter.unusedVariables false
set_option linter.unusedSimpArgs false
namespace Go.Proofs.Ythpmbokenhpakaa.Lex
open Go Go.Proofs.Ythpmbokenhpakaa.Ab Go.Proofs.Ythpmbokenhpakaa.LC
open Go.Proofs.Ythpmbokenhpakaa.Lat (lAt_some wrap64)
open Go.Proofs.Ythpmbokenhpakaa.Sho (wS wrapZ)
theorem tok_le : ∀ {s : Str}, s ≠ [] → (tokS s).2 ≤ s.length
  | [], h => absurd rfl h
  | c :: r, _ => by
    show (tokX (c.toNat : Int) c r).2 ≤ _
    unfold tokX
    split
    · simp
    · split
      · exact cnt_le ..
      · split
        · exact cnt_le ..
        · split
          · exact cnt_le ..
          · split
            · rename_i h
              have := congrArg List.length h
              simp at this ⊢
              omega
            · split
              · simp
              · simp
theorem lex_step {s : Str} (hs : s.length ≤ 2500) {L : List api_Tok} (hL : L.length ≤ 2500) {k : Nat} (hk : k < s.length) :
    lex_Lex.l0 s L (k : Int) = (if (tokS (s.drop k)).2 = 0 then some (.inl ([], (k : Int), 4)) else if (tokS (s.drop k)).1 = 0 then lex_Lex.l0 s L ((k + (tokS (s.drop k)).2 : Nat) : Int)
      else lex_Lex.l0 s (L ++ [⟨(tokS (s.drop k)).1, (s.drop k).take (tokS (s.drop k)).2, (k : Int)⟩]) ((k + (tokS (s.drop k)).2 : Nat) : Int)) := by
  have hne : s.drop k ≠ [] := by
    intro h
    have := congrArg List.length h
    simp at this; omega
  have hle := tok_le hne
  have hd : (s.drop k).length = s.length - k := List.length_drop ..
  have hcut : sCut s (k : Int) (s.length : Int) = s.drop k := by
    unfold sCut
    rw [List.take_of_length_le (by simp)]; simp
  have htok : lex_token.f (s.drop k) = some ((tokS (s.drop k)).1, ((tokS (s.drop k)).2 : Int)) := by
    match h : s.drop k with
    | [] => exact absurd h hne
    | c :: r => exact token_eq (by rw [← h]; omega)
  rw [lex_Lex.l0, if_pos (by omega), if_pos ⟨by omega, by omega⟩, hcut, htok, bsome]
  generalize hT : tokS (s.drop k) = T at *
  obtain ⟨kd, n⟩ := T
  simp only at hle ⊢
  have hw : IntKind.i64.wrap ((k : Int) + (n : Int)) = ((k + n : Nat) : Int) := by rw [wrapZ (by omega) (by omega)]; omega
  rw [hw]
  by_cases h0 : n = 0
  · subst h0
    rfl
  · have h0' : ¬ ((n : Int) = 0) := by omega
    rw [if_neg h0', if_neg h0]
    by_cases h1 : kd = 0
    · rw [if_pos h1, if_pos h1, bsome]
    · have hB : 1000000 ≤ big := by decide
      have hc2 : sCut s (k : Int) ((k + n : Nat) : Int) = (s.drop k).take n := by
        unfold sCut
        have : ((k + n : Nat) : Int).toNat - (k : Int).toNat = n := by omega
        rw [this]; simp
      rw [if_neg h1, if_neg h1, if_pos ⟨by omega, by omega, by omega⟩, if_pos (by simp; omega), bsome, hc2]
theorem alive : reticentlaw03_alive.f = some true := by
  have hL : lex_Lex.f [111, 110, 101, 60, 61, 116, 119, 111, 32, 35, 32, 99] = some ([⟨1, [111, 110, 101], 0⟩, ⟨3, [60, 61], 3⟩, ⟨1, [116, 119, 111], 5⟩, ⟨0, [], 12⟩], 0, 0) := by
    unfold lex_Lex.f
    rw [if_neg (by decide)]
    have st := fun (L : List api_Tok) (hl : L.length ≤ 2500) (k : Nat) (hk : k < 12) => lex_step (s := [111, 110, 101, 60, 61, 116, 119, 111, 32, 35, 32, 99]) (by decide) (L := L) hl (k := k) hk
    have s0 := st [] (by decide) 0 (by decide)
    have s1 := st [⟨1, [111, 110, 101], 0⟩] (by decide) 3 (by decide)
    have s2 := st [⟨1, [111, 110, 101], 0⟩, ⟨3, [60, 61], 3⟩] (by decide) 5 (by decide)
    have s3 := st [⟨1, [111, 110, 101], 0⟩, ⟨3, [60, 61], 3⟩, ⟨1, [116, 119, 111], 5⟩] (by decide) 8 (by decide)
    have s4 := st [⟨1, [111, 110, 101], 0⟩, ⟨3, [60, 61], 3⟩, ⟨1, [116, 119, 111], 5⟩] (by decide) 9 (by decide)
    have t0 : tokS (([111, 110, 101, 60, 61, 116, 119, 111, 32, 35, 32, 99] : Str).drop 0) = (1, 3) := by decide
    have t1 : tokS (([111, 110, 101, 60, 61, 116, 119, 111, 32, 35, 32, 99] : Str).drop 3) = (3, 2) := by decide
    have t2 : tokS (([111, 110, 101, 60, 61, 116, 119, 111, 32, 35, 32, 99] : Str).drop 5) = (1, 3) := by decide
    have t3 : tokS (([111, 110, 101, 60, 61, 116, 119, 111, 32, 35, 32, 99] : Str).drop 8) = (0, 1) := by decide
    have t4 : tokS (([111, 110, 101, 60, 61, 116, 119, 111, 32, 35, 32, 99] : Str).drop 9) = (0, 3) := by decide
    rw [t0] at s0
    rw [t1] at s1
    rw [t2] at s2
    rw [t3] at s3
    rw [t4] at s4
    have e : lex_Lex.l0 [111, 110, 101, 60, 61, 116, 119, 111, 32, 35, 32, 99] [⟨1, [111, 110, 101], 0⟩, ⟨3, [60, 61], 3⟩, ⟨1, [116, 119, 111], 5⟩] ((12 : Nat) : Int) = some (.inr [⟨1, [111, 110, 101], 0⟩, ⟨3, [60, 61], 3⟩, ⟨1, [116, 119, 111], 5⟩]) := by
      rw [lex_Lex.l0, if_neg (by decide)]
    have r0 : lex_Lex.l0 [111, 110, 101, 60, 61, 116, 119, 111, 32, 35, 32, 99] [] 0 = some (.inr [⟨1, [111, 110, 101], 0⟩, ⟨3, [60, 61], 3⟩, ⟨1, [116, 119, 111], 5⟩]) :=
      s0.trans (s1.trans (s2.trans (s3.trans (s4.trans e))))
    rw [r0, bsome]
    have hB : 1000000 ≤ big := by decide
    show (if _ then _ else _) = _
    rw [if_pos (by simp; omega), if_neg (by decide)]
    rfl
  unfold reticentlaw03_alive.f
  rw [hL, bsome]
  have hJ := joinL (l := [⟨1, [111, 110, 101], 0⟩, ⟨3, [60, 61], 3⟩, ⟨1, [116, 119, 111], 5⟩, ⟨0, [], 12⟩]) ⟨by decide, by decide⟩
  simp only [if_true]
  rw [if_pos (by decide), show lAt ([⟨1, [111, 110, 101], 0⟩, ⟨3, [60, 61], 3⟩, ⟨1, [116, 119, 111], 5⟩, ⟨0, [], 12⟩] : List api_Tok) 1 = some ⟨3, [60, 61], 3⟩ from rfl, bsome, if_pos rfl, hJ, bsome, bsome]
  decide
theorem few_l0 {l : List api_Tok} (m : Nat) (hm : (if 60 < (l.length : Int) then (60 : Int) else (l.length : Int)) = (m : Int)) (hml : m ≤ l.length) (hm60 : m ≤ 60) :
    ∀ (d k : Nat) (acc : List api_Tok), m = k + d → acc.length = k → (∀ t ∈ acc, t.Text.length ≤ 3000) → ∃ r, reticentlaw03_LexJoins.l0 l acc (k : Int) = some r ∧ Short r
  | 0, k, acc, e, ha, hs => by
    have hlen : (lCut l 0 (m : Int)).length = m := by simp [lCut]; omega
    exact ⟨acc, by rw [reticentlaw03_LexJoins.l0, hm, hlen, if_neg (by omega)], by omega, hs⟩
  | d + 1, k, acc, e, ha, hs => by
    have hlen : (lCut l 0 (m : Int)).length = m := by simp [lCut]; omega
    have hk : k < (lCut l 0 (m : Int)).length := by omega
    rw [reticentlaw03_LexJoins.l0, hm, if_pos (by omega), lAt_some hk, bsome]
    generalize (lCut l 0 (m : Int))[k] = t
    have hm2 : (if 30 < (t.Text.length : Int) then (30 : Int) else (t.Text.length : Int)) = ((min 30 t.Text.length : Nat) : Int) := by split <;> omega
    have hB : 1000000 ≤ big := by decide
    rw [hm2, if_pos ⟨by omega, by omega⟩, if_pos (by simp; omega), wS (by omega)]
    refine few_l0 m hm hml hm60 d (k + 1) _ (by omega) (by simp [ha]) fun u hu => ?_
    rcases List.mem_append.1 hu with hu | hu
    · exact hs u hu
    · simp at hu; subst hu
      simp [sCut]; omega
theorem joins {l : List api_Tok} (hl : l.length ≤ big) : reticentlaw03_LexJoins.f l = some true := by
  have hm : (if 60 < (l.length : Int) then (60 : Int) else (l.length : Int)) = ((min 60 l.length : Nat) : Int) := by split <;> omega
  obtain ⟨r, hr, hs⟩ := few_l0 (min 60 l.length) hm (by omega) (by omega) (min 60 l.length) 0 [] (by omega) rfl (fun t ht => by cases ht)
  rw [show ((0 : Nat) : Int) = 0 from rfl] at hr
  unfold reticentlaw03_LexJoins.f
  rw [if_pos (by rw [hm]; omega), hr, bsome, alive, bsome, if_pos rfl, joinL hs, joinR hs, bsome, bsome, bsome]
  simp
end Go.Proofs.Ythpmbokenhpakaa.Lex
namespace Go.Proofs.Ythpmbokenhpakaa.Pure
open Go Go.Proofs.Ythpmbokenhpakaa.Ab Go.Proofs.Ythpmbokenhpakaa.LC
theorem LexJoins (l : List api_Tok) (hl : ∃ H cs, (kL (kR f_api_Tok)).reps H cs l) : reticentlaw03_LexJoins.f l = some true := by
  obtain ⟨H, cs, A, c, _, _, _, hb, _⟩ := hl
  exact Lex.joins hb
end Go.Proofs.Ythpmbokenhpakaa.Pure
