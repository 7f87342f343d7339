/- ShowRead. -/
import Derived.Test.YtjkijjhjffodcaaPb1
import Derived.Test.YtjkijjhjffodcaaPr8
set_option linter.unusedVariables false
set_option linter.unusedSimpArgs false
namespace Go.Proofs.Ytjkijjhjffodcaa.Par
open Go Go.Proofs.Ytjkijjhjffodcaa.Ab Go.Proofs.Ytjkijjhjffodcaa.LF
open Go.Proofs.Ytjkijjhjffodcaa.Lat (lAt_some)
theorem sort4 {op : Int} {x y : Tr} : (Tr.nd op x y).sort = decide (op ≥ 12) := rfl
theorem der_wf : ∀ {k d : Nat} {w : List api_Tok} {t : Tr}, Der k d w t → t.wf ∧ t.sort = sortK k := by
  intro k d w t h
  induction h with
  | tru h => exact ⟨.inl rfl, rfl⟩
  | fls h => exact ⟨.inr (.inl rfl), rfl⟩
  | parC ha h hb ih => exact ⟨ih.1, ih.2⟩
  | flows hx hm hy ihx ihy => exact ⟨⟨.inr (.inr (.inl rfl)), ihx.1, ihy.1, by rw [ihx.2]; rfl, by rw [ihy.2]; rfl⟩, rfl⟩
  | @leaf d t op hk hw =>
    have hop : op = 6 ∨ op = 7 ∨ op = 8 ∨ op = 9 ∨ op = 10 ∨ op = 11 := by
      simp only [wordsL, mFind] at hw
      repeat' (split at hw)
      all_goals first | (cases hw; simp) | cases hw
    rcases hop with rfl | rfl | rfl | rfl | rfl | rfl <;> exact ⟨by unfold Tr.wf LfOp; simp, rfl⟩
  | parL ha h hb ih => exact ⟨ih.1, ih.2⟩
  | @one k d w t hk h ih =>
    refine ⟨ih.1, ih.2.trans ?_⟩
    have : k = 0 ∨ k = 1 ∨ k = 2 ∨ k = 3 := by omega
    rcases this with rfl | rfl | rfl | rfl <;> rfl
  | @more k d m w1 w2 x y hk hx hm hy ihx ihy =>
    have : k = 0 ∨ k = 1 ∨ k = 2 ∨ k = 3 := by omega
    rcases this with rfl | rfl | rfl | rfl
    · exact ⟨⟨.inr (.inl rfl), ihx.1, ihy.1, by rw [ihx.2]; rfl, by rw [ihy.2]; rfl⟩, rfl⟩
    · exact ⟨⟨.inl rfl, ihx.1, ihy.1, by rw [ihx.2]; rfl, by rw [ihy.2]; rfl⟩, rfl⟩
    · exact ⟨⟨.inr (.inr (.inr (.inl rfl))), ihx.1, ihy.1, by rw [ihx.2]; rfl, by rw [ihy.2]; rfl⟩, rfl⟩
    · exact ⟨⟨.inr (.inr (.inr (.inr rfl))), ihx.1, ihy.1, by rw [ihx.2]; rfl, by rw [ihy.2]; rfl⟩, rfl⟩
def need : Nat → Int
  | 0 => 1
  | 1 => 2
  | 2 => 1
  | 3 => 2
  | _ => 3
def J (w : List api_Tok) : Nat := (w.map fun t => t.Text.length + 1).sum
theorem J_app {a b : List api_Tok} : J (a ++ b) = J a + J b := by simp [J]
theorem J_cons {a : api_Tok} {b : List api_Tok} : J (a :: b) = a.Text.length + 1 + J b := by simp [J]
theorem J_nil : J [] = 0 := rfl
theorem wi_one {op b least : Int} {p : Str × Int} : (wi op b least p).2 = p.2 + (if b ≥ least then 0 else 1) ∧ (wi op b least p).1.length = p.1.length + (if b ≥ least then 0 else 2) := by
  unfold wi
  split
  · exact ⟨by omega, by omega⟩
  · refine ⟨rfl, ?_⟩
    cases lab op <;> simp
theorem bd_pos (op : Int) : 1 ≤ bd op ∧ bd op ≤ 3 := by
  unfold bd; split
  · omega
  · split <;> omega
theorem isT_text {t : api_Tok} {s : Str} (h : isT t s = true) : t.Text = s := by
  unfold isT at h
  rw [Bool.and_eq_true] at h
  exact of_decide_eq_true h.2
theorem find_wd {s : Str} {op : Int} (h : mFind wordsL s = some op) : s = wd op ∧ LfOp op := by
  simp only [wordsL, mFind] at h
  repeat' (split at h)
  all_goals first | (rename_i q; cases h; subst q; exact ⟨by decide, by unfold LfOp; simp⟩) | cases h
theorem der_bound : ∀ {k d : Nat} {w : List api_Tok} {t : Tr}, Der k d w t →
    (tx t).2 + (if bd t.op ≥ need k then 0 else 1) ≤ (d : Int) ∧ (tx t).1.length + 1 + (if bd t.op ≥ need k then 0 else 2) ≤ J w := by
  intro k d w t h
  induction h with
  | tru h =>
    have := isT_text h
    rw [J_cons, J_nil, this]
    exact ⟨by show (0 : Int) + (if (3 : Int) ≥ 3 then 0 else 1) ≤ _; simp, by decide⟩
  | fls h =>
    have := isT_text h
    rw [J_cons, J_nil, this]
    exact ⟨by show (0 : Int) + (if (3 : Int) ≥ 3 then 0 else 1) ≤ _; simp, by decide⟩
  | @parC d a b w t ha h hb ih =>
    obtain ⟨i1, i2⟩ := ih
    have hp := bd_pos t.op
    rw [if_pos (show bd t.op ≥ need 0 from hp.1)] at i1 i2
    rw [J_cons, J_app, J_cons, J_nil]
    constructor
    · split <;> omega
    · split <;> omega
  | @parL d a b w t ha h hb ih =>
    obtain ⟨i1, i2⟩ := ih
    have hp := bd_pos t.op
    rw [if_pos (show bd t.op ≥ need 2 from hp.1)] at i1 i2
    rw [J_cons, J_app, J_cons, J_nil]
    constructor
    · split <;> omega
    · split <;> omega
  | @flows d m w1 w2 x y hx hm hy ihx ihy =>
    obtain ⟨i1, i2⟩ := ihx
    obtain ⟨j1, j2⟩ := ihy
    have hpx := bd_pos x.op
    have hpy := bd_pos y.op
    rw [if_pos (show bd x.op ≥ need 2 from hpx.1)] at i1 i2
    rw [if_pos (show bd y.op ≥ need 2 from hpy.1)] at j1 j2
    rw [J_app, J_cons, isT_text hm]
    have e1 : (tx (.nd 5 x y)).1 = ((((tx x).1 ++ [32]) ++ [60, 61]) ++ [32]) ++ (tx y).1 := rfl
    have e2 : (tx (.nd 5 x y)).2 = if (tx x).2 < (tx y).2 then (tx y).2 else (tx x).2 := rfl
    have h3 : bd (Tr.nd 5 x y).op ≥ need 4 := by show bd 5 ≥ 3; decide
    rw [e1, e2, if_pos h3, if_pos h3]
    constructor
    · split <;> omega
    · simp; omega
  | @leaf d t op hk hw =>
    obtain ⟨h1, h2⟩ := find_wd hw
    have hb := Psh.bd_lf h2
    rw [J_cons, J_nil, h1]
    have e : (Tr.lf op).op = op := rfl
    rw [e, hb]
    exact ⟨by show (0 : Int) + (if (3 : Int) ≥ 3 then 0 else 1) ≤ _; simp, by show (wd op).length + 1 + (if (3 : Int) ≥ 3 then 0 else 2) ≤ _; simp⟩
  | @one k d w t hk h ih =>
    obtain ⟨i1, i2⟩ := ih
    have hn : need k ≤ need (sub k) := by
      have : k = 0 ∨ k = 1 ∨ k = 2 ∨ k = 3 := by omega
      rcases this with rfl | rfl | rfl | rfl <;> decide
    by_cases q : bd t.op ≥ need (sub k)
    · rw [if_pos q] at i1 i2
      rw [if_pos (by omega), if_pos (by omega)]; exact ⟨i1, i2⟩
    · rw [if_neg q] at i1 i2
      constructor <;> split <;> omega
  | @more k d m w1 w2 x y hk hx hm hy ihx ihy =>
    obtain ⟨i1, i2⟩ := ihx
    obtain ⟨j1, j2⟩ := ihy
    have hk4 : k = 0 ∨ k = 1 ∨ k = 2 ∨ k = 3 := by omega
    have h5 : ¬ opk k = 5 := by rcases hk4 with rfl | rfl | rfl | rfl <;> decide
    have hb : bd (opk k) = need k := by rcases hk4 with rfl | rfl | rfl | rfl <;> decide
    have hs : need (sub k) = bd (opk k) + 1 := by rcases hk4 with rfl | rfl | rfl | rfl <;> decide
    have hw : (wd (opk k)).length = (wdK k).length := by rcases hk4 with rfl | rfl | rfl | rfl <;> decide
    have e1 : (tx (.nd (opk k) x y)).1 = ((((wi (opk k) (bd x.op) (bd (opk k)) (tx x)).1 ++ [32]) ++ wd (opk k)) ++ [32]) ++ (wi (opk k) (bd y.op) (bd (opk k) + 1) (tx y)).1 := by
      show ((((if opk k = 5 then tx x else wi (opk k) (bd x.op) (bd (opk k)) (tx x)).1 ++ [32]) ++ wd (opk k)) ++ [32]) ++ (if opk k = 5 then tx y else wi (opk k) (bd y.op) (bd (opk k) + 1) (tx y)).1 = _
      rw [if_neg h5, if_neg h5]
    have e2 : (tx (.nd (opk k) x y)).2 = if (wi (opk k) (bd x.op) (bd (opk k)) (tx x)).2 < (wi (opk k) (bd y.op) (bd (opk k) + 1) (tx y)).2 then (wi (opk k) (bd y.op) (bd (opk k) + 1) (tx y)).2 else (wi (opk k) (bd x.op) (bd (opk k)) (tx x)).2 := by
      show (if (if opk k = 5 then tx x else wi (opk k) (bd x.op) (bd (opk k)) (tx x)).2 < (if opk k = 5 then tx y else wi (opk k) (bd y.op) (bd (opk k) + 1) (tx y)).2 then (if opk k = 5 then tx y else wi (opk k) (bd y.op) (bd (opk k) + 1) (tx y)).2 else (if opk k = 5 then tx x else wi (opk k) (bd x.op) (bd (opk k)) (tx x)).2) = _
      rw [if_neg h5, if_neg h5]
    have hx1 := wi_one (op := opk k) (b := bd x.op) (least := bd (opk k)) (p := tx x)
    have hy1 := wi_one (op := opk k) (b := bd y.op) (least := bd (opk k) + 1) (p := tx y)
    rw [← hb] at i1 i2
    rw [hs] at j1 j2
    rw [← hx1.1] at i1
    rw [← hy1.1] at j1
    have i2' : (wi (opk k) (bd x.op) (bd (opk k)) (tx x)).1.length + 1 ≤ J w1 := by rw [hx1.2]; omega
    have j2' : (wi (opk k) (bd y.op) (bd (opk k) + 1) (tx y)).1.length + 1 ≤ J w2 := by rw [hy1.2]; omega
    rw [J_app, J_cons, isT_text hm, e1, e2]
    have hbb : bd (Tr.nd (opk k) x y).op ≥ need k := by show bd (opk k) ≥ need k; omega
    rw [if_pos hbb, if_pos hbb]
    constructor
    · split <;> omega
    · simp only [List.length_append, List.length_cons, List.length_nil]; omega
theorem der_text : ∀ {k d : Nat} {w : List api_Tok} {t : Tr}, Der k d w t → ∀ a ∈ w, a.Text ≠ [] := by
  intro k d w t h
  have hT : ∀ {a : api_Tok} {s : Str}, isT a s = true → s ≠ [] → a.Text ≠ [] := fun h q => by rw [isT_text h]; exact q
  induction h with
  | tru h => intro a ha; simp at ha; subst ha; exact hT h (by decide)
  | fls h => intro a ha; simp at ha; subst ha; exact hT h (by decide)
  | parC ha h hb ih =>
    intro q hq; simp at hq
    rcases hq with rfl | hq | rfl
    · exact hT ha (by decide)
    · exact ih q hq
    · exact hT hb (by decide)
  | parL ha h hb ih =>
    intro q hq; simp at hq
    rcases hq with rfl | hq | rfl
    · exact hT ha (by decide)
    · exact ih q hq
    · exact hT hb (by decide)
  | flows hx hm hy ihx ihy =>
    intro q hq; simp at hq
    rcases hq with hq | rfl | hq
    · exact ihx q hq
    · exact hT hm (by decide)
    · exact ihy q hq
  | leaf hk hw =>
    intro a ha; simp at ha; subst ha
    obtain ⟨h1, h2⟩ := find_wd hw
    rw [h1]
    exact (wd_let (.inl h2)).1
  | one hk h ih => exact ih
  | @more k d m w1 w2 x y hk hx hm hy ihx ihy =>
    intro q hq; simp at hq
    rcases hq with hq | rfl | hq
    · exact ihx q hq
    · have : k = 0 ∨ k = 1 ∨ k = 2 ∨ k = 3 := by omega
      refine hT hm ?_
      rcases this with rfl | rfl | rfl | rfl <;> decide
    · exact ihy q hq
/-! Tokens of any text. -/
theorem lex_any_l0 {s : Str} (hs : s.length ≤ 2000) : ∀ (d k : Nat) (L : List api_Tok), s.length - k ≤ d → k ≤ s.length → L.length ≤ k → (∀ t ∈ L, t.Text.length ≤ 3000) →
    (∃ q, lex_Lex.l0 s L (k : Int) = some (.inl ([], q, 4))) ∨ ∃ L', lex_Lex.l0 s L (k : Int) = some (.inr L') ∧ L'.length ≤ s.length ∧ ∀ t ∈ L', t.Text.length ≤ 3000
  | 0, k, L, hd, hk, hL, ht => by
    refine .inr ⟨L, by rw [lex_Lex.l0, if_neg (by omega)], by omega, ht⟩
  | d + 1, k, L, hd, hk, hL, ht => by
    rcases Nat.lt_or_ge k s.length with hlt | hge
    · rw [lex_step (by omega) (by omega) hlt]
      have hne : s.drop k ≠ [] := by
        intro h
        have := congrArg List.length h
        simp at this; omega
      have hle := tok_le hne
      rw [List.length_drop] at hle
      generalize hT : tokS (s.drop k) = T at *
      obtain ⟨kd, n⟩ := T
      simp only at hle ⊢
      by_cases h0 : n = 0
      · rw [if_pos h0]; exact .inl ⟨_, rfl⟩
      · rw [if_neg h0]
        by_cases h1 : kd = 0
        · rw [if_pos h1]
          exact lex_any_l0 hs d (k + n) L (by omega) (by omega) (by omega) ht
        · rw [if_neg h1]
          refine lex_any_l0 hs d (k + n) _ (by omega) (by omega) (by simp; omega) (fun t hm => ?_)
          rcases List.mem_append.1 hm with q | q
          · exact ht t q
          · simp at q; subst q
            simp; omega
    · exact .inr ⟨L, by rw [lex_Lex.l0, if_neg (by omega)], by omega, ht⟩
theorem lex_any {s : Str} (hs : s.length ≤ 2000) : ∃ r j e, lex_Lex.f s = some (r, j, e) ∧ (e ≠ 0 → r = []) ∧ (e = 0 → r.length ≤ 200 ∧ ∀ t ∈ r, t.Text.length ≤ 3000) := by
  unfold lex_Lex.f
  rw [if_neg (by omega)]
  have hB : 1000000 ≤ big := by decide
  rcases lex_any_l0 hs s.length 0 [] (by omega) (by omega) (by simp) (fun t h => by cases h) with ⟨q, e⟩ | ⟨L, e, hl, ht⟩
  · have e' : lex_Lex.l0 s [] 0 = some (.inl ([], q, 4)) := e
    rw [e', bsome]
    exact ⟨[], q, 4, rfl, fun _ => rfl, fun h => by cases h⟩
  · have e' : lex_Lex.l0 s [] 0 = some (.inr L) := e
    rw [e', bsome]
    dsimp only
    rw [if_pos (by simp; omega)]
    by_cases q : ((L ++ [(⟨0, [], (s.length : Int)⟩ : api_Tok)]).length : Int) > 200
    · rw [if_pos q]
      exact ⟨[], 0, 8, rfl, fun _ => rfl, fun h => by cases h⟩
    · rw [if_neg q]
      refine ⟨_, _, 0, rfl, fun h => absurd rfl h, fun _ => ⟨by omega, fun t hm => ?_⟩⟩
      rcases List.mem_append.1 hm with h | h
      · exact ht t h
      · simp at h; subst h; simp
theorem joinTail_sum {r : List Str} : (Lib.joinTail ([32] : Str) r).length = (r.map fun x => x.length + 1).sum := by
  induction r with
  | nil => rfl
  | cons a r ih =>
    have : Lib.joinTail ([32] : Str) (a :: r) = ([32] ++ a) ++ Lib.joinTail [32] r := by simp [Lib.joinTail]
    rw [this]
    simp [ih]; omega
theorem join_sum {xs : List Str} (h : xs ≠ []) : (Lib.join xs ([32] : Str)).length + 1 = (xs.map fun x => x.length + 1).sum := by
  match xs, h with
  | a :: r, _ =>
    rw [Lib.join_cons]
    simp [joinTail_sum]; omega
theorem join_ge {w r : List api_Tok} (hw : ∀ a ∈ w, a.Text ≠ []) (hn : 1 ≤ w.length) : J w ≤ (Lib.join (tsOf (w ++ r)) ([32] : Str)).length + 1 := by
  have e : tsOf (w ++ r) = w.map (·.Text) ++ tsOf r := by
    unfold tsOf
    rw [List.map_append, List.filter_append]
    congr 1
    rw [List.filter_eq_self]
    intro x hx
    obtain ⟨a, ha, rfl⟩ := List.mem_map.1 hx
    simp [hw a ha]
  have hne : tsOf (w ++ r) ≠ [] := by
    rw [e]
    match w, hn with
    | a :: w, _ => simp
  rw [join_sum hne, e]
  simp only [J, List.map_append, List.map_map, List.sum_append]
  exact Nat.le_add_right _ _
theorem showRead {s : Str} {b : Bool} : reticentlaw05_ShowRead.f s b = some true := by
  have hm : (if 400 < (s.length : Int) then (400 : Int) else (s.length : Int)) = ((min 400 s.length : Nat) : Int) := by split <;> omega
  have hc : (sCut s 0 ((min 400 s.length : Nat) : Int)).length ≤ 400 := by simp [sCut]; omega
  unfold reticentlaw05_ShowRead.f
  rw [hm, if_pos ⟨by omega, by omega⟩, alive05]
  generalize sCut s 0 ((min 400 s.length : Nat) : Int) = S at hc
  obtain ⟨L, j, e, hL, h1, h2⟩ := lex_any (s := S) (by omega)
  rw [hL, bsome]
  by_cases h0 : e = 0
  · subst h0
    obtain ⟨hlen, htx⟩ := h2 rfl
    dsimp only
    rw [if_pos rfl]
    obtain ⟨x, q, er, hF, g1, g2⟩ := from_any (l := L) (i := 0) (b := b) (by omega)
    rw [hF, bsome]
    dsimp only
    by_cases h3 : er = 0
    · subst h3
      rw [if_pos rfl]
      obtain ⟨hM, hij, hjl, w, t, hd, hD, hx, hs⟩ := g2 rfl
      subst hx
      obtain ⟨hwf, hso⟩ := der_wf hD
      rw [kOf_sort] at hso
      obtain ⟨b1, b2⟩ := der_bound hD
      have hfl : t.flat.length ≤ 900 := by rw [flat_len]; omega
      have hrt := right_der hD hs
      have hdp : (tx t).2 ≤ 12 := by split at b1 <;> omega
      have ht := (Psh.text_eq hfl).2 t (wf_ok hwf) rfl (by rw [hrt]; simp)
      have hans : Psh.ans t = ((tx t).1, 0) := by unfold Psh.ans; rw [if_neg (by omega)]
      rw [hans] at ht
      obtain ⟨ts, e1, e2, _, e3⟩ := written hwf hs hdp
      rw [hso] at e3
      rw [ht, bsome]
      dsimp only
      rw [e1, bsome]
      dsimp only
      rw [e3, bsome]
      dsimp only
      rw [ht, bsome, bsome]
      dsimp only
      have hJ := joinL (l := L) ⟨by omega, htx⟩
      rw [if_pos rfl, if_pos rfl, if_pos rfl, if_pos rfl, if_pos rfl, same_refl (by omega), bsome, if_pos rfl, if_pos rfl, hJ, bsome]
      have hL' : L = w ++ L.drop q.toNat := by simpa using hd
      have hge := join_ge (r := L.drop q.toNat) (der_text hD) (der_len hD)
      rw [← hL'] at hge
      have hup := join_len (sep := [32]) (tsOf_short htx)
      have h5 := tsOf_len (l := L)
      have h6 : (tsOf L).length * (3000 + ([32] : Str).length) ≤ 300 * 3001 := Nat.mul_le_mul (by omega) (by simp)
      have hfl2 : t.flat.length ≤ 40 := by rw [flat_len]; exact hs
      have hw1 : IntKind.i64.wrap (4 * (t.flat.length : Int)) = 4 * (t.flat.length : Int) := wrapZ (by omega) (by omega)
      rw [hw1, wrapZ (by omega) (by omega)]
      have : (((tx t).1.length : Int) ≤ ((Lib.join (tsOf L) ([32] : Str)).length : Int) + 4 * (t.flat.length : Int)) := by
        have : (tx t).1.length + 1 ≤ J w := by split at b2 <;> omega
        omega
      rw [decide_eq_true this]; rfl
    · rw [if_neg h3, g1 h3]; rfl
  · dsimp only
    rw [if_neg h0, h1 h0]; rfl
end Go.Proofs.Ytjkijjhjffodcaa.Par
namespace Go.Proofs.Ytjkijjhjffodcaa.Pure
open Go Go.Proofs.Ytjkijjhjffodcaa.Ab Go.Proofs.Ytjkijjhjffodcaa.LF
theorem ShowRead (s : Str) (b : Bool) (hs : ∃ H cs, kS.reps H cs s) : reticentlaw05_ShowRead.f s b = some true := Par.showRead
end Go.Proofs.Ytjkijjhjffodcaa.Pure
