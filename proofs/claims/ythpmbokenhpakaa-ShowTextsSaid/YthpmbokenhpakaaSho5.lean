/- The text, by the reference; the law. -/
import Derived.Test.YthpmbokenhpakaaSho4
set_option linter.unusedVariables false
set_option linter.unusedSimpArgs false
namespace Go.Proofs.Ythpmbokenhpakaa.Sho
open Go Go.Proofs.Ythpmbokenhpakaa.Ab Go.Proofs.Ythpmbokenhpakaa.LB
open Go.Proofs.Ythpmbokenhpakaa.Lat (lAt_some)
theorem bsome {α β : Type} (a : α) (f : α → Option β) : (some a >>= f) = f a := rfl
theorem two_lf {op : Int} (h : LfOp op) : reticentref05_two.f op = some false := by
  rcases h with rfl | rfl | rfl | rfl | rfl | rfl | rfl | rfl <;> decide
theorem two_nd {op : Int} (h : NdOp op) : reticentref05_two.f op = some true := by
  rcases h with rfl | rfl | rfl | rfl | rfl <;> decide
theorem refWord_lf {op : Int} (h : LfOp op) : reticentref05_word.f op = some (wd op) := by
  rcases h with rfl | rfl | rfl | rfl | rfl | rfl | rfl | rfl <;> decide
theorem refWord_nd {op : Int} (h : NdOp op) : reticentref05_word.f op = some (wd op) := by
  rcases h with rfl | rfl | rfl | rfl | rfl <;> decide
theorem binds_lf {op : Int} (h : LfOp op) : reticentref05_binds.f op = some (bd op) := by
  rcases h with rfl | rfl | rfl | rfl | rfl | rfl | rfl | rfl <;> decide
theorem binds_nd {op : Int} (h : NdOp op) : reticentref05_binds.f op = some (bd op) := by
  rcases h with rfl | rfl | rfl | rfl | rfl <;> decide
theorem binds_eq : ∀ {t : Tr}, t.ok → reticentref05_binds.f t.op = some (bd t.op)
  | .lf op, h => binds_lf h
  | .nd op x y, h => binds_nd h.1
theorem lab_iff {op : Int} (h : NdOp op) : lab op = decide (op ≥ 12) := by
  rcases h with rfl | rfl | rfl | rfl | rfl <;> decide
theorem root_at {l : List Int} : ∀ (t : Tr) (s : Nat) (r : List Int), l.drop s = t.flat ++ r → ∃ h : s + t.size - 1 < l.length, l[s + t.size - 1] = t.op
  | .lf op, s, r, e => by
    have hs : s < l.length := by
      rcases Nat.lt_or_ge s l.length with q | q
      · exact q
      · rw [List.drop_of_length_le q] at e; simp [Tr.flat] at e
    rw [List.drop_eq_getElem_cons hs] at e
    simp only [Tr.flat, List.cons_append, List.nil_append, List.cons.injEq] at e
    exact ⟨hs, e.1⟩
  | .nd op x y, s, r, e => by
    have e1 : l.drop (s + (x.size + y.size)) = [op] ++ r := by
      rw [← List.drop_drop, e]
      have : (Tr.nd op x y).flat ++ r = (x.flat ++ y.flat) ++ ([op] ++ r) := by simp [Tr.flat]
      rw [this, ← flat_len x, ← flat_len y, ← List.length_append, List.drop_left]
    have hs : s + (x.size + y.size) < l.length := by
      rcases Nat.lt_or_ge (s + (x.size + y.size)) l.length with q | q
      · exact q
      · rw [List.drop_of_length_le q] at e1; simp at e1
    rw [List.drop_eq_getElem_cons hs] at e1
    simp only [List.cons_append, List.nil_append, List.cons.injEq] at e1
    have hi : s + (Tr.nd op x y).size - 1 = s + (x.size + y.size) := by show s + (x.size + y.size + 1) - 1 = _; omega
    exact ⟨by rw [hi]; exact hs, by simp only [hi]; exact e1.1⟩
theorem refWithin_eq {T : reticentref05_T} {op' op least b : Int} (hb : reticentref05_binds.f op' = some b) (ho : NdOp op) (hlen : T.S.length ≤ 100000) (hd : 0 ≤ T.Deep ∧ T.Deep ≤ 100000) :
    reticentref05_within.f T op' op least = some ⟨(wi op b least (T.S, T.Deep)).1, (wi op b least (T.S, T.Deep)).2, T.From⟩ := by
  unfold reticentref05_within.f wi
  rw [hb, bsome]
  by_cases h : b ≥ least
  · rw [if_pos h, if_pos h]
  · rw [if_neg h, if_neg h, lab_iff ho]
    by_cases h2 : op ≥ 12
    · rw [if_pos h2, decide_eq_true h2, if_pos (by simp; omega), if_pos (by simp; omega), wrapZ (by omega) (by omega)]; rfl
    · rw [if_neg h2, decide_eq_false h2, if_pos (by simp; omega), if_pos (by simp; omega), wrapZ (by omega) (by omega)]; rfl
theorem thing {l : List Int} (hl : l.length ≤ 900) : ∀ (t : Tr), t.ok → ∀ (n s : Nat) (r : List Int), t.size ≤ n → l.drop s = t.flat ++ r →
    reticentref05_Thing.F n l ((s + t.size : Nat) - 1 : Int) = some ⟨(tx t).1, (tx t).2, (s : Int)⟩
  | _, _, 0, _, _, hn, _ => by rename_i t _ _ _ _; cases t <;> simp [Tr.size] at hn
  | .lf op, ho, n + 1, s, r, hn, e => by
    obtain ⟨h1, h2⟩ := root_at _ s r e
    have hi : (((s + (Tr.lf op).size : Nat) : Int) - 1) = ((s : Nat) : Int) := by show ((s + 1 : Nat) : Int) - 1 = _; omega
    have h1' : s < l.length := h1
    have h2' : l[s] = op := h2
    show reticentref05_Thing.B (reticentref05_Thing.F n) l _ = _
    unfold reticentref05_Thing.B
    rw [hi, lAt_some h1', h2', bsome, two_lf ho, bsome, if_pos (show (!false) = true from rfl), refWord_lf ho, bsome]
    rfl
  | .nd op x y, ho, n + 1, s, r, hn, e => by
    obtain ⟨hop, hx, hy⟩ := ho
    have hsz : x.size + y.size + 1 ≤ n + 1 := hn
    obtain ⟨h1, h2⟩ := root_at _ s r e
    have hs1 : s + (Tr.nd op x y).size - 1 = s + x.size + y.size := by show s + (x.size + y.size + 1) - 1 = _; omega
    have hi : (((s + (Tr.nd op x y).size : Nat) : Int) - 1) = ((s + x.size + y.size : Nat) : Int) := by show ((s + (x.size + y.size + 1) : Nat) : Int) - 1 = _; omega
    have h1' : s + x.size + y.size < l.length := by omega
    have h2' : l[s + x.size + y.size] = op := by
      have : l[s + (Tr.nd op x y).size - 1] = op := h2
      simp only [hs1] at this; exact this
    have e1 : l.drop s = x.flat ++ (y.flat ++ ([op] ++ r)) := by rw [e]; simp [Tr.flat]
    have e2 : l.drop (s + x.size) = y.flat ++ ([op] ++ r) := by rw [← List.drop_drop, e1, ← flat_len x, List.drop_left]
    have hY := thing hl y hy n (s + x.size) _ (by omega) e2
    have hX := thing hl x hx n s _ (by omega) e1
    obtain ⟨gx1, gx2⟩ := root_at x s _ e1
    obtain ⟨gy1, gy2⟩ := root_at y (s + x.size) _ e2
    have px : 1 ≤ x.size := by cases x <;> simp [Tr.size]
    have py : 1 ≤ y.size := by cases y <;> simp [Tr.size]
    obtain ⟨a1, a2, a3⟩ := tx_len x
    obtain ⟨b1, b2, b3⟩ := tx_len y
    have hw := wd_len op
    have wy : IntKind.i64.wrap (((s + x.size + y.size : Nat) : Int) - 1) = ((s + x.size + y.size : Nat) : Int) - 1 := w1 (by omega)
    have wx : IntKind.i64.wrap (((s + x.size : Nat) : Int) - 1) = ((s + x.size : Nat) : Int) - 1 := w1 (by omega)
    have nx : ((s + x.size : Nat) : Int) - 1 = ((s + x.size - 1 : Nat) : Int) := by omega
    have ny : ((s + x.size + y.size : Nat) : Int) - 1 = ((s + x.size + y.size - 1 : Nat) : Int) := by omega
    show reticentref05_Thing.B (reticentref05_Thing.F n) l _ = _
    unfold reticentref05_Thing.B
    rw [hi, lAt_some h1', h2', bsome, two_nd hop, bsome, if_neg (by decide), wy, hY, bsome]
    show (reticentref05_Thing.F n l (IntKind.i64.wrap (((s + x.size : Nat) : Int) - 1)) >>= _) = _
    rw [wx, hX, bsome]
    by_cases h5 : op = 5
    · subst h5
      have et : tx (.nd 5 x y) = (((((tx x).1 ++ [32]) ++ wd 5) ++ [32]) ++ (tx y).1, if (tx x).2 < (tx y).2 then (tx y).2 else (tx x).2) := rfl
      have c1 : ((tx x).1.length + ([32] : Str).length : Int) ≤ 9223372036854775807 := by simp; omega
      have c2 : (((tx x).1 ++ ([32] : Str)).length + (wd 5).length : Int) ≤ 9223372036854775807 := by simp; omega
      have c3 : ((((tx x).1 ++ ([32] : Str)) ++ wd 5).length + ([32] : Str).length : Int) ≤ 9223372036854775807 := by simp; omega
      have c4 : (((((tx x).1 ++ ([32] : Str)) ++ wd 5) ++ ([32] : Str)).length + (tx y).1.length : Int) ≤ 9223372036854775807 := by simp; omega
      rw [if_pos rfl, et]
      by_cases q : (tx y).2 > (tx x).2
      · rw [if_pos q, if_pos c1, refWord_nd hop, bsome, if_pos c2, if_pos c3, if_pos c4, if_pos (show (tx x).2 < (tx y).2 from q)]
      · rw [if_neg q, if_pos c1, refWord_nd hop, bsome, if_pos c2, if_pos c3, if_pos c4, if_neg (show ¬ (tx x).2 < (tx y).2 from q)]
    · have WX := refWithin_eq (T := ⟨(tx x).1, (tx x).2, (s : Int)⟩) (op' := x.op) (op := op) (least := bd op) (binds_eq hx) hop (by show (tx x).1.length ≤ _; omega) (by show 0 ≤ (tx x).2 ∧ (tx x).2 ≤ _; omega)
      have WY := refWithin_eq (T := ⟨(tx y).1, (tx y).2, ((s + x.size : Nat) : Int)⟩) (op' := y.op) (op := op) (least := bd op + 1) (binds_eq hy) hop (by show (tx y).1.length ≤ _; omega) (by show 0 ≤ (tx y).2 ∧ (tx y).2 ≤ _; omega)
      obtain ⟨X, eX⟩ : ∃ X : Str × Int, X = wi op (bd x.op) (bd op) (tx x) := ⟨_, rfl⟩
      obtain ⟨Y, eY⟩ : ∃ Y : Str × Int, Y = wi op (bd y.op) (bd op + 1) (tx y) := ⟨_, rfl⟩
      have lX := wi_len (op := op) (b := bd x.op) (least := bd op) (p := tx x) (n := x.size) a1 ⟨a2, a3⟩
      have lY := wi_len (op := op) (b := bd y.op) (least := bd op + 1) (p := tx y) (n := y.size) b1 ⟨b2, b3⟩
      have WX' : reticentref05_within.f ⟨(tx x).1, (tx x).2, (s : Int)⟩ x.op op (bd op) = some ⟨X.1, X.2, (s : Int)⟩ := by rw [eX]; exact WX
      have WY' : reticentref05_within.f ⟨(tx y).1, (tx y).2, ((s + x.size : Nat) : Int)⟩ y.op op (bd op + 1) = some ⟨Y.1, Y.2, ((s + x.size : Nat) : Int)⟩ := by rw [eY]; exact WY
      rw [← eX] at lX
      rw [← eY] at lY
      have et : tx (.nd op x y) = ((((X.1 ++ [32]) ++ wd op) ++ [32]) ++ Y.1, if X.2 < Y.2 then Y.2 else X.2) := by
        show (_, _) = _
        simp only [if_neg h5]
        rw [← eX, ← eY]
      have c1 : (X.1.length + ([32] : Str).length : Int) ≤ 9223372036854775807 := by simp; omega
      have c2 : ((X.1 ++ ([32] : Str)).length + (wd op).length : Int) ≤ 9223372036854775807 := by simp; omega
      have c3 : (((X.1 ++ ([32] : Str)) ++ wd op).length + ([32] : Str).length : Int) ≤ 9223372036854775807 := by simp; omega
      have c4 : ((((X.1 ++ ([32] : Str)) ++ wd op) ++ ([32] : Str)).length + Y.1.length : Int) ≤ 9223372036854775807 := by simp; omega
      rw [if_neg h5, et]
      rw [nx, lAt_some gx1, gx2, bsome, binds_nd hop, bsome]
      show (reticentref05_within.f ⟨(tx x).1, (tx x).2, (s : Int)⟩ x.op op (bd op) >>= _) = _
      rw [WX', bsome, ny, lAt_some gy1, gy2, bsome, bsome, wrapB]
      show (reticentref05_within.f ⟨(tx y).1, (tx y).2, ((s + x.size : Nat) : Int)⟩ y.op op (bd op + 1) >>= _) = _
      rw [WY', bsome]
      by_cases q : Y.2 > X.2
      · rw [if_pos q, if_pos c1, refWord_nd hop, bsome, if_pos c2, if_pos c3, if_pos c4, if_pos (show X.2 < Y.2 from q)]
      · rw [if_neg q, if_pos c1, refWord_nd hop, bsome, if_pos c2, if_pos c3, if_pos c4, if_neg (show ¬ X.2 < Y.2 from q)]
end Go.Proofs.Ythpmbokenhpakaa.Sho
