/- Where a part begins. -/
import Derived.Test.YthpmbokenhpakaaMut3
set_option linter.unusedVariables false
set_option linter.unusedSimpArgs false
namespace Go.Proofs.Ythpmbokenhpakaa.Mut
open Go Go.Proofs.Ythpmbokenhpakaa.Ab Go.Proofs.Ythpmbokenhpakaa.LD
open Go.Proofs.Ythpmbokenhpakaa.Lat (lAt_some)
theorem bsome {α β : Type} (a : α) (f : α → Option β) : (some a >>= f) = f a := rfl
theorem size_pos : ∀ t : Tr, 1 ≤ t.size
  | .lf _ => by simp [Tr.size]
  | .nd _ _ _ => by simp [Tr.size]
theorem split_nd {l r : List Int} {s : Nat} {op : Int} {x y : Tr} (e : l.drop s = (Tr.nd op x y).flat ++ r) :
    l.drop s = x.flat ++ (y.flat ++ ([op] ++ r)) ∧ l.drop (s + x.size) = y.flat ++ ([op] ++ r) ∧ ∃ h : s + x.size + y.size < l.length, l[s + x.size + y.size] = op := by
  have e1 : l.drop s = x.flat ++ (y.flat ++ ([op] ++ r)) := by rw [e]; simp [Tr.flat]
  have e2 : l.drop (s + x.size) = y.flat ++ ([op] ++ r) := by rw [← List.drop_drop, e1, ← flat_len x, List.drop_left]
  have e3 : l.drop (s + x.size + y.size) = [op] ++ r := by rw [← List.drop_drop, e2, ← flat_len y, List.drop_left]
  have hk : s + x.size + y.size < l.length := by
    rcases Nat.lt_or_ge (s + x.size + y.size) l.length with q | q
    · exact q
    · rw [List.drop_of_length_le q] at e3; simp at e3
  rw [List.drop_eq_getElem_cons hk] at e3
  simp only [List.cons_append, List.nil_append, List.cons.injEq] at e3
  exact ⟨e1, e2, hk, e3.1⟩
theorem leaf_at {l r : List Int} {s : Nat} {op : Int} (e : l.drop s = (Tr.lf op).flat ++ r) : ∃ h : s < l.length, l[s] = op := by
  have hs : s < l.length := by
    rcases Nat.lt_or_ge s l.length with q | q
    · exact q
    · rw [List.drop_of_length_le q] at e; simp [Tr.flat] at e
  rw [List.drop_eq_getElem_cons hs] at e
  simp only [Tr.flat, List.cons_append, List.nil_append, List.cons.injEq] at e
  exact ⟨hs, e.1⟩
theorem start_l0 {l : List Int} (hl : l.length ≤ 900) : ∀ (t : Tr), t.ok → ∀ (s : Nat) (r : List Int) (need : Nat), l.drop s = t.flat ++ r → 1 ≤ need → need + t.size ≤ 2000 →
    mutant_start.l0 l (need : Int) (((s + t.size : Nat) : Int) - 1) = if need = 1 then some (s : Int) else mutant_start.l0 l ((need - 1 : Nat) : Int) ((s : Int) - 1)
  | .lf op, ho, s, r, need, e, h1, h2 => by
    obtain ⟨hs, hop⟩ := leaf_at e
    have hi : (((s + (Tr.lf op).size : Nat) : Int) - 1) = ((s : Nat) : Int) := by show ((s + 1 : Nat) : Int) - 1 = _; omega
    have hw : IntKind.i64.wrap ((need : Int) - 1) = ((need - 1 : Nat) : Int) := by rw [wrapZ (by omega) (by omega)]; omega
    have hw2 : IntKind.i64.wrap ((s : Int) - 1) = (s : Int) - 1 := wrapZ (by omega) (by omega)
    rw [mutant_start.l0, hi, lAt_some hs, hop, bsome, hw, hw2]
    have hz : (((need - 1 : Nat) : Int) = 0) ↔ need = 1 := by omega
    have hz2 : (need - 1 = 0) ↔ need = 1 := by omega
    rcases ho with rfl | rfl | rfl | rfl | rfl | rfl | rfl | rfl <;> (by_cases q : need = 1 <;> simp [hz, hz2, q])
  | .nd op x y, ho, s, r, need, e, h1, h2 => by
    obtain ⟨e1, e2, hk, hop⟩ := split_nd e
    have hsz : need + (x.size + y.size + 1) ≤ 2000 := h2
    have hi : (((s + (Tr.nd op x y).size : Nat) : Int) - 1) = ((s + x.size + y.size : Nat) : Int) := by show ((s + (x.size + y.size + 1) : Nat) : Int) - 1 = _; omega
    have hw : IntKind.i64.wrap ((IntKind.i64.wrap ((need : Int) - 1)) + 2) = ((need + 1 : Nat) : Int) := by rw [wrapZ (x := (need : Int) - 1) (by omega) (by omega), wrapZ (by omega) (by omega)]; omega
    have hw2 : IntKind.i64.wrap (((s + x.size + y.size : Nat) : Int) - 1) = ((s + x.size + y.size : Nat) : Int) - 1 := wrapZ (by omega) (by omega)
    have hY := start_l0 hl y ho.2.2 (s + x.size) _ (need + 1) e2 (by omega) (by omega)
    have hX := start_l0 hl x ho.2.1 s _ need e1 h1 (by omega)
    rw [if_neg (by omega)] at hY
    have hn : need + 1 - 1 = need := by omega
    rw [hn] at hY
    rw [mutant_start.l0, hi, lAt_some hk, hop, bsome, hw, hw2]
    have hz : ¬ (((need + 1 : Nat) : Int) = 0) := by omega
    rw [← hX, ← hY]
    rcases ho.1 with rfl | rfl | rfl | rfl | rfl <;> simp only [bsome, if_true, if_false, hz] <;> rfl
theorem start_eq {l : List Int} (hl : l.length ≤ 900) {t : Tr} (ho : t.ok) {s : Nat} {r : List Int} (e : l.drop s = t.flat ++ r) (ht : t.size ≤ 900) : mutant_start.f l (((s + t.size : Nat) : Int) - 1) = some (s : Int) := by
  unfold mutant_start.f
  have := start_l0 hl t ho s r 1 e (Nat.le_refl _) (by omega)
  rw [if_pos rfl, show ((1 : Nat) : Int) = 1 from rfl] at this
  rw [this, bsome]
theorem from_F {l : List Int} (hl : l.length ≤ 900) : ∀ (t : Tr), t.ok → ∀ (n s : Nat) (r : List Int), t.size ≤ n → l.drop s = t.flat ++ r → reticentref24_from.F n l (((s + t.size : Nat) : Int) - 1) = some (s : Int)
  | t, _, 0, _, _, hn, _ => by have := size_pos t; omega
  | .lf op, ho, n + 1, s, r, hn, e => by
    obtain ⟨hs, hop⟩ := leaf_at e
    have hi : (((s + (Tr.lf op).size : Nat) : Int) - 1) = ((s : Nat) : Int) := by show ((s + 1 : Nat) : Int) - 1 = _; omega
    show reticentref24_from.B (reticentref24_from.F n) l _ = _
    unfold reticentref24_from.B
    rw [hi, lAt_some hs, hop]
    rcases ho with rfl | rfl | rfl | rfl | rfl | rfl | rfl | rfl <;> rfl
  | .nd op x y, ho, n + 1, s, r, hn, e => by
    obtain ⟨e1, e2, hk, hop⟩ := split_nd e
    have hsz : x.size + y.size + 1 ≤ n + 1 := hn
    have hi : (((s + (Tr.nd op x y).size : Nat) : Int) - 1) = ((s + x.size + y.size : Nat) : Int) := by show ((s + (x.size + y.size + 1) : Nat) : Int) - 1 = _; omega
    have hw2 : IntKind.i64.wrap (((s + x.size + y.size : Nat) : Int) - 1) = ((s + x.size + y.size : Nat) : Int) - 1 := wrapZ (by omega) (by omega)
    have hw3 : IntKind.i64.wrap (((s + x.size : Nat) : Int) - 1) = ((s + x.size : Nat) : Int) - 1 := wrapZ (by omega) (by omega)
    have hY := from_F hl y ho.2.2 n (s + x.size) _ (by omega) e2
    have hX := from_F hl x ho.2.1 n s _ (by omega) e1
    have hb : ((lAt l ((s + x.size + y.size : Nat) : Int) >>= fun y8 => if y8 ≥ 3 then (lAt l ((s + x.size + y.size : Nat) : Int) >>= fun y10 => if y10 ≤ 5 then (some true) else (lAt l ((s + x.size + y.size : Nat) : Int) >>= fun y12 => some (decide (y12 ≥ 12)))) else (lAt l ((s + x.size + y.size : Nat) : Int) >>= fun y13 => some (decide (y13 ≥ 12))) : Option Bool)) = some true := by
      rw [lAt_some hk, hop]
      rcases ho.1 with rfl | rfl | rfl | rfl | rfl <;> rfl
    show reticentref24_from.B (reticentref24_from.F n) l _ = _
    unfold reticentref24_from.B
    rw [hi, hb, bsome, if_pos rfl, hw2, hY, bsome, hw3, hX, bsome]
theorem from_eq {l : List Int} (hl : l.length ≤ 900) {t : Tr} (ho : t.ok) {s : Nat} {r : List Int} (e : l.drop s = t.flat ++ r) (ht : t.size ≤ 900) : reticentref24_from.f l (((s + t.size : Nat) : Int) - 1) = some (s : Int) :=
  from_F hl t ho 1000 s r (by omega) e
/-- Each place of one thing of two is the end of a part. -/
theorem part_at {l : List Int} : ∀ (t : Tr), t.ok → ∀ (s : Nat) (r : List Int), l.drop s = t.flat ++ r → ∀ (i : Nat) (hi : i < l.length), s ≤ i → i < s + t.size → NdOp l[i] →
    ∃ (x y : Tr) (s' : Nat) (r' : List Int), x.ok ∧ y.ok ∧ l.drop s' = (Tr.nd l[i] x y).flat ++ r' ∧ s' + x.size + y.size = i
  | .lf op, ho, s, r, e, i, hi, h1, h2, hn => by
    obtain ⟨hs, hop⟩ := leaf_at e
    have : i = s := by have : i < s + 1 := h2; omega
    subst this
    rw [hop] at hn
    exfalso
    rcases ho with rfl | rfl | rfl | rfl | rfl | rfl | rfl | rfl <;> rcases hn with h | h | h | h | h <;> omega
  | .nd op x y, ho, s, r, e, i, hi, h1, h2, hn => by
    obtain ⟨e1, e2, hk, hop⟩ := split_nd e
    have h2' : i < s + (x.size + y.size + 1) := h2
    rcases Nat.lt_or_ge i (s + x.size) with q | q
    · exact part_at x ho.2.1 s _ e1 i hi h1 q hn
    · rcases Nat.lt_or_ge i (s + x.size + y.size) with q2 | q2
      · exact part_at y ho.2.2 (s + x.size) _ e2 i hi q q2 hn
      · have : i = s + x.size + y.size := by omega
        subst this
        exact ⟨x, y, s, r, ho.2.1, ho.2.2, by rw [hop]; exact e, rfl⟩
end Go.Proofs.Ythpmbokenhpakaa.Mut
