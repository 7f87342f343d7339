/- What a rule comes to, the two ways. -/
import Derived.Test.YthpmbokenhpakaaJu5
set_option linter.unusedVariables false
set_option linter.unusedSimpArgs false
namespace Go.Proofs.Ythpmbokenhpakaa.Jdg
open Go Go.Proofs.Ythpmbokenhpakaa.Ab Go.Proofs.Ythpmbokenhpakaa.LE
open Go.Proofs.Ythpmbokenhpakaa.Lat (lAt_some)
theorem split_nd {l r : List Int} {s : Nat} {op : Int} {x y : Tr} (e : l.drop s = (Tr.nd op x y).flat ++ r) :
    l.drop s = x.flat ++ (y.flat ++ ([op] ++ r)) ∧ l.drop (s + x.size) = y.flat ++ ([op] ++ r) ∧ ∃ h : s + x.size + y.size < l.length, l[s + x.size + y.size] = op := by
  have e1 : l.drop s = x.flat ++ (y.flat ++ ([op] ++ r)) := by rw [e]; simp [Tr.flat]
  have e2 : l.drop (s + x.size) = y.flat ++ ([op] ++ r) := by rw [← List.drop_drop, e1, ← flat_len x, List.drop_left]
  have e3 : l.drop (s + x.size + y.size) = [op] ++ r := by rw [← List.drop_drop, e2, ← flat_len y, List.drop_left]
  have hk : s + x.size + y.size < l.length := by
    rcases Nat.lt_or_ge (s + x.size + y.size) l.length with q | q
    · exact q
    · rw [List.drop_of_length_le q] at e3; simp at e3
  rw [List.drop_eq_getElem_cons hk] at e3
  simp only [List.cons_append, List.nil_append, List.cons.injEq] at e3
  exact ⟨e1, e2, hk, e3.1⟩
theorem leaf_at {l r : List Int} {s : Nat} {op : Int} (e : l.drop s = (Tr.lf op).flat ++ r) : ∃ h : s < l.length, l[s] = op := by
  have hs : s < l.length := by
    rcases Nat.lt_or_ge s l.length with q | q
    · exact q
    · rw [List.drop_of_length_le q] at e; simp [Tr.flat] at e
  rw [List.drop_eq_getElem_cons hs] at e
  simp only [Tr.flat, List.cons_append, List.nil_append, List.cons.injEq] at e
  exact ⟨hs, e.1⟩
theorem size_pos : ∀ t : Tr, 1 ≤ t.size
  | .lf _ => by simp [Tr.size]
  | .nd _ _ _ => by simp [Tr.size]
section
variable {l : api_Lattice} {labels : List Int} (E : Je l labels)
theorem comes_lf {rule : List Int} {op : Int} {k : Nat} {P : List If113} (hk : k < rule.length) (hop : rule[k] = op) (ho : LfOp op) (hl : rule.length ≤ 900) (hP : P.length ≤ 900) :
    judge_judge_comes.l0 rule l labels P (k : Int) = judge_judge_comes.l0 rule l labels (P ++ [val E (.lf op)]) ((k + 1 : Nat) : Int) := by
  have hput : ∀ x, judge_judge_put.f (⟨l, labels, P⟩ : judge_judge) x = some ⟨l, labels, P ++ [x]⟩ := fun x => put_eq (by omega)
  have l0 := (E.hlab 0 (by omega)).1
  have l1 := (E.hlab 1 (by omega)).1
  have l2 := (E.hlab 2 (by omega)).1
  have l3 := (E.hlab 3 (by omega)).1
  have z0 : IntKind.i64.wrap ((8 : Int) - 8) = ((0 : Nat) : Int) := by decide
  have z1 : IntKind.i64.wrap ((9 : Int) - 8) = ((1 : Nat) : Int) := by decide
  have z2 : IntKind.i64.wrap ((10 : Int) - 8) = ((2 : Nat) : Int) := by decide
  have z3 : IntKind.i64.wrap ((11 : Int) - 8) = ((3 : Nat) : Int) := by decide
  rw [judge_judge_comes.l0, if_pos (by omega), lAt_some hk, hop, wS (by omega), bsome]
  rcases ho with rfl | rfl | rfl | rfl | rfl | rfl | rfl | rfl
  · rw [if_pos rfl, hput]; rfl
  · rw [if_neg (show ¬ ((2 : Int) = 1) by decide), if_pos rfl, hput]; rfl
  · rw [if_neg (show ¬ ((6 : Int) = 1) by decide), if_neg (show ¬ ((6 : Int) = 2) by decide), if_pos rfl, E.hbot.2.1, bsome, hput]; rfl
  · rw [if_neg (show ¬ ((7 : Int) = 1) by decide), if_neg (show ¬ ((7 : Int) = 2) by decide), if_neg (show ¬ ((7 : Int) = 6) by decide), if_pos rfl, E.htop.2.1, bsome, hput]; rfl
  · rw [if_neg (show ¬ ((8 : Int) = 1) by decide), if_neg (show ¬ ((8 : Int) = 2) by decide), if_neg (show ¬ ((8 : Int) = 6) by decide), if_neg (show ¬ ((8 : Int) = 7) by decide), if_pos rfl, z0, l0, bsome, hput]; rfl
  · rw [if_neg (show ¬ ((9 : Int) = 1) by decide), if_neg (show ¬ ((9 : Int) = 2) by decide), if_neg (show ¬ ((9 : Int) = 6) by decide), if_neg (show ¬ ((9 : Int) = 7) by decide), if_neg (show ¬ ((9 : Int) = 8) by decide), if_pos rfl, z1, l1, bsome, hput]; rfl
  · rw [if_neg (show ¬ ((10 : Int) = 1) by decide), if_neg (show ¬ ((10 : Int) = 2) by decide), if_neg (show ¬ ((10 : Int) = 6) by decide), if_neg (show ¬ ((10 : Int) = 7) by decide), if_neg (show ¬ ((10 : Int) = 8) by decide), if_neg (show ¬ ((10 : Int) = 9) by decide), if_pos rfl, z2, l2, bsome, hput]; rfl
  · rw [if_neg (show ¬ ((11 : Int) = 1) by decide), if_neg (show ¬ ((11 : Int) = 2) by decide), if_neg (show ¬ ((11 : Int) = 6) by decide), if_neg (show ¬ ((11 : Int) = 7) by decide), if_neg (show ¬ ((11 : Int) = 8) by decide), if_neg (show ¬ ((11 : Int) = 9) by decide), if_neg (show ¬ ((11 : Int) = 10) by decide), if_pos rfl, z3, l3, bsome, hput]; rfl
theorem comes_nd {rule : List Int} {op : Int} {x y : Tr} {k : Nat} {P : List If113} (hk : k < rule.length) (hop : rule[k] = op) (h : (Tr.nd op x y).wf) (hl : rule.length ≤ 900) (hP : P.length ≤ 900) :
    judge_judge_comes.l0 rule l labels (P ++ [val E x] ++ [val E y]) (k : Int) = judge_judge_comes.l0 rule l labels (P ++ [val E (.nd op x y)]) ((k + 1 : Nat) : Int) := by
  obtain ⟨ho, hx, hy, sx, sy⟩ := h
  have hput : ∀ x, judge_judge_put.f (⟨l, labels, P⟩ : judge_judge) x = some ⟨l, labels, P ++ [x]⟩ := fun x => put_eq (by omega)
  have h2 : judge_judge_two.f (⟨l, labels, P ++ [val E x] ++ [val E y]⟩ : judge_judge) = some (⟨l, labels, P⟩, val E x, val E y) := two_eq' (by omega)
  have h3 : judge_judge_both.f (⟨l, labels, P⟩ : judge_judge) op (val E x) (val E y) = some (⟨l, labels, P⟩, val E (.nd op x y)) := both_eq E hx hy ho sx sy
  have n : ∀ q : Int, q = 1 ∨ q = 2 ∨ q = 6 ∨ q = 7 ∨ q = 8 ∨ q = 9 ∨ q = 10 ∨ q = 11 → ¬ op = q := by
    intro q hq
    rcases ho with rfl | rfl | rfl | rfl | rfl <;> omega
  rw [judge_judge_comes.l0, if_pos (by omega), lAt_some hk, hop, wS (by omega), bsome]
  rw [if_neg (n 1 (by simp)), if_neg (n 2 (by simp)), if_neg (n 6 (by simp)), if_neg (n 7 (by simp)), if_neg (n 8 (by simp)), if_neg (n 9 (by simp)), if_neg (n 10 (by simp)), if_neg (n 11 (by simp)), h2, bsome]
  show ((((judge_judge_both.f (⟨l, labels, P⟩ : judge_judge) op (val E x) (val E y) >>= _) >>= _) >>= _) = _)
  rw [h3, bsome]
  show ((((judge_judge_put.f (⟨l, labels, P⟩ : judge_judge) (val E (.nd op x y)) >>= _) >>= _) >>= _) = _)
  rw [hput]; rfl
theorem comes_l0 {rule : List Int} (hl : rule.length ≤ 900) : ∀ (t : Tr), t.wf → ∀ (P : List If113) (k : Nat) (r : List Int), rule.drop k = t.flat ++ r → P.length ≤ k →
    judge_judge_comes.l0 rule l labels P (k : Int) = judge_judge_comes.l0 rule l labels (P ++ [val E t]) ((k + t.size : Nat) : Int)
  | .lf op, ho, P, k, r, e, hP => by
    obtain ⟨hk, hop⟩ := leaf_at e
    exact comes_lf E hk hop ho hl (by omega)
  | .nd op x y, ho, P, k, r, e, hP => by
    obtain ⟨e1, e2, hk, hop⟩ := split_nd e
    have px := size_pos x
    rw [comes_l0 hl x ho.2.1 P k _ e1 hP, comes_l0 hl y ho.2.2.1 (P ++ [val E x]) (k + x.size) _ e2 (by simp; omega), comes_nd E hk hop ho hl (by omega)]
    have e4 : k + x.size + y.size + 1 = k + (Tr.nd op x y).size := by show _ = k + (x.size + y.size + 1); omega
    rw [e4]
theorem comes_eq {t : Tr} (ho : t.wf) (hl : t.flat.length ≤ 900) : judge_judge_comes.f (⟨l, labels, []⟩ : judge_judge) t.flat = some (⟨l, labels, [val E t]⟩, val E t) := by
  unfold judge_judge_comes.f
  have h := comes_l0 E hl t ho [] 0 [] (by simp) (by simp)
  rw [show ((0 : Nat) : Int) = 0 from rfl] at h
  show (judge_judge_comes.l0 t.flat l labels [] 0 >>= _) = _
  rw [h, show 0 + t.size = t.flat.length by rw [flat_len]; omega, judge_judge_comes.l0, if_neg (by omega), bsome]
  rfl
def vis (t : Tr) : Bool := if t.sort then false else (ev E t).1
def via (t : Tr) : Int := if t.sort then ((ev E t).2 : Int) else 0
theorem thing {rule : List Int} (hl : rule.length ≤ 900) : ∀ (t : Tr), t.wf → ∀ (n s : Nat) (r : List Int), t.size ≤ n → rule.drop s = t.flat ++ r →
    reticentref07_Thing.F n l rule labels (((s + t.size : Nat) : Int) - 1) = some ⟨vis E t, via E t, (s : Int)⟩
  | t, _, 0, _, _, hn, _ => by have := size_pos t; omega
  | .lf op, ho, n + 1, s, r, hn, e => by
    obtain ⟨hs, hop⟩ := leaf_at e
    have hi : (((s + (Tr.lf op).size : Nat) : Int) - 1) = ((s : Nat) : Int) := by show ((s + 1 : Nat) : Int) - 1 = _; omega
    have l0 := (E.hlab 0 (by omega)).1
    have l1 := (E.hlab 1 (by omega)).1
    have l2 := (E.hlab 2 (by omega)).1
    have l3 := (E.hlab 3 (by omega)).1
    have z0 : IntKind.i64.wrap ((8 : Int) - 8) = ((0 : Nat) : Int) := by decide
    have z1 : IntKind.i64.wrap ((9 : Int) - 8) = ((1 : Nat) : Int) := by decide
    have z2 : IntKind.i64.wrap ((10 : Int) - 8) = ((2 : Nat) : Int) := by decide
    have z3 : IntKind.i64.wrap ((11 : Int) - 8) = ((3 : Nat) : Int) := by decide
    show reticentref07_Thing.B (reticentref07_Thing.F n) l rule labels _ = _
    unfold reticentref07_Thing.B
    rw [hi, lAt_some hs, hop, bsome]
    rcases ho with rfl | rfl | rfl | rfl | rfl | rfl | rfl | rfl
    · rfl
    · rfl
    · rw [if_neg (show ¬ ((6 : Int) ≤ 2) by decide), if_pos rfl, E.hbot.2.2]; rfl
    · rw [if_neg (show ¬ ((7 : Int) ≤ 2) by decide), if_neg (show ¬ ((7 : Int) = 6) by decide), if_pos rfl, E.htop.2.2]; rfl
    · rw [if_neg (show ¬ ((8 : Int) ≤ 2) by decide), if_neg (show ¬ ((8 : Int) = 6) by decide), if_neg (show ¬ ((8 : Int) = 7) by decide), z0, l0]; rfl
    · rw [if_neg (show ¬ ((9 : Int) ≤ 2) by decide), if_neg (show ¬ ((9 : Int) = 6) by decide), if_neg (show ¬ ((9 : Int) = 7) by decide), z1, l1]; rfl
    · rw [if_neg (show ¬ ((10 : Int) ≤ 2) by decide), if_neg (show ¬ ((10 : Int) = 6) by decide), if_neg (show ¬ ((10 : Int) = 7) by decide), z2, l2]; rfl
    · rw [if_neg (show ¬ ((11 : Int) ≤ 2) by decide), if_neg (show ¬ ((11 : Int) = 6) by decide), if_neg (show ¬ ((11 : Int) = 7) by decide), z3, l3]; rfl
  | .nd op x y, h, n + 1, s, r, hn, e => by
    obtain ⟨ho, hx, hy, sx, sy⟩ := h
    obtain ⟨e1, e2, hk, hop⟩ := split_nd e
    have hsz : x.size + y.size + 1 ≤ n + 1 := hn
    have hi : (((s + (Tr.nd op x y).size : Nat) : Int) - 1) = ((s + x.size + y.size : Nat) : Int) := by show ((s + (x.size + y.size + 1) : Nat) : Int) - 1 = _; omega
    have hw2 : IntKind.i64.wrap (((s + x.size + y.size : Nat) : Int) - 1) = ((s + x.size + y.size : Nat) : Int) - 1 := wrapZ (by omega) (by omega)
    have hw3 : IntKind.i64.wrap (((s + x.size : Nat) : Int) - 1) = ((s + x.size : Nat) : Int) - 1 := wrapZ (by omega) (by omega)
    have hY := thing hl y hy n (s + x.size) _ (by omega) e2
    have hX := thing hl x hx n s _ (by omega) e1
    have n8 : ((if op ≥ 8 then (some (decide (op ≤ 11))) else (some false) : Option Bool)) = some false := by
      rcases ho with rfl | rfl | rfl | rfl | rfl <;> rfl
    have n2 : ¬ op ≤ 2 := by rcases ho with rfl | rfl | rfl | rfl | rfl <;> decide
    have n6 : ¬ op = 6 := by rcases ho with rfl | rfl | rfl | rfl | rfl <;> decide
    have n7 : ¬ op = 7 := by rcases ho with rfl | rfl | rfl | rfl | rfl <;> decide
    show reticentref07_Thing.B (reticentref07_Thing.F n) l rule labels _ = _
    unfold reticentref07_Thing.B
    rw [hi, lAt_some hk, hop, bsome, if_neg n2, if_neg n6, if_neg n7, n8, bsome, if_neg (show ¬ (false = true) by decide), hw2, hY, bsome]
    show (reticentref07_Thing.F n l rule labels (IntKind.i64.wrap (((s + x.size : Nat) : Int) - 1)) >>= _) = _
    rw [hw3, hX, bsome]
    by_cases h5 : op ≥ 5
    · rw [decide_eq_true h5] at sx sy
      have lx := ev_lt E hx sx
      have ly := ev_lt E hy sy
      have ax : via E x = ((ev E x).2 : Int) := by unfold via; rw [sx]; rfl
      have ay : via E y = ((ev E y).2 : Int) := by unfold via; rw [sy]; rfl
      rw [ax, ay]
      rcases ho with rfl | rfl | rfl | rfl | rfl
      · omega
      · omega
      · rw [if_neg (show ¬ ((5 : Int) = 3) by decide), if_neg (show ¬ ((5 : Int) = 4) by decide), if_pos rfl]
        show ((reticentref01_Flows.f l ((ev E x).2 : Int) ((ev E y).2 : Int) >>= _) >>= _) = _
        rw [(E.hflows _ _ lx ly).2]; rfl
      · rw [if_neg (show ¬ ((12 : Int) = 3) by decide), if_neg (show ¬ ((12 : Int) = 4) by decide), if_neg (show ¬ ((12 : Int) = 5) by decide), if_pos rfl]
        show ((reticentref01_Join.f l ((ev E x).2 : Int) ((ev E y).2 : Int) >>= _) >>= _) = _
        rw [(E.hjoin _ _ lx ly).2.2]; rfl
      · rw [if_neg (show ¬ ((13 : Int) = 3) by decide), if_neg (show ¬ ((13 : Int) = 4) by decide), if_neg (show ¬ ((13 : Int) = 5) by decide), if_neg (show ¬ ((13 : Int) = 12) by decide), if_pos rfl]
        show ((reticentref01_Meet.f l ((ev E x).2 : Int) ((ev E y).2 : Int) >>= _) >>= _) = _
        rw [(E.hmeet _ _ lx ly).2.2]; rfl
    · rw [decide_eq_false h5] at sx sy
      have ax : vis E x = (ev E x).1 := by unfold vis; rw [sx]; rfl
      have ay : vis E y = (ev E y).1 := by unfold vis; rw [sy]; rfl
      rw [ax, ay]
      have hv : vis E (.nd op x y) = (ev E (.nd op x y)).1 := by
        unfold vis
        have : (Tr.nd op x y).sort = false := decide_eq_false (by omega)
        rw [this]; rfl
      have ha : via E (.nd op x y) = 0 := by
        unfold via
        have : (Tr.nd op x y).sort = false := decide_eq_false (by omega)
        rw [this]; rfl
      rw [hv, ha]
      have he : ∀ op', (ev E (.nd op' x y)).1 = (if op' = 3 then (ev E x).1 && (ev E y).1 else if op' = 4 then (ev E x).1 || (ev E y).1 else E.le (ev E x).2 (ev E y).2) := fun _ => rfl
      rw [he]
      rcases ho with rfl | rfl | rfl | rfl | rfl
      · rw [if_pos rfl, if_pos rfl]
        show (((if (ev E x).1 = true then some (ev E y).1 else some false) >>= _) >>= _) = _
        cases (ev E x).1 <;> cases (ev E y).1 <;> rfl
      · rw [if_neg (show ¬ ((4 : Int) = 3) by decide), if_pos rfl, if_neg (show ¬ ((4 : Int) = 3) by decide), if_pos rfl]
        show (((if (ev E x).1 = true then some true else some (ev E y).1) >>= _) >>= _) = _
        cases (ev E x).1 <;> cases (ev E y).1 <;> rfl
      · omega
      · omega
      · omega
theorem judge_ref {t : Tr} (ho : t.wf) (hl : t.flat.length ≤ 900) : reticentref07_Judge.f l t.flat labels = some ⟨vis E t, via E t, 0⟩ := by
  have h := thing E hl t ho 1000 0 [] (by rw [← flat_len]; omega) (by simp)
  have hp := size_pos t
  unfold reticentref07_Judge.f reticentref07_Thing.f
  have e : (((0 + t.size : Nat) : Int) - 1) = ((t.size : Nat) : Int) - 1 := by omega
  rw [e] at h
  rw [w1 (by omega), flat_len, h, bsome]; rfl
end
end Go.Proofs.Ythpmbokenhpakaa.Jdg
