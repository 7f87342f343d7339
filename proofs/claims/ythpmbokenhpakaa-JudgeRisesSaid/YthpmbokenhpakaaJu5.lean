/- Rules as trees of sorts; what they come to. -/
import Derived.Test.YthpmbokenhpakaaJu3
import Derived.Test.YthpmbokenhpakaaJu4
set_option linter.unusedVariables false
set_option linter.unusedSimpArgs false
namespace Go.Proofs.Ythpmbokenhpakaa.Jdg
open Go Go.Proofs.Ythpmbokenhpakaa.Ab Go.Proofs.Ythpmbokenhpakaa.LE
open Go.Proofs.Ythpmbokenhpakaa.Lat (lAt_some)
theorem bsome {α β : Type} (a : α) (f : α → Option β) : (some a >>= f) = f a := rfl
def Tr.sort : Tr → Bool
  | .lf op => decide (op ≥ 6)
  | .nd op _ _ => decide (op ≥ 12)
def Tr.wf : Tr → Prop
  | .lf op => LfOp op
  | .nd op x y => NdOp op ∧ x.wf ∧ y.wf ∧ x.sort = decide (op ≥ 5) ∧ y.sort = decide (op ≥ 5)
theorem st_sort {op : Int} {S S' : List Bool} (h : st op S = some S') :
    (LfOp op ∧ S' = decide (op ≥ 6) :: S) ∨ (NdOp op ∧ ∃ r, S = decide (op ≥ 5) :: decide (op ≥ 5) :: r ∧ S' = decide (op ≥ 12) :: r) := by
  have hp : ∀ {a b : Bool}, pop a b S = some S' → ∃ r, S = a :: a :: r ∧ S' = b :: r := by
    intro a b h
    match S, h with
    | [], h => simp [pop] at h
    | [x], h => simp [pop] at h
    | x :: y :: r, h =>
      by_cases q : x = a ∧ y = a
      · simp [pop, q] at h; subst h; exact ⟨r, by rw [q.1, q.2], rfl⟩
      · simp [pop, q] at h
  unfold st at h
  split at h
  · rename_i q; cases h
    rcases q with rfl | rfl <;> exact .inl ⟨by unfold LfOp; simp, rfl⟩
  · split at h
    · rename_i q; cases h
      rcases q with rfl | rfl | rfl | rfl | rfl | rfl <;> exact .inl ⟨by unfold LfOp; simp, rfl⟩
    · split at h
      · rename_i q
        rcases q with rfl | rfl <;> exact .inr ⟨by unfold NdOp; simp, hp h⟩
      · split at h
        · rename_i q; subst q; exact .inr ⟨by unfold NdOp; simp, hp h⟩
        · split at h
          · rename_i q
            rcases q with rfl | rfl <;> exact .inr ⟨by unfold NdOp; simp, hp h⟩
          · cases h
theorem run_sort : ∀ {l : List Int} {S S' : List Bool} {T : List Tr}, run l S = some S' → T.map Tr.sort = S → (∀ t ∈ T, t.wf) →
    ∃ T' : List Tr, T'.map Tr.sort = S' ∧ (∀ t ∈ T', t.wf) ∧ flats T' = flats T ++ l
  | [], S, S', T, h, hT, ho => by cases h; exact ⟨T, hT, ho, by simp⟩
  | op :: l, S, S', T, h, hT, ho => by
    unfold run at h
    cases hs : st op S with
    | none => rw [hs] at h; cases h
    | some S1 =>
      rw [hs] at h
      rcases st_sort hs with ⟨h1, h2⟩ | ⟨h1, r, e, h2⟩
      · obtain ⟨T', q1, q2, q3⟩ := run_sort (T := .lf op :: T) h (by rw [h2, ← hT]; rfl) (fun t ht => by
          rcases List.mem_cons.1 ht with rfl | ht
          · exact h1
          · exact ho t ht)
        exact ⟨T', q1, q2, by rw [q3, flats_cons]; simp [Tr.flat]⟩
      · subst hT
        match T, e, ho with
        | b :: a :: R, e, ho =>
          simp only [List.map_cons, List.cons.injEq] at e
          obtain ⟨T', q1, q2, q3⟩ := run_sort (T := .nd op a b :: R) h (by rw [h2, ← e.2.2]; rfl) (fun t ht => by
            rcases List.mem_cons.1 ht with rfl | ht
            · exact ⟨h1, ho a (by simp), ho b (by simp), e.2.1, e.1⟩
            · exact ho t (by simp [ht]))
          exact ⟨T', q1, q2, by rw [q3, flats_cons, flats_cons, flats_cons]; simp [Tr.flat]⟩
        | [], e, _ => simp at e
        | [_], e, _ => simp at e
theorem right_wf {l : List Int} {b : Bool} (h : right l = some b) : ∃ t : Tr, t.wf ∧ t.sort = b ∧ t.flat = l ∧ l.length ≤ 40 := by
  unfold right at h
  cases hr : run l [] with
  | none => rw [hr] at h; cases h
  | some S =>
    rw [hr] at h
    match S, h with
    | [], h => cases h
    | x :: y :: r, h => cases h
    | [c], h =>
      simp only at h
      by_cases hl : l.length > 40
      · rw [if_pos hl] at h; cases h
      · rw [if_neg hl] at h
        cases h
        obtain ⟨T', q1, q2, q3⟩ := run_sort (T := []) hr rfl (fun t ht => by cases ht)
        match T', q1 with
        | [t], q1 => exact ⟨t, q2 t (by simp), by simpa using q1, by rw [flats_cons] at q3; simpa [flats] using q3, by omega⟩
/-- What is known of a lattice and of labels that may be judged. -/
structure Je (l : api_Lattice) (labels : List Int) where
  n : Nat
  le : Nat → Nat → Bool
  J : Nat → Nat → Nat
  M : Nat → Nat → Nat
  bot : Nat
  top : Nat
  labs : Nat → Nat
  hbot : bot < n ∧ lattice_Bottom.f l = some ((bot : Int), 0) ∧ reticentref01_Bottom.f l = some (bot : Int)
  htop : top < n ∧ lattice_Top.f l = some ((top : Int), 0) ∧ reticentref01_Top.f l = some (top : Int)
  hflows : ∀ a b, a < n → b < n → lattice_Flows.f l (a : Int) (b : Int) = some (le a b, 0) ∧ reticentref01_Flows.f l (a : Int) (b : Int) = some (le a b)
  hjoin : ∀ a b, a < n → b < n → J a b < n ∧ lattice_Join.f l (a : Int) (b : Int) = some ((J a b : Int), 0) ∧ reticentref01_Join.f l (a : Int) (b : Int) = some (J a b : Int)
  hmeet : ∀ a b, a < n → b < n → M a b < n ∧ lattice_Meet.f l (a : Int) (b : Int) = some ((M a b : Int), 0) ∧ reticentref01_Meet.f l (a : Int) (b : Int) = some (M a b : Int)
  hlen : labels.length = 4
  hlab : ∀ i : Nat, i < 4 → lAt labels (i : Int) = some (labs i : Int) ∧ labs i < n
section
variable {l : api_Lattice} {labels : List Int} (E : Je l labels)
def ev : Tr → Bool × Nat
  | .lf op => (decide (op = 1), if op = 6 then E.bot else if op = 7 then E.top else E.labs (op - 8).toNat)
  | .nd op x y => (if op = 3 then (ev x).1 && (ev y).1 else if op = 4 then (ev x).1 || (ev y).1 else E.le (ev x).2 (ev y).2, if op = 12 then E.J (ev x).2 (ev y).2 else E.M (ev x).2 (ev y).2)
theorem ev_lt : ∀ {t : Tr}, t.wf → t.sort = true → (ev E t).2 < E.n
  | .lf op, h, hs => by
    rcases h with rfl | rfl | rfl | rfl | rfl | rfl | rfl | rfl
    · simp [Tr.sort] at hs
    · simp [Tr.sort] at hs
    · exact E.hbot.1
    · exact E.htop.1
    · exact (E.hlab 0 (by omega)).2
    · exact (E.hlab 1 (by omega)).2
    · exact (E.hlab 2 (by omega)).2
    · exact (E.hlab 3 (by omega)).2
  | .nd op x y, ⟨h, hx, hy, sx, sy⟩, hs => by
    rcases h with rfl | rfl | rfl | rfl | rfl
    · simp [Tr.sort] at hs
    · simp [Tr.sort] at hs
    · simp [Tr.sort] at hs
    · exact (E.hjoin _ _ (ev_lt hx sx) (ev_lt hy sy)).1
    · exact (E.hmeet _ _ (ev_lt hx sx) (ev_lt hy sy)).1
def val (t : Tr) : If113 := if t.sort then .c119 ((ev E t).2 : Int) else .c110 (ev E t).1
theorem put_eq {P : List If113} {x : If113} {lb : List Int} (h : P.length ≤ 1000) : judge_judge_put.f (⟨l, lb, P⟩ : judge_judge) x = some ⟨l, lb, P ++ [x]⟩ := by
  unfold judge_judge_put.f
  have hB : 200000 ≤ big := by decide
  have : (P.length + ([x] : List If113).length) * 16 ≤ big := by simp; omega
  exact if_pos this
theorem two_eq' {P : List If113} {x y : If113} {lb : List Int} (h : P.length ≤ 1000) : judge_judge_two.f (⟨l, lb, P ++ [x] ++ [y]⟩ : judge_judge) = some (⟨l, lb, P⟩, x, y) := by
  unfold judge_judge_two.f
  have hlen : (P ++ [x] ++ [y]).length = P.length + 2 := by simp
  show (lAt (P ++ [x] ++ [y]) (IntKind.i64.wrap (((P ++ [x] ++ [y]).length : Int) - 2)) >>= _) = _
  rw [w2 (by omega), lAt_last2, bsome]
  have e1 : IntKind.i64.wrap ((((P ++ [x] ++ [y]).length : Nat) : Int) - 2 + 1) = (((P ++ [x] ++ [y]).length : Nat) : Int) - 1 := by rw [wrapZ (by omega) (by omega)]; omega
  show (lAt (P ++ [x] ++ [y]) (IntKind.i64.wrap ((((P ++ [x] ++ [y]).length : Nat) : Int) - 2 + 1)) >>= _) = _
  rw [e1, lAt_last (l := P ++ [x]) (x := y), bsome, if_pos (show (0 : Int) ≤ (((P ++ [x] ++ [y]).length : Nat) : Int) - 2 ∧ (((P ++ [x] ++ [y]).length : Nat) : Int) - 2 ≤ (((P ++ [x] ++ [y]).length : Nat) : Int) from ⟨by omega, by omega⟩)]
  have e2 : (P ++ [x] ++ [y]).take ((((P ++ [x] ++ [y]).length : Nat) : Int) - 2).toNat = P := by
    rw [hlen, show ((((P.length + 2 : Nat) : Int) - 2).toNat) = P.length by omega, List.append_assoc, List.take_left]
  rw [e2]
theorem both_eq {op : Int} {x y : Tr} {P : List If113} (hx : x.wf) (hy : y.wf) (ho : NdOp op) (sx : x.sort = decide (op ≥ 5)) (sy : y.sort = decide (op ≥ 5)) :
    judge_judge_both.f (⟨l, labels, P⟩ : judge_judge) op (val E x) (val E y) = some (⟨l, labels, P⟩, val E (.nd op x y)) := by
  unfold judge_judge_both.f
  by_cases h5 : op ≥ 5
  · rw [decide_eq_true h5] at sx sy
    have lx := ev_lt E hx sx
    have ly := ev_lt E hy sy
    have e1 : val E x = .c119 ((ev E x).2 : Int) := by unfold val; rw [sx]; rfl
    have e2 : val E y = .c119 ((ev E y).2 : Int) := by unfold val; rw [sy]; rfl
    rw [e1, e2]
    show (if false = true then _ else (if true = true then _ else _)) = _
    rw [if_neg (by decide), if_pos rfl]
    rcases ho with rfl | rfl | rfl | rfl | rfl
    · omega
    · omega
    · rw [if_pos rfl]
      show (lattice_Flows.f l ((ev E x).2 : Int) ((ev E y).2 : Int) >>= _) = _
      rw [(E.hflows _ _ lx ly).1, bsome]; rfl
    · rw [if_neg (by decide), if_pos rfl]
      show (lattice_Join.f l ((ev E x).2 : Int) ((ev E y).2 : Int) >>= _) = _
      rw [(E.hjoin _ _ lx ly).2.1, bsome]; rfl
    · rw [if_neg (by decide), if_neg (by decide)]
      show (lattice_Meet.f l ((ev E x).2 : Int) ((ev E y).2 : Int) >>= _) = _
      rw [(E.hmeet _ _ lx ly).2.1, bsome]; rfl
  · rw [decide_eq_false h5] at sx sy
    have e1 : val E x = .c110 (ev E x).1 := by unfold val; rw [sx]; rfl
    have e2 : val E y = .c110 (ev E y).1 := by unfold val; rw [sy]; rfl
    rw [e1, e2]
    show (if true = true then _ else _) = _
    rw [if_pos rfl]
    show (if op = 3 then ((if (ev E x).1 = true then some (If113.c110 (ev E y).1) else some (If113.c110 false)) >>= _) else ((if (ev E x).1 = true then some (If113.c110 true) else some (If113.c110 (ev E y).1)) >>= _)) = _
    have hv : val E (.nd op x y) = .c110 (ev E (.nd op x y)).1 := by
      unfold val
      have : (Tr.nd op x y).sort = false := decide_eq_false (by omega)
      rw [this]; rfl
    rw [hv]
    have he : ∀ op', (ev E (.nd op' x y)).1 = (if op' = 3 then (ev E x).1 && (ev E y).1 else if op' = 4 then (ev E x).1 || (ev E y).1 else E.le (ev E x).2 (ev E y).2) := fun _ => rfl
    rw [he]
    rcases ho with rfl | rfl | rfl | rfl | rfl
    · rw [if_pos rfl, if_pos rfl]
      cases (ev E x).1 <;> cases (ev E y).1 <;> rfl
    · rw [if_neg (show ¬ ((4 : Int) = 3) by decide), if_neg (show ¬ ((4 : Int) = 3) by decide), if_pos rfl]
      cases (ev E x).1 <;> cases (ev E y).1 <;> rfl
    · omega
    · omega
    · omega
end
end Go.Proofs.Ythpmbokenhpakaa.Jdg
