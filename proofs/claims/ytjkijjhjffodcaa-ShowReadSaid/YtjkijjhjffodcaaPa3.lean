/- What is a rule's tokens is read as the rule. -/
import Derived.Test.YtjkijjhjffodcaaPa2
set_option linter.unusedVariables false
set_option linter.unusedSimpArgs false
namespace Go.Proofs.Ytjkijjhjffodcaa.Par
open Go Go.Proofs.Ytjkijjhjffodcaa.Ab Go.Proofs.Ytjkijjhjffodcaa.LF
open Go.Proofs.Ytjkijjhjffodcaa.Lat (lAt_some)
def inner : Nat → List Str
  | 0 => [[97, 110, 100], [106, 111, 105, 110], [109, 101, 101, 116]]
  | 1 => [[106, 111, 105, 110], [109, 101, 101, 116]]
  | 2 => [[109, 101, 101, 116]]
  | 4 => [[106, 111, 105, 110], [109, 101, 101, 116]]
  | _ => []
def outer (k : Nat) : List Str := if k < 4 then wdK k :: inner k else inner k
def Stops (l : List Str) (z : api_Tok) : Prop := ∀ x ∈ l, isT z x = false
theorem isT_ne {t : api_Tok} {a b : Str} (h : isT t a = true) (hn : a ≠ b) : isT t b = false := by
  unfold isT at *
  rw [Bool.and_eq_true] at h
  have e := of_decide_eq_true h.2
  have : decide (t.Text = b) = false := decide_eq_false (fun q => hn (e.symm.trans q))
  rw [this, Bool.and_false]
theorem outer_sub {k : Nat} (hk : k < 4) : outer (sub k) = inner k := by
  have : k = 0 ∨ k = 1 ∨ k = 2 ∨ k = 3 := by omega
  rcases this with rfl | rfl | rfl | rfl <;> rfl
theorem wd_stops {k : Nat} (hk : k < 4) {m : api_Tok} (h : isT m (wdK k) = true) : Stops (inner k) m := by
  have : k = 0 ∨ k = 1 ∨ k = 2 ∨ k = 3 := by omega
  intro x hx
  rcases this with rfl | rfl | rfl | rfl <;> simp only [inner, List.mem_cons, List.not_mem_nil, or_false] at hx
  · rcases hx with rfl | rfl | rfl <;> exact isT_ne h (by decide)
  · rcases hx with rfl | rfl <;> exact isT_ne h (by decide)
  · subst hx; exact isT_ne h (by decide)
def Fk (k m : Nat) : rule_parser → Option rule_parser := match k with
  | 0 => rule_parser_cond.B (rule_parser_cond.F m)
  | 1 => rule_parser_and.f (rule_parser_cond.F m)
  | 2 => rule_parser_label.B (rule_parser_label.F m)
  | 3 => rule_parser_term.f (rule_parser_label.F m)
  | 4 => rule_parser_prim.f (rule_parser_cond.F m)
  | _ => rule_parser_atom.f (rule_parser_label.F m)
def rowK {k : Nat} (m : Nat) (hk : k < 4) : RowIs (Fk k m) (Fk (sub k) m) (wdK k) (opk k) := match k, hk with
  | 0, _ => rowCond _
  | 1, _ => rowAnd _
  | 2, _ => rowLabel _
  | 3, _ => rowTerm _
def Lk (k m : Nat) : rule_parser → Option rule_parser := if hk : k < 4 then (rowK m hk).L0 else some
def advW (s : rule_parser) (w : List api_Tok) (t : Tr) : rule_parser := ⟨s.l_, s.i_ + w.length, s.out_ ++ t.flat, s.deep_, 0⟩
structure At (s : rule_parser) (w : List api_Tok) (z : api_Tok) (r : List api_Tok) (d n : Nat) : Prop where
  v : Val s
  bad : s.bad_ = 0
  here : s.l_.drop s.i_.toNat = w ++ z :: r
  deep : s.deep_ + d ≤ 12
  room : s.out_.length + n ≤ 40
theorem At.len {s : rule_parser} {w r : List api_Tok} {z : api_Tok} {d n : Nat} (a : At s w z r d n) : s.i_ + w.length < s.l_.length := by
  have h := congrArg List.length a.here
  have h0 := a.v.i0
  have h1 := a.v.i1
  simp at h
  omega
theorem At.val {s : rule_parser} {w r : List api_Tok} {z : api_Tok} {d : Nat} {t : Tr} (a : At s w z r d t.size) : Val (advW s w t) :=
  a.v.of rfl (by show 0 ≤ s.i_ + w.length; have := a.v.i0; omega) a.len rfl (by show (s.out_ ++ t.flat).length ≤ 40; rw [List.length_append, flat_len]; exact a.room)
theorem At.tok {s : rule_parser} {w r : List api_Tok} {z : api_Tok} {d n : Nat} (a : At s w z r d n) : s.l_[(s.i_ + w.length).toNat]? = some z := by
  have h0 := a.v.i0
  have : (s.i_ + w.length).toNat = s.i_.toNat + w.length := by omega
  rw [this, ← List.getElem?_drop, a.here, List.getElem?_append_right (Nat.le_refl _)]
  simp
theorem At.tok0 {s : rule_parser} {a0 : api_Tok} {w r : List api_Tok} {z : api_Tok} {d n : Nat} (a : At s (a0 :: w) z r d n) : s.l_[s.i_.toNat]? = some a0 := by
  have : s.l_[s.i_.toNat]? = (s.l_.drop s.i_.toNat)[0]? := by rw [List.getElem?_drop]; simp
  rw [this, a.here]; rfl
def Claim (k d : Nat) (w : List api_Tok) (t : Tr) : Prop := ∀ (m : Nat), d ≤ m → ∀ (s : rule_parser) (z : api_Tok) (r : List api_Tok), At s w z r d t.size → Stops (inner k) z → Fk k m s = Lk k m (advW s w t)
theorem full {k d : Nat} {w : List api_Tok} {t : Tr} (h : Claim k d w t) {m : Nat} (hm : d ≤ m) {s : rule_parser} {z : api_Tok} {r : List api_Tok} (a : At s w z r d t.size) (hz : Stops (outer k) z) : Fk k m s = some (advW s w t) := by
  unfold outer at hz
  by_cases hk : k < 4
  · rw [if_pos hk] at hz
    rw [h m hm s z r a (fun x hx => hz x (List.mem_cons_of_mem _ hx))]
    unfold Lk
    rw [dif_pos hk, (rowK m hk).hL]
    have := take_no a.val (t := z) (a := wdK k) a.tok (.inr (hz _ (List.mem_cons_self ..)))
    rw [this]; rfl
  · rw [if_neg hk] at hz
    rw [h m hm s z r a hz]
    unfold Lk
    rw [dif_neg hk]
theorem first_lab : ∀ {k d : Nat} {w : List api_Tok} {t : Tr}, Der k d w t → k = 2 ∨ k = 3 ∨ k = 5 → ∃ a r, w = a :: r ∧ isT a [116, 114, 117, 101] = false ∧ isT a [102, 97, 108, 115, 101] = false ∧ isT a [40] = false := by
  intro k d w t h
  induction h with
  | tru => intro q; omega
  | fls => intro q; omega
  | parC => intro q; omega
  | flows => intro q; omega
  | @leaf d t op hk hw =>
    intro _
    refine ⟨t, [], rfl, ?_⟩
    have hne : ∀ s : Str, mFind wordsL s = none → isT t s = false := by
      intro s hs
      cases q : isT t s with
      | false => rfl
      | true =>
        unfold isT at q
        rw [Bool.and_eq_true] at q
        rw [of_decide_eq_true q.2, hs] at hw; cases hw
    exact ⟨hne _ (by decide), hne _ (by decide), hne _ (by decide)⟩
  | @parL d a b w t ha h hb ih => intro _; exact ⟨a, w ++ [b], rfl, isT_ne ha (by decide), isT_ne ha (by decide), isT_ne ha (by decide)⟩
  | @one k d w t hk h ih =>
    intro q
    refine ih ?_
    rcases q with rfl | rfl | rfl
    · exact .inr (.inl rfl)
    · exact .inr (.inr rfl)
    · omega
  | @more k d m w1 w2 x y hk hx hm hy ihx ihy =>
    intro q
    obtain ⟨a, r, e, h⟩ := ihx q
    exact ⟨a, r ++ m :: w2, by rw [e]; rfl, h⟩
theorem Lk_none {k m : Nat} (hk : ¬ k < 4) {s : rule_parser} : Lk k m s = some s := by unfold Lk; rw [dif_neg hk]
/-- What is between brackets. -/
theorem inside_at {k d m' : Nat} {rc : rule_parser → Option rule_parser} {w : List api_Tok} {t : Tr} {s : rule_parser} {a b z : api_Tok} {r : List api_Tok} {e : Str} (hrc : rc = Fk k m') (hC : Claim k d w t) (hm : d ≤ m') (hs : Stops (outer k) b) (hb : isT b e = true) (A : At s (a :: (w ++ [b])) z r (d + 1) t.size) :
    inside rc s e = some (advW s (a :: (w ++ [b])) t) := by
  have v := A.v
  have h0 := v.i0
  have hd0 := v.d0
  have hd := A.deep
  have hl := A.len
  simp only [List.length_cons, List.length_append, List.length_nil] at hl
  unfold inside
  rw [if_neg (by omega), next_eq v (by omega), bsome]
  have hw : IntKind.i64.wrap (s.deep_ + 1) = s.deep_ + 1 := wrapZ (by omega) (by omega)
  show (rc ⟨s.l_, s.i_ + 1, s.out_, IntKind.i64.wrap (s.deep_ + 1), s.bad_⟩ >>= _) = _
  rw [hw, hrc]
  have hr := A.room
  have A1 : At ⟨s.l_, s.i_ + 1, s.out_, s.deep_ + 1, s.bad_⟩ w b (z :: r) d t.size :=
    ⟨⟨v.len, by show 0 ≤ s.i_ + 1; omega, by show s.i_ + 1 < (s.l_.length : Int); omega, v.last, by show 0 ≤ s.deep_ + 1; omega, by show s.deep_ + 1 ≤ 12; omega, v.out⟩, A.bad,
      by
        have := A.here
        have h1 := drop_tok h0 A.tok0
        rw [this] at h1
        simp only [List.cons_append, List.cons.injEq, true_and, List.append_assoc, List.nil_append] at h1
        exact h1.symm, by show s.deep_ + 1 + (d : Int) ≤ 12; omega, hr⟩
  rw [full hC hm A1 hs, bsome]
  show ((if (0 : Int) = 0 then _ else _) >>= _) = _
  rw [if_pos rfl]
  have v1 := A1.val
  have hlt := notlast v1 (a := e) A1.tok hb
  rw [take_yes v1 A1.tok rfl hb, bsome, bsome]
  show (if (!true) = true then _ else some (⟨s.l_, s.i_ + 1 + w.length + 1, s.out_ ++ t.flat, IntKind.i64.wrap (s.deep_ + 1 - 1), 0⟩ : rule_parser)) = _
  rw [if_neg (by simp), show IntKind.i64.wrap (s.deep_ + 1 - 1) = s.deep_ by rw [wrapZ (by omega) (by omega)]; omega]
  unfold advW
  congr 2
  simp only [List.length_cons, List.length_append, List.length_nil]
  omega
theorem take_n {s : rule_parser} (v : Val s) {t : api_Tok} {a : Str} (ht : s.l_[s.i_.toNat]? = some t) (h : isT t a = false) : rule_parser_take.f s a = some (s, false) := take_no v ht (.inr h)
theorem size_pos : ∀ t : Tr, 1 ≤ t.size
  | .lf _ => by simp [Tr.size]
  | .nd _ _ _ => by simp [Tr.size]
theorem comp : ∀ {k d : Nat} {w : List api_Tok} {t : Tr}, Der k d w t → Claim k d w t := by
  intro k d w t h
  induction h with
  | @tru d t h =>
    intro m hm s z r A hz
    have v := A.v
    rw [Lk_none (by omega)]
    show rule_parser_prim.f _ s = _
    rw [prim_eq]
    unfold primS
    rw [take_yes v A.tok0 A.bad h, bsome, if_pos rfl]
    have hr := A.room
    simp only [Tr.size] at hr
    rw [put_eq (s := adv1 s) A.bad (by show s.out_.length < 40; omega)]; rfl
  | @fls d t h =>
    intro m hm s z r A hz
    have v := A.v
    rw [Lk_none (by omega)]
    show rule_parser_prim.f _ s = _
    rw [prim_eq]
    unfold primS
    rw [take_n v A.tok0 (isT_ne h (by decide)), bsome, if_neg (by simp)]
    show (rule_parser_take.f s _ >>= _) = _
    rw [take_yes v A.tok0 A.bad h, bsome, if_pos rfl]
    have hr := A.room
    simp only [Tr.size] at hr
    rw [put_eq (s := adv1 s) A.bad (by show s.out_.length < 40; omega)]; rfl
  | @parC d a b w t ha h hb ih =>
    intro m hm s z r A hz
    have v := A.v
    obtain ⟨m', rfl⟩ : ∃ m', m = m' + 1 := ⟨m - 1, by omega⟩
    rw [Lk_none (by omega)]
    show rule_parser_prim.f _ s = _
    rw [prim_eq]
    unfold primS
    rw [take_n v A.tok0 (isT_ne ha (by decide)), bsome, if_neg (by simp)]
    show (rule_parser_take.f s _ >>= _) = _
    rw [take_n v A.tok0 (isT_ne ha (by decide)), bsome, if_neg (by simp)]
    show (rule_parser_is.f s _ >>= _) = _
    obtain ⟨t', h1, h2⟩ := tok_at v
    rw [A.tok0] at h1; cases h1
    rw [is_eq h2, bsome, ha, decide_eq_true A.bad]
    show (if (true && true) = true then inside _ s _ else _) = _
    rw [if_pos (show (true && true) = true from rfl)]
    exact inside_at (k := 0) (m' := m') rfl ih (by omega) (fun x hx => isT_ne hb (by
      simp only [outer, inner, wdK, if_pos (show 0 < 4 by omega), List.mem_cons, List.not_mem_nil, or_false] at hx
      rcases hx with rfl | rfl | rfl | rfl <;> decide)) hb A
  | @flows d mm w1 w2 x y hx hm' hy ihx ihy =>
    intro m hm s z r A hz
    have v := A.v
    have hr := A.room
    have hdp := A.deep
    have hd0 := v.d0
    have h0 := v.i0
    simp only [Tr.size] at hr
    obtain ⟨a, r1, e1, n1, n2, n3⟩ := first_lab hx (.inl rfl)
    have ht : s.l_[s.i_.toNat]? = some a := by
      have A' := A
      rw [e1] at A'
      exact At.tok0 (w := r1 ++ mm :: w2) A'
    rw [Lk_none (by omega)]
    show rule_parser_prim.f _ s = _
    rw [prim_eq]
    unfold primS
    rw [take_n v ht n1, bsome, if_neg (by simp)]
    show (rule_parser_take.f s _ >>= _) = _
    rw [take_n v ht n2, bsome, if_neg (by simp)]
    show (rule_parser_is.f s _ >>= _) = _
    obtain ⟨t', h1, h2⟩ := tok_at v
    rw [ht] at h1; cases h1
    rw [is_eq h2, bsome, n3, Bool.and_false, if_neg (by simp)]
    show (rule_parser_label.f s >>= _) = _
    have hl := A.len
    simp only [List.length_append, List.length_cons] at hl
    have A1 : At s w1 mm (w2 ++ z :: r) d x.size := ⟨v, A.bad, by rw [A.here]; simp, hdp, by omega⟩
    have s1 : rule_parser_label.f s = some (advW s w1 x) := full ihx (m := 999) (by omega) A1 (fun q hq => isT_ne hm' (by
      simp only [outer, inner, wdK, if_pos (show 2 < 4 by omega), List.mem_cons, List.not_mem_nil, or_false] at hq
      rcases hq with rfl | rfl <;> decide))
    rw [s1, bsome]
    show ((if (0 : Int) = 0 then _ else _) >>= _) = _
    rw [if_pos rfl, take_yes A1.val A1.tok rfl hm', bsome, bsome]
    show ((if (!true) = true then _ else some (adv1 (advW s w1 x))) >>= _) = _
    rw [if_neg (by simp), bsome]
    have hlt := notlast A1.val A1.tok hm'
    have A2 : At (adv1 (advW s w1 x)) w2 z r d y.size :=
      ⟨adv_val A1.val hlt, rfl, by
        have e := drop_tok A1.val.i0 A1.tok
        have q : s.l_.drop (s.i_ + w1.length).toNat = mm :: (w2 ++ z :: r) := by
          have : (s.i_ + w1.length).toNat = s.i_.toNat + w1.length := by omega
          rw [this, ← List.drop_drop, A1.here, List.drop_left]
        have e' : s.l_.drop (s.i_ + w1.length).toNat = mm :: s.l_.drop (s.i_ + w1.length + 1).toNat := e
        rw [q] at e'
        simp only [List.cons.injEq, true_and] at e'
        exact e'.symm, hdp, by show (s.out_ ++ x.flat).length + y.size ≤ 40; rw [List.length_append, flat_len]; omega⟩
    have s2 : rule_parser_label.f (adv1 (advW s w1 x)) = some (advW (adv1 (advW s w1 x)) w2 y) := full ihy (m := 999) (by omega) A2 (fun q hq => hz q hq)
    rw [s2, bsome]
    rw [put_eq rfl (by show ((s.out_ ++ x.flat) ++ y.flat).length < 40; simp only [List.length_append, flat_len]; omega)]
    unfold advW adv1
    congr 2
    · simp only [List.length_append, List.length_cons]; omega
    · simp [Tr.flat]
  | @leaf d t op hk hw =>
    intro m hm s z r A hz
    have v := A.v
    have hr := A.room
    simp only [Tr.size] at hr
    have hl := A.len
    simp only [List.length_cons, List.length_nil] at hl
    rw [Lk_none (by omega)]
    show rule_parser_atom.f _ s = _
    obtain ⟨t', h1, h2⟩ := tok_at v
    rw [A.tok0] at h1; cases h1
    have hg : mGet wordsL 0 t.Text = (op, true) := by unfold mGet; rw [hw]
    rw [atom_eq h2 A.bad, hg, if_pos ⟨rfl, hk⟩, next_eq v (by omega), bsome]
    show rule_parser_put.f (adv1 s) op = _
    rw [put_eq (s := adv1 s) A.bad (by show s.out_.length < 40; omega)]; rfl
  | @parL d a b w t ha h hb ih =>
    intro m hm s z r A hz
    have v := A.v
    obtain ⟨m', rfl⟩ : ∃ m', m = m' + 1 := ⟨m - 1, by omega⟩
    rw [Lk_none (by omega)]
    show rule_parser_atom.f _ s = _
    obtain ⟨t', h1, h2⟩ := tok_at v
    rw [A.tok0] at h1; cases h1
    have htx : a.Text = [91] := by
      unfold isT at ha
      rw [Bool.and_eq_true] at ha
      exact of_decide_eq_true ha.2
    rw [atom_eq h2 A.bad, if_neg (show ¬ ((mGet wordsL 0 a.Text).2 = true ∧ a.Kind = 1) from fun q => by rw [htx] at q; exact absurd q.1 (by decide)), if_pos ha]
    exact inside_at (k := 2) (m' := m') rfl ih (by omega) (fun x hx => isT_ne hb (by
      simp only [outer, inner, wdK, if_pos (show 2 < 4 by omega), List.mem_cons, List.not_mem_nil, or_false] at hx
      rcases hx with rfl | rfl <;> decide)) hb A
  | @one k d w t hk h ih =>
    intro m hm s z r A hz
    rw [(rowK m hk).hR, full ih hm A (by rw [outer_sub hk]; exact hz), bsome]
    unfold Lk
    rw [dif_pos hk]
  | @more k d mm w1 w2 x y hk hx hm' hy ihx ihy =>
    intro m hm s z r A hz
    have v := A.v
    have hr := A.room
    have h0 := v.i0
    simp only [Tr.size] at hr
    have A1 : At s w1 mm (w2 ++ z :: r) d x.size := ⟨v, A.bad, by rw [A.here]; simp, A.deep, by omega⟩
    rw [ihx m hm s mm _ A1 (wd_stops hk hm')]
    unfold Lk
    rw [dif_pos hk, (rowK m hk).hL, take_yes A1.val A1.tok rfl hm', bsome, if_pos rfl]
    have hlt := notlast A1.val A1.tok hm'
    have A2 : At (adv1 (advW s w1 x)) w2 z r d y.size :=
      ⟨adv_val A1.val hlt, rfl, by
        have e := drop_tok A1.val.i0 A1.tok
        have q : s.l_.drop (s.i_ + w1.length).toNat = mm :: (w2 ++ z :: r) := by
          have : (s.i_ + w1.length).toNat = s.i_.toNat + w1.length := by omega
          rw [this, ← List.drop_drop, A1.here, List.drop_left]
        have e' : s.l_.drop (s.i_ + w1.length).toNat = mm :: s.l_.drop (s.i_ + w1.length + 1).toNat := e
        rw [q] at e'
        simp only [List.cons.injEq, true_and] at e'
        exact e'.symm, A.deep, by show (s.out_ ++ x.flat).length + y.size ≤ 40; rw [List.length_append, flat_len]; omega⟩
    show (Fk (sub k) m (adv1 (advW s w1 x)) >>= _) = _
    rw [full ihy hm A2 (by rw [outer_sub hk]; exact hz), bsome]
    rw [put_eq rfl (by show ((s.out_ ++ x.flat) ++ y.flat).length < 40; simp only [List.length_append, flat_len]; omega), bsome]
    congr 1
    unfold advW adv1
    congr 1
    · simp only [List.length_append, List.length_cons]; omega
    · simp [Tr.flat]
/-! What is read is made right. -/
theorem run_app : ∀ {a b : List Int} {S : List Bool}, run (a ++ b) S = (run a S).bind (run b)
  | [], b, S => rfl
  | op :: a, b, S => by
    show ((st op S).bind (run (a ++ b))) = ((st op S).bind (run a)).bind (run b)
    cases st op S with
    | none => rfl
    | some S' => exact run_app
def sortK (k : Nat) : Bool := decide (k = 2 ∨ k = 3 ∨ k = 5)
theorem run_der : ∀ {k d : Nat} {w : List api_Tok} {t : Tr}, Der k d w t → ∀ S, run t.flat S = some (sortK k :: S) := by
  intro k d w t h
  induction h with
  | tru => intro S; rfl
  | fls => intro S; rfl
  | parC ha h hb ih => intro S; exact ih S
  | flows hx hm hy ihx ihy =>
    intro S
    simp only [Tr.flat]
    rw [run_app, run_app, ihx, Option.bind_some, ihy, Option.bind_some]; rfl
  | @leaf d t op hk hw =>
    intro S
    have hop : op = 6 ∨ op = 7 ∨ op = 8 ∨ op = 9 ∨ op = 10 ∨ op = 11 := by
      simp only [wordsL, mFind] at hw
      repeat' (split at hw)
      all_goals first | (cases hw; simp) | cases hw
    rcases hop with rfl | rfl | rfl | rfl | rfl | rfl <;> rfl
  | parL ha h hb ih => intro S; exact ih S
  | @one k d w t hk h ih =>
    intro S
    rw [ih S]
    have : k = 0 ∨ k = 1 ∨ k = 2 ∨ k = 3 := by omega
    rcases this with rfl | rfl | rfl | rfl <;> rfl
  | @more k d m w1 w2 x y hk hx hm hy ihx ihy =>
    intro S
    simp only [Tr.flat]
    rw [run_app, run_app, ihx, Option.bind_some, ihy, Option.bind_some]
    have : k = 0 ∨ k = 1 ∨ k = 2 ∨ k = 3 := by omega
    rcases this with rfl | rfl | rfl | rfl <;> rfl
theorem right_der {k d : Nat} {w : List api_Tok} {t : Tr} (h : Der k d w t) (hs : t.size ≤ 40) : right t.flat = some (sortK k) := by
  unfold right
  rw [run_der h]
  simp only
  rw [if_neg (by rw [flat_len]; omega)]
end Go.Proofs.Ytjkijjhjffodcaa.Par
