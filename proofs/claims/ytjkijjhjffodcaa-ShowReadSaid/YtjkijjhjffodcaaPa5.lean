/- Texts and their tokens. -/
import Derived.Test.YtjkijjhjffodcaaPa4
set_option linter.unusedVariables false
set_option linter.unusedSimpArgs false
namespace Go.Proofs.Ytjkijjhjffodcaa.Par
open Go Go.Proofs.Ytjkijjhjffodcaa.Ab Go.Proofs.Ytjkijjhjffodcaa.LF
open Go.Proofs.Ytjkijjhjffodcaa.Lat (lAt_some)
inductive LexTo : Str → List (Int × Str) → Prop
  | nil : LexTo [] []
  | skip {s : Str} {n : Nat} {T : List (Int × Str)} (h : tokS s = (0, n)) (hn : n ≠ 0) (k : LexTo (s.drop n) T) : LexTo s T
  | tok {s : Str} {kd : Int} {n : Nat} {T : List (Int × Str)} (h : tokS s = (kd, n)) (hn : n ≠ 0) (hk : kd ≠ 0) (k : LexTo (s.drop n) T) : LexTo s ((kd, s.take n) :: T)
def kt (t : api_Tok) : Int × Str := (t.Kind, t.Text)
theorem tok_ne {s : Str} {kd : Int} {n : Nat} (h : tokS s = (kd, n)) (hn : n ≠ 0) : s ≠ [] := by
  rintro rfl
  have : tokS [] = (0, 0) := rfl
  rw [this] at h; cases h; exact hn rfl
theorem lex_to {F : Str} (hF : F.length ≤ 2500) : ∀ {s : Str} {T : List (Int × Str)}, LexTo s T → ∀ (k : Nat) (L : List api_Tok), F.drop k = s → k ≤ F.length → L.length ≤ k →
    ∃ ts, lex_Lex.l0 F L (k : Int) = some (.inr (L ++ ts)) ∧ ts.map kt = T := by
  intro s T h
  induction h with
  | nil =>
    intro k L e hk hL
    have hlen := congrArg List.length e
    simp at hlen
    exact ⟨[], by rw [lex_Lex.l0, if_neg (by omega)]; simp, rfl⟩
  | @skip s n T h hn k ih =>
    intro q L e hk hL
    have hne := tok_ne h hn
    have hlen := congrArg List.length e
    simp at hlen
    have hpos : 0 < s.length := List.length_pos_iff.2 hne
    have hle := tok_le hne
    rw [h] at hle
    have hle : n ≤ s.length := hle
    rw [lex_step hF (by omega) (show q < F.length by omega), e, h]
    rw [if_neg hn, if_pos rfl]
    exact ih (q + n) L (by rw [← List.drop_drop, e]) (by omega) (by omega)
  | @tok s kd n T h hn hkd k ih =>
    intro q L e hk hL
    have hne := tok_ne h hn
    have hlen := congrArg List.length e
    simp at hlen
    have hpos : 0 < s.length := List.length_pos_iff.2 hne
    have hle := tok_le hne
    rw [h] at hle
    have hle : n ≤ s.length := hle
    rw [lex_step hF (by omega) (show q < F.length by omega), e, h]
    rw [if_neg hn, if_neg hkd]
    obtain ⟨ts, e1, e2⟩ := ih (q + n) (L ++ [⟨kd, s.take n, (q : Int)⟩]) (by rw [← List.drop_drop, e]) (by omega) (by simp; omega)
    exact ⟨⟨kd, s.take n, (q : Int)⟩ :: ts, by rw [e1]; simp, by rw [List.map_cons, e2]; rfl⟩
theorem lex_eq {F : Str} {T : List (Int × Str)} (h : LexTo F T) (hF : F.length ≤ 2000) (hT : T.length < 200) :
    ∃ ts, lex_Lex.f F = some (ts ++ [⟨0, [], (F.length : Int)⟩], 0, 0) ∧ ts.map kt = T := by
  obtain ⟨ts, e1, e2⟩ := lex_to (by omega) h 0 [] rfl (by omega) (by simp)
  refine ⟨ts, ?_, e2⟩
  have hlen : ts.length = T.length := by rw [← e2]; simp
  have hB : 1000000 ≤ big := by decide
  unfold lex_Lex.f
  rw [if_neg (by omega)]
  have e1' : lex_Lex.l0 F [] 0 = some (.inr ts) := e1
  rw [e1', bsome]
  show (if _ then _ else _) = _
  rw [if_pos (by simp; omega), if_neg (by simp; omega)]
/-! Pieces. -/
def Sep (s : Str) : Prop := ∀ c r, s = c :: r → letP (c.toNat : Int) = false
theorem sep_nil : Sep [] := fun c r h => by cases h
theorem sep_cons {c : UInt8} {s : Str} (h : letP (c.toNat : Int) = false) : Sep (c :: s) := fun c' r e => by cases e; exact h
theorem cnt_word {p : Int → Bool} {w s : Str} (hw : ∀ c ∈ w, p (c.toNat : Int) = true) (hs : ∀ c r, s = c :: r → p (c.toNat : Int) = false) : cnt p (w ++ s) = w.length := by
  unfold cnt
  induction w with
  | nil =>
    match s, hs with
    | [], _ => rfl
    | c :: r, hs =>
      have := hs c r rfl
      rw [List.nil_append, List.takeWhile_cons, this]; rfl
  | cons a w ih =>
    rw [List.cons_append, List.takeWhile_cons, hw a (List.mem_cons_self ..)]
    simp [ih (fun c hc => hw c (List.mem_cons_of_mem _ hc))]
theorem tok_word {w s : Str} (hne : w ≠ []) (hw : ∀ c ∈ w, letP (c.toNat : Int) = true) (hs : Sep s) : tokS (w ++ s) = (1, w.length) := by
  match w, hne, hw with
  | c :: w, _, hw =>
    have hc := hw c (List.mem_cons_self ..)
    show tokX (c.toNat : Int) c (w ++ s) = _
    unfold tokX
    have hc' := hc
    unfold letP at hc'
    rw [Bool.and_eq_true, decide_eq_true_iff, decide_eq_true_iff] at hc'
    rw [if_neg (by omega), if_neg (by omega), if_pos hc]
    have := cnt_word (p := letP) hw hs
    rw [List.cons_append] at this
    rw [this]
theorem lt_word {w s : Str} {T : List (Int × Str)} (hne : w ≠ []) (hw : ∀ c ∈ w, letP (c.toNat : Int) = true) (hs : Sep s) (k : LexTo s T) : LexTo (w ++ s) ((1, w) :: T) := by
  have h := LexTo.tok (s := w ++ s) (T := T) (tok_word hne hw hs) (fun q => hne (List.length_eq_zero_iff.1 q)) (by decide) (by rw [List.drop_left]; exact k)
  rwa [List.take_left] at h
theorem lt_sp {s : Str} {T : List (Int × Str)} (k : LexTo s T) : LexTo (32 :: s) T := .skip (n := 1) rfl (by decide) k
theorem lt_mark {c : UInt8} {s : Str} {T : List (Int × Str)} (hc : c = 40 ∨ c = 41 ∨ c = 91 ∨ c = 93) (k : LexTo s T) : LexTo (c :: s) ((3, [c]) :: T) := by
  have h : tokS (c :: s) = (3, 1) := by
    rcases hc with rfl | rfl | rfl | rfl
    · show tokX 40 40 s = _
      unfold tokX
      rw [if_neg (by decide), if_neg (by decide), if_neg (by decide), if_neg (by decide), if_neg (fun q => by cases s <;> simp at q), if_pos (by decide)]
    · show tokX 41 41 s = _
      unfold tokX
      rw [if_neg (by decide), if_neg (by decide), if_neg (by decide), if_neg (by decide), if_neg (fun q => by cases s <;> simp at q), if_pos (by decide)]
    · show tokX 91 91 s = _
      unfold tokX
      rw [if_neg (by decide), if_neg (by decide), if_neg (by decide), if_neg (by decide), if_neg (fun q => by cases s <;> simp at q), if_pos (by decide)]
    · show tokX 93 93 s = _
      unfold tokX
      rw [if_neg (by decide), if_neg (by decide), if_neg (by decide), if_neg (by decide), if_neg (fun q => by cases s <;> simp at q), if_pos (by decide)]
  exact LexTo.tok (n := 1) h (by decide) (by decide) k
theorem lt_le {s : Str} {T : List (Int × Str)} (k : LexTo s T) : LexTo (60 :: 61 :: s) ((3, [60, 61]) :: T) := by
  have h : tokS (60 :: 61 :: s) = (3, 2) := by
    show tokX 60 60 (61 :: s) = _
    unfold tokX
    rw [if_neg (by decide), if_neg (by decide), if_neg (by decide), if_neg (by decide), if_pos (by simp)]
  exact LexTo.tok (n := 2) h (by decide) (by decide) k
/-! A rule's text, token by token. -/
def kd (op : Int) : Int := if op = 5 then 3 else 1
def wiT (op b least : Int) (p : List (Int × Str)) : List (Int × Str) := if b ≥ least then p else (if lab op then ((3, [91]) :: (p ++ [(3, [93])])) else ((3, [40]) :: (p ++ [(3, [41])])))
def tk : Tr → List (Int × Str)
  | .lf op => [(1, wd op)]
  | .nd op x y => (if op = 5 then tk x else wiT op (bd x.op) (bd op) (tk x)) ++ (kd op, wd op) :: (if op = 5 then tk y else wiT op (bd y.op) (bd op + 1) (tk y))
theorem wd_let {op : Int} (h : LfOp op ∨ op = 3 ∨ op = 4 ∨ op = 12 ∨ op = 13) : wd op ≠ [] ∧ ∀ c ∈ wd op, letP (c.toNat : Int) = true := by
  rcases h with (rfl | rfl | rfl | rfl | rfl | rfl | rfl | rfl) | rfl | rfl | rfl | rfl <;> exact ⟨by decide, by decide⟩
theorem wi_lex {op b least : Int} {p : Str × Int} {P T : List (Int × Str)} {s : Str} (h : ∀ s T, Sep s → LexTo s T → LexTo (p.1 ++ s) (P ++ T)) (hs : Sep s) (k : LexTo s T) : LexTo ((wi op b least p).1 ++ s) (wiT op b least P ++ T) := by
  unfold wi wiT
  by_cases hb : b ≥ least
  · rw [if_pos hb, if_pos hb]; exact h s T hs k
  · rw [if_neg hb, if_neg hb]
    cases hl : lab op with
    | true =>
      rw [if_pos rfl, if_pos rfl]
      have := lt_mark (c := 91) (by simp) (h (93 :: s) ((3, [93]) :: T) (sep_cons (by decide)) (lt_mark (by simp) k))
      simpa using this
    | false =>
      rw [if_neg (by simp), if_neg (by simp)]
      have := lt_mark (c := 40) (by simp) (h (41 :: s) ((3, [41]) :: T) (sep_cons (by decide)) (lt_mark (by simp) k))
      simpa using this
theorem tx_lex : ∀ {t : Tr}, t.ok → ∀ {s : Str} {T : List (Int × Str)}, Sep s → LexTo s T → LexTo ((tx t).1 ++ s) (tk t ++ T)
  | .lf op, ho, s, T, hs, k => lt_word (wd_let (.inl ho)).1 (wd_let (.inl ho)).2 hs k
  | .nd op x y, ⟨ho, hx, hy⟩, s, T, hs, k => by
    have ihx : ∀ s T, Sep s → LexTo s T → LexTo ((tx x).1 ++ s) (tk x ++ T) := fun s T hs k => tx_lex hx hs k
    have ihy : ∀ s T, Sep s → LexTo s T → LexTo ((tx y).1 ++ s) (tk y ++ T) := fun s T hs k => tx_lex hy hs k
    have hsp : ∀ s : Str, Sep (32 :: s) := fun s => sep_cons (by decide)
    by_cases h5 : op = 5
    · subst h5
      have e1 : (tx (.nd 5 x y)).1 ++ s = (tx x).1 ++ (32 :: (60 :: 61 :: (32 :: ((tx y).1 ++ s)))) := by
        show ((((tx x).1 ++ [32]) ++ wd 5) ++ [32]) ++ (tx y).1 ++ s = _
        simp [show wd 5 = [60, 61] from rfl]
      have e2 : tk (.nd 5 x y) ++ T = tk x ++ ((3, [60, 61]) :: (tk y ++ T)) := by simp [tk, kd, show wd 5 = [60, 61] from rfl]
      rw [e1, e2]
      exact ihx _ _ (hsp _) (lt_sp (lt_le (lt_sp (ihy _ _ hs k))))
    · have hw := wd_let (op := op) (by rcases ho with rfl | rfl | rfl | rfl | rfl <;> simp at h5 ⊢)
      have e1 : (tx (.nd op x y)).1 ++ s = (wi op (bd x.op) (bd op) (tx x)).1 ++ (32 :: (wd op ++ (32 :: ((wi op (bd y.op) (bd op + 1) (tx y)).1 ++ s)))) := by
        show ((((if op = 5 then tx x else wi op (bd x.op) (bd op) (tx x)).1 ++ [32]) ++ wd op) ++ [32]) ++ (if op = 5 then tx y else wi op (bd y.op) (bd op + 1) (tx y)).1 ++ s = _
        rw [if_neg h5, if_neg h5]; simp
      have e2 : tk (.nd op x y) ++ T = wiT op (bd x.op) (bd op) (tk x) ++ ((1, wd op) :: (wiT op (bd y.op) (bd op + 1) (tk y) ++ T)) := by simp [tk, kd, h5]
      rw [e1, e2]
      exact wi_lex ihx (hsp _) (lt_sp (lt_word hw.1 hw.2 (hsp _) (lt_sp (wi_lex ihy hs k))))
theorem wiT_len {op b least : Int} {p : List (Int × Str)} : (wiT op b least p).length ≤ p.length + 2 := by
  unfold wiT
  split
  · omega
  · split <;> simp
theorem tk_len : ∀ t : Tr, (tk t).length + 2 ≤ 3 * t.size
  | .lf op => by simp [tk, Tr.size]
  | .nd op x y => by
    have a := tk_len x
    have b := tk_len y
    have hx : (if op = 5 then tk x else wiT op (bd x.op) (bd op) (tk x)).length ≤ (tk x).length + 2 := by
      split
      · omega
      · exact wiT_len
    have hy : (if op = 5 then tk y else wiT op (bd y.op) (bd op + 1) (tk y)).length ≤ (tk y).length + 2 := by
      split
      · omega
      · exact wiT_len
    simp only [tk, Tr.size, List.length_append, List.length_cons]
    omega
/-! A rule's tokens tell it. -/
theorem der_mono : ∀ {k d : Nat} {w : List api_Tok} {t : Tr}, Der k d w t → ∀ {d' : Nat}, d ≤ d' → Der k d' w t := by
  intro k d w t h
  induction h with
  | tru h => intro d' _; exact .tru h
  | fls h => intro d' _; exact .fls h
  | parC ha h hb ih =>
    intro d' hd
    obtain ⟨e, rfl⟩ : ∃ e, d' = e + 1 := ⟨d' - 1, by omega⟩
    exact .parC ha (ih (by omega)) hb
  | flows hx hm hy ihx ihy => intro d' hd; exact .flows (ihx hd) hm (ihy hd)
  | leaf hk hw => intro d' _; exact .leaf hk hw
  | parL ha h hb ih =>
    intro d' hd
    obtain ⟨e, rfl⟩ : ∃ e, d' = e + 1 := ⟨d' - 1, by omega⟩
    exact .parL ha (ih (by omega)) hb
  | one hk h ih => intro d' hd; exact .one hk (ih hd)
  | more hk hx hm hy ihx ihy => intro d' hd; exact .more hk (ihx hd) hm (ihy hd)
/-- How tight a tree is, as a thing. -/
def lv (op : Int) : Nat := if op = 4 then 0 else if op = 3 then 1 else if op = 12 then 2 else if op = 13 then 3 else if op ≥ 6 then 5 else 4
theorem up {d : Nat} {w : List api_Tok} {t : Tr} {op op' : Int} (ho : LfOp op ∨ NdOp op) (ho' : op' = 3 ∨ op' = 4 ∨ op' = 12 ∨ op' = 13) (hs : decide (op ≥ 6) = decide (op' ≥ 6)) (h : Der (lv op) d w t) :
    (bd op ≥ bd op' → Der (lv op') d w t) ∧ (bd op ≥ bd op' + 1 → Der (sub (lv op')) d w t) := by
  have c1 : ∀ {w t}, Der 4 d w t → Der 1 d w t := fun h => .one (by omega) h
  have c0 : ∀ {w t}, Der 1 d w t → Der 0 d w t := fun h => .one (by omega) h
  have c3 : ∀ {w t}, Der 5 d w t → Der 3 d w t := fun h => .one (by omega) h
  have c2 : ∀ {w t}, Der 3 d w t → Der 2 d w t := fun h => .one (by omega) h
  rcases ho' with rfl | rfl | rfl | rfl <;> rcases ho with (rfl | rfl | rfl | rfl | rfl | rfl | rfl | rfl) | rfl | rfl | rfl | rfl | rfl <;>
    first
    | (exfalso; revert hs; decide)
    | exact ⟨fun q => (by first | exact h | exact c1 h | exact c0 (c1 h) | exact c0 h | exact c3 h | exact c2 (c3 h) | exact c2 h | (exfalso; revert q; decide)), fun q => (by first | exact h | exact c1 h | exact c3 h | (exfalso; revert q; decide))⟩
theorem top_der {d : Nat} {w : List api_Tok} {t : Tr} {op : Int} (ho : LfOp op ∨ NdOp op) (h : Der (lv op) d w t) : Der (kOf (decide (op ≥ 6))) d w t := by
  have c1 : ∀ {w t}, Der 4 d w t → Der 1 d w t := fun h => .one (by omega) h
  have c0 : ∀ {w t}, Der 1 d w t → Der 0 d w t := fun h => .one (by omega) h
  have c3 : ∀ {w t}, Der 5 d w t → Der 3 d w t := fun h => .one (by omega) h
  have c2 : ∀ {w t}, Der 3 d w t → Der 2 d w t := fun h => .one (by omega) h
  rcases ho with (rfl | rfl | rfl | rfl | rfl | rfl | rfl | rfl) | rfl | rfl | rfl | rfl | rfl <;> first | exact c0 (c1 h) | exact c2 (c3 h) | exact c0 h | exact h | exact c2 h
theorem isT_kt {t : api_Tok} {k : Int} {s : Str} (h : kt t = (k, s)) (hk : k = 1 ∨ k = 3) : isT t s = true := by
  unfold kt at h
  simp only [Prod.mk.injEq] at h
  unfold isT
  rw [h.1, h.2]
  rcases hk with rfl | rfl <;> simp
theorem map_app {T1 T2 : List (Int × Str)} {ts : List api_Tok} (h : ts.map kt = T1 ++ T2) : ∃ a b, ts = a ++ b ∧ a.map kt = T1 ∧ b.map kt = T2 := by
  obtain ⟨a, b, e, h1, h2⟩ := List.map_eq_append_iff.1 h
  exact ⟨a, b, e, h1, h2⟩
theorem map_con {p : Int × Str} {T2 : List (Int × Str)} {ts : List api_Tok} (h : ts.map kt = p :: T2) : ∃ a b, ts = a :: b ∧ kt a = p ∧ b.map kt = T2 := by
  match ts, h with
  | [], h => cases h
  | a :: b, h =>
    simp only [List.map_cons, List.cons.injEq] at h
    exact ⟨a, b, rfl, h.1, h.2⟩
theorem wf_ok : ∀ {t : Tr}, t.wf → t.ok
  | .lf _, h => h
  | .nd _ _ _, ⟨h, hx, hy, _, _⟩ => ⟨h, wf_ok hx, wf_ok hy⟩
theorem ok_op : ∀ {t : Tr}, t.ok → LfOp t.op ∨ NdOp t.op
  | .lf _, h => .inl h
  | .nd _ _ _, h => .inr h.1
theorem sort_op : ∀ {t : Tr}, t.ok → t.sort = decide (t.op ≥ 6)
  | .lf op, h => rfl
  | .nd op x y, h => by
    have := h.1
    show decide (op ≥ 12) = decide (op ≥ 6)
    rcases this with rfl | rfl | rfl | rfl | rfl <;> rfl
/-- A part, in brackets where it is to be. -/
theorem wi_der {op : Int} {least : Int} {x : Tr} {k : Nat} (hx : x.wf) (hop : op = 3 ∨ op = 4 ∨ op = 12 ∨ op = 13) (hs : x.sort = decide (op ≥ 6)) (ih : ∀ ts : List api_Tok, ts.map kt = tk x → Der (lv x.op) (tx x).2.toNat ts x)
    (hk : k = lv op ∧ least = bd op ∨ k = sub (lv op) ∧ least = bd op + 1) (ts : List api_Tok) (h : ts.map kt = wiT op (bd x.op) least (tk x)) : Der k (wi op (bd x.op) least (tx x)).2.toNat ts x := by
  have hd := (tx_len x).2.1
  have hso := sort_op (wf_ok hx)
  have hox := ok_op (wf_ok hx)
  unfold wiT at h
  unfold wi
  by_cases hb : bd x.op ≥ least
  · rw [if_pos hb] at h ⊢
    have hu := up (op := x.op) (op' := op) hox hop (by rw [← hso, hs]) (ih ts h)
    rcases hk with ⟨rfl, rfl⟩ | ⟨rfl, rfl⟩
    · exact hu.1 hb
    · exact hu.2 hb
  · rw [if_neg hb] at h ⊢
    have e : ((tx x).2 + 1).toNat = (tx x).2.toNat + 1 := by omega
    show Der k ((tx x).2 + 1).toNat ts x
    rw [e]
    have ht := fun ts h => top_der hox (ih ts h)
    rw [← hso, hs] at ht
    have c1 : ∀ {d w t}, Der 4 d w t → Der 1 d w t := fun h => .one (by omega) h
    have c0 : ∀ {d w t}, Der 1 d w t → Der 0 d w t := fun h => .one (by omega) h
    have c3 : ∀ {d w t}, Der 5 d w t → Der 3 d w t := fun h => .one (by omega) h
    have c2 : ∀ {d w t}, Der 3 d w t → Der 2 d w t := fun h => .one (by omega) h
    cases hl : lab op with
    | true =>
      rw [hl, if_pos rfl] at h
      have hop' : op = 12 ∨ op = 13 := of_decide_eq_true hl
      obtain ⟨a, r, rfl, ha, h⟩ := map_con h
      obtain ⟨w, r2, rfl, hw, h⟩ := map_app h
      obtain ⟨b, r3, rfl, hb', h⟩ := map_con h
      obtain rfl : r3 = [] := by simpa using h
      have hi := ht w hw
      have hi : Der 2 (tx x).2.toNat w x := by rcases hop' with rfl | rfl <;> exact hi
      have hp := Der.parL (isT_kt ha (by simp)) hi (isT_kt hb' (by simp))
      rcases hop' with rfl | rfl <;> rcases hk with ⟨rfl, _⟩ | ⟨rfl, _⟩
      · exact c2 (c3 hp)
      · exact c3 hp
      · exact c3 hp
      · exact hp
    | false =>
      rw [hl, if_neg (by simp)] at h
      have hop' : op = 3 ∨ op = 4 := by
        have := of_decide_eq_false hl
        rcases hop with q | q | q | q
        · exact .inl q
        · exact .inr q
        · exact absurd (.inl q) this
        · exact absurd (.inr q) this
      obtain ⟨a, r, rfl, ha, h⟩ := map_con h
      obtain ⟨w, r2, rfl, hw, h⟩ := map_app h
      obtain ⟨b, r3, rfl, hb', h⟩ := map_con h
      obtain rfl : r3 = [] := by simpa using h
      have hi := ht w hw
      have hi : Der 0 (tx x).2.toNat w x := by rcases hop' with rfl | rfl <;> exact hi
      have hp := Der.parC (isT_kt ha (by simp)) hi (isT_kt hb' (by simp))
      rcases hop' with rfl | rfl <;> rcases hk with ⟨rfl, _⟩ | ⟨rfl, _⟩
      · exact c1 hp
      · exact hp
      · exact c0 (c1 hp)
      · exact c1 hp
theorem tk_der : ∀ {t : Tr}, t.wf → ∀ ts : List api_Tok, ts.map kt = tk t → Der (lv t.op) (tx t).2.toNat ts t
  | .lf op, ho, ts, h => by
    obtain ⟨a, r, rfl, ha, h⟩ := map_con h
    obtain rfl : r = [] := by simpa using h
    have hk : a.Kind = 1 := congrArg Prod.fst ha
    have ht : a.Text = wd op := congrArg Prod.snd ha
    rcases ho with rfl | rfl | rfl | rfl | rfl | rfl | rfl | rfl
    · exact .tru (isT_kt ha (by simp))
    · exact .fls (isT_kt ha (by simp))
    all_goals exact .leaf hk (by rw [ht]; decide)
  | .nd op x y, ⟨ho, hx, hy, sx, sy⟩, ts, h => by
    have ihx := tk_der hx
    have ihy := tk_der hy
    have dx := (tx_len x).2.1
    have dy := (tx_len y).2.1
    unfold tk at h
    obtain ⟨w1, r, rfl, hw1, h⟩ := map_app h
    obtain ⟨m, w2, rfl, hm, hw2⟩ := map_con h
    by_cases h5 : op = 5
    · subst h5
      rw [if_pos rfl] at hw1 hw2
      have e : (tx (.nd 5 x y)).2 = if (tx x).2 < (tx y).2 then (tx y).2 else (tx x).2 := rfl
      have hxs := sort_op (wf_ok hx)
      have hys := sort_op (wf_ok hy)
      have tx' := top_der (ok_op (wf_ok hx)) (ihx w1 hw1)
      have ty' := top_der (ok_op (wf_ok hy)) (ihy w2 hw2)
      rw [← hxs, sx] at tx'
      rw [← hys, sy] at ty'
      have mx : (tx x).2.toNat ≤ (tx (.nd 5 x y)).2.toNat := by rw [e]; split <;> omega
      have my : (tx y).2.toNat ≤ (tx (.nd 5 x y)).2.toNat := by rw [e]; split <;> omega
      exact .flows (der_mono tx' mx) (isT_kt hm (.inr rfl)) (der_mono ty' my)
    · rw [if_neg h5] at hw1 hw2
      have hop : op = 3 ∨ op = 4 ∨ op = 12 ∨ op = 13 := by
        rcases ho with rfl | rfl | rfl | rfl | rfl <;> simp at h5 ⊢
      have hs6 : decide (op ≥ 5) = decide (op ≥ 6) := by rcases hop with rfl | rfl | rfl | rfl <;> rfl
      rw [hs6] at sx sy
      have e : (tx (.nd op x y)).2 = if (wi op (bd x.op) (bd op) (tx x)).2 < (wi op (bd y.op) (bd op + 1) (tx y)).2 then (wi op (bd y.op) (bd op + 1) (tx y)).2 else (wi op (bd x.op) (bd op) (tx x)).2 := by
        show (if (if op = 5 then tx x else wi op (bd x.op) (bd op) (tx x)).2 < (if op = 5 then tx y else wi op (bd y.op) (bd op + 1) (tx y)).2 then (if op = 5 then tx y else wi op (bd y.op) (bd op + 1) (tx y)).2 else (if op = 5 then tx x else wi op (bd x.op) (bd op) (tx x)).2) = _
        rw [if_neg h5, if_neg h5]
      have qx := wi_der hx hop sx ihx (.inl ⟨rfl, rfl⟩) w1 hw1
      have qy := wi_der hy hop sy ihy (.inr ⟨rfl, rfl⟩) w2 hw2
      have mx : (wi op (bd x.op) (bd op) (tx x)).2.toNat ≤ (tx (.nd op x y)).2.toNat := by rw [e]; split <;> omega
      have my : (wi op (bd y.op) (bd op + 1) (tx y)).2.toNat ≤ (tx (.nd op x y)).2.toNat := by rw [e]; split <;> omega
      have hkd : kd op = 1 := by unfold kd; rw [if_neg h5]
      rw [hkd] at hm
      have hm' : isT m (wd op) = true := isT_kt hm (.inl rfl)
      have hr := fun hlt hmm => Der.more (k := lv op) (m := m) hlt (der_mono qx mx) hmm (der_mono qy my)
      rcases hop with rfl | rfl | rfl | rfl
      · exact hr (by decide) hm'
      · exact hr (by decide) hm'
      · exact hr (by decide) hm'
      · exact hr (by decide) hm'
end Go.Proofs.Ytjkijjhjffodcaa.Par
