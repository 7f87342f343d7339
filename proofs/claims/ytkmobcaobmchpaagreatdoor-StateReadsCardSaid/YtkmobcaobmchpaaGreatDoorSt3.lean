import Derived.Test.YtkmobcaobmchpaaGreatDoorSt2
set_option linter.unusedVariables false
set_option linter.unusedSimpArgs false
set_option linter.unusedSectionVars false
namespace Go.Proofs.YtkmobcaobmchpaaGreatDoor.St
open Go Go.Proofs.YtkmobcaobmchpaaGreatDoor.Ab Go.Proofs.YtkmobcaobmchpaaGreatDoor.SR
def labB (n : Int) (a : Int) : Bool := decide (a ≥ 0 ∧ a < n)
def valB (v : Int) : Bool := decide (v ≥ -20 ∧ v ≤ 20)
def plaB (v : Int) : Bool := decide (v ≥ 0 ∧ v ≤ 12)
def okA (n : Int) (a : api_Atom) : Bool := valB a.V && labB n a.L
def okS (n : Int) (x : api_Slot) : Bool := labB n x.L && (if x.Ret = true then plaB x.V else valB x.V)
def rightS (n : Int) (s : api_State) : Bool := rightB n s.Code && plaB s.Pc.V && labB n s.Pc.L && (decide (s.Mem.length ≤ 6) && decide (s.Stack.length ≤ 12) && decide (s.Out.length ≤ 8)) && s.Mem.all (okA n) && s.Stack.all (okS n) && s.Out.all (okA n)
theorem if_two {a b : Prop} [Decidable a] [Decidable b] : ((if a then (some (decide b)) else (some false) : Option Bool)) = some (decide (a ∧ b)) := by by_cases h : a <;> simp [h]
theorem value_p (v : Int) : state_value.f v = some (valB v) := by
  unfold state_value.f valB
  rw [if_two]; rfl
theorem place_p (v : Int) : state_place.f v = some (plaB v) := by
  unfold state_place.f plaB
  rw [if_two]; rfl
theorem label_p (l : api_Lattice) (a : Int) : state_Right_1.f a l = some (labB (l.Up.length : Int) a) := by
  unfold state_Right_1.f labB
  rw [if_two]; rfl
theorem label_r (l : api_Lattice) (a : Int) : reticentref09_label.f l a = some (labB (l.Up.length : Int) a) := by
  unfold reticentref09_label.f labB
  rw [if_two]; rfl
theorem odd_p (l : api_Lattice) (a : api_Atom) : state_Right_2.f a (some (fun z0 => state_Right_1.f z0 l)) = some (!okA (l.Up.length : Int) a) := by
  unfold state_Right_2.f okA
  rw [value_p, bsome]
  cases valB a.V with
  | false => rfl
  | true =>
    rw [if_neg (by decide), bsome]
    show ((state_Right_1.f a.L l >>= _) >>= _) = _
    rw [label_p, bsome, bsome]; rfl
theorem strange_p (l : api_Lattice) (x : api_Slot) : state_Right_3.f x (some (fun z0 => state_Right_1.f z0 l)) = some (!okS (l.Up.length : Int) x) := by
  unfold state_Right_3.f okS
  rw [bsome]
  show ((state_Right_1.f x.L l >>= _) >>= _) = _
  rw [label_p, bsome, value_p, place_p, bsome, bsome]
  cases labB (l.Up.length : Int) x.L <;> cases x.Ret <;> cases valB x.V <;> cases plaB x.V <;> rfl
theorem idxA {xs : List api_Atom} {p : api_Atom → Option Bool} {q : api_Atom → Bool} (hp : ∀ x, p x = some (!q x)) (hl : xs.length ≤ 1000) : ∀ (d k : Nat), xs.length = k + d → ∃ r : Int ⊕ Unit, slices_IndexFunc_api_Atom_api_Atom.l0 xs p (k : Int) = some r ∧ (match r with | .inl j => 0 ≤ j ∧ (xs.drop k).all q = false | .inr () => (xs.drop k).all q = true)
  | 0, k, e => by rw [slices_IndexFunc_api_Atom_api_Atom.l0, if_neg (by omega), List.drop_of_length_le (by omega)]; exact ⟨_, rfl, rfl⟩
  | d + 1, k, e => by
    have hk : k < xs.length := by omega
    obtain ⟨r, h1, h2⟩ := idxA hp hl d (k + 1) (by omega)
    rw [slices_IndexFunc_api_Atom_api_Atom.l0, if_pos (by omega), lAt_some hk, bsome, hp, bsome, wS (by omega), h1, List.drop_eq_getElem_cons hk, List.all_cons]
    cases q xs[k] with
    | true => rw [if_neg (by decide), Bool.true_and]; exact ⟨r, rfl, h2⟩
    | false => rw [if_pos (by decide), Bool.false_and]; exact ⟨.inl (k : Int), rfl, by omega, rfl⟩
theorem conA {xs : List api_Atom} {p : api_Atom → Option Bool} {q : api_Atom → Bool} (hp : ∀ x, p x = some (!q x)) (hl : xs.length ≤ 1000) : slices_ContainsFunc_api_Atom_api_Atom.f xs p = some (!xs.all q) := by
  unfold slices_ContainsFunc_api_Atom_api_Atom.f slices_IndexFunc_api_Atom_api_Atom.f
  obtain ⟨r, h1, h2⟩ := idxA hp hl xs.length 0 (by omega)
  rw [show ((0 : Nat) : Int) = 0 from rfl] at h1
  rw [h1, bsome]
  rw [List.drop_zero] at h2
  rcases r with j | u
  · obtain ⟨h3, h4⟩ := h2
    show some (decide (j ≥ 0)) = _
    rw [h4, decide_eq_true h3]; rfl
  · have h2 : xs.all q = true := h2
    rw [h2]; rfl
theorem idxS {xs : List api_Slot} {p : api_Slot → Option Bool} {q : api_Slot → Bool} (hp : ∀ x, p x = some (!q x)) (hl : xs.length ≤ 1000) : ∀ (d k : Nat), xs.length = k + d → ∃ r : Int ⊕ Unit, slices_IndexFunc_api_Slot_api_Slot.l0 xs p (k : Int) = some r ∧ (match r with | .inl j => 0 ≤ j ∧ (xs.drop k).all q = false | .inr () => (xs.drop k).all q = true)
  | 0, k, e => by rw [slices_IndexFunc_api_Slot_api_Slot.l0, if_neg (by omega), List.drop_of_length_le (by omega)]; exact ⟨_, rfl, rfl⟩
  | d + 1, k, e => by
    have hk : k < xs.length := by omega
    obtain ⟨r, h1, h2⟩ := idxS hp hl d (k + 1) (by omega)
    rw [slices_IndexFunc_api_Slot_api_Slot.l0, if_pos (by omega), lAt_some hk, bsome, hp, bsome, wS (by omega), h1, List.drop_eq_getElem_cons hk, List.all_cons]
    cases q xs[k] with
    | true => rw [if_neg (by decide), Bool.true_and]; exact ⟨r, rfl, h2⟩
    | false => rw [if_pos (by decide), Bool.false_and]; exact ⟨.inl (k : Int), rfl, by omega, rfl⟩
theorem conS {xs : List api_Slot} {p : api_Slot → Option Bool} {q : api_Slot → Bool} (hp : ∀ x, p x = some (!q x)) (hl : xs.length ≤ 1000) : slices_ContainsFunc_api_Slot_api_Slot.f xs p = some (!xs.all q) := by
  unfold slices_ContainsFunc_api_Slot_api_Slot.f slices_IndexFunc_api_Slot_api_Slot.f
  obtain ⟨r, h1, h2⟩ := idxS hp hl xs.length 0 (by omega)
  rw [show ((0 : Nat) : Int) = 0 from rfl] at h1
  rw [h1, bsome]
  rw [List.drop_zero] at h2
  rcases r with j | u
  · obtain ⟨h3, h4⟩ := h2
    show some (decide (j ≥ 0)) = _
    rw [h4, decide_eq_true h3]; rfl
  · have h2 : xs.all q = true := h2
    rw [h2]; rfl
structure Sz (s : api_State) : Prop where
  code : s.Code.length ≤ 1000
  mem : s.Mem.length ≤ 1000
  stack : s.Stack.length ≤ 1000
  out : s.Out.length ≤ 1000
theorem le_int {a b : Nat} : (decide ((a : Int) ≤ (b : Int))) = decide (a ≤ b) := decide_eq_decide.2 (by omega)
theorem right_s {l : api_Lattice} {U : List Nat} (h : Nm l U) (hc : chk l U = 0) {s : api_State} (z : Sz s) : state_Right.f l s = some (rightS (l.Up.length : Int) s) := by
  unfold state_Right.f rightS
  rw [pright_eq h z.code, decide_eq_true hc, Bool.true_and, place_p, conA (odd_p l) z.mem, conA (odd_p l) z.out, conS (strange_p l) z.stack]
  have hz : ((if (s.Mem.length : Int) ≤ 6 then (if (s.Stack.length : Int) ≤ 12 then (some (decide ((s.Out.length : Int) ≤ 8))) else (some false)) else (some false) : Option Bool)) = some (decide (s.Mem.length ≤ 6) && decide (s.Stack.length ≤ 12) && decide (s.Out.length ≤ 8)) := by
    by_cases h1 : s.Mem.length ≤ 6
    · rw [if_pos (by omega), decide_eq_true h1]
      by_cases h2 : s.Stack.length ≤ 12
      · rw [if_pos (by omega), decide_eq_true h2]
        show some (decide ((s.Out.length : Int) ≤ ((8 : Nat) : Int))) = _
        rw [le_int]; rfl
      · rw [if_neg (by omega), decide_eq_false h2]; rfl
    · rw [if_neg (by omega), decide_eq_false h1]; rfl
  rw [hz, bsome, bsome]
  generalize (decide (s.Mem.length ≤ 6) && decide (s.Stack.length ≤ 12) && decide (s.Out.length ≤ 8)) = Z
  generalize s.Mem.all (okA (l.Up.length : Int)) = M
  generalize s.Stack.all (okS (l.Up.length : Int)) = S
  generalize s.Out.all (okA (l.Up.length : Int)) = O
  generalize rightB (l.Up.length : Int) s.Code = C
  generalize plaB s.Pc.V = P
  cases C with
  | false => rfl
  | true =>
    rw [if_pos rfl, bsome]
    cases P with
    | false => rfl
    | true =>
      rw [if_pos rfl, bsome]
      show ((state_Right_1.f s.Pc.L l >>= _) >>= _) = _
      rw [label_p, bsome]
      cases labB (l.Up.length : Int) s.Pc.L <;> cases Z <;> cases M <;> cases S <;> cases O <;> rfl
theorem atoms_l0 {l : api_Lattice} {xs : List api_Atom} (hl : xs.length ≤ 1000) : ∀ (d k : Nat), xs.length = k + d → reticentref09_Atoms.l0 l xs (k : Int) = some (if (xs.drop k).all (okA (l.Up.length : Int)) = true then .inr () else .inl false)
  | 0, k, e => by rw [reticentref09_Atoms.l0, if_neg (by omega), List.drop_of_length_le (by omega)]; rfl
  | d + 1, k, e => by
    have hk : k < xs.length := by omega
    have key : ((if xs[k].V < (-20) then (some true) else (if xs[k].V > 20 then (some true) else (reticentref09_label.f l xs[k].L >>= fun y30 => some (!y30))) : Option Bool)) = some (!okA (l.Up.length : Int) xs[k]) := by
      rw [label_r, bsome]
      unfold okA valB
      by_cases h1 : xs[k].V < -20
      · rw [if_pos h1, decide_eq_false (by omega)]; rfl
      · by_cases h2 : xs[k].V > 20
        · rw [if_neg h1, if_pos h2, decide_eq_false (by omega)]; rfl
        · rw [if_neg h1, if_neg h2, decide_eq_true (by omega)]; rfl
    rw [reticentref09_Atoms.l0, if_pos (by omega), lAt_some hk, bsome, key, bsome, wS (by omega), atoms_l0 hl d (k + 1) (by omega), List.drop_eq_getElem_cons hk, List.all_cons]
    cases okA (l.Up.length : Int) xs[k] <;> simp
theorem atoms_r {l : api_Lattice} {xs : List api_Atom} (hl : xs.length ≤ 1000) : reticentref09_Atoms.f l xs = some (xs.all (okA (l.Up.length : Int))) := by
  unfold reticentref09_Atoms.f
  have := atoms_l0 (l := l) hl xs.length 0 (by omega)
  rw [show ((0 : Nat) : Int) = 0 from rfl, List.drop_zero] at this
  rw [this, bsome]
  cases xs.all (okA (l.Up.length : Int)) <;> rfl
theorem stack_l0 {l : api_Lattice} {xs : List api_Slot} (hl : xs.length ≤ 1000) : ∀ (d k : Nat), xs.length = k + d → reticentref09_Stack.l0 l xs (k : Int) = some (if (xs.drop k).all (okS (l.Up.length : Int)) = true then .inr () else .inl false)
  | 0, k, e => by rw [reticentref09_Stack.l0, if_neg (by omega), List.drop_of_length_le (by omega)]; rfl
  | d + 1, k, e => by
    have hk : k < xs.length := by omega
    have key : ((if xs[k].V < (-20) then (some true) else (if xs[k].V > 20 then (some true) else (reticentref09_label.f l xs[k].L >>= fun y45 => if (!y45) = true then (some true) else (if xs[k].Ret = true then (if xs[k].V < 0 then (some true) else (some (decide (xs[k].V > 12)))) else (some false)))) : Option Bool)) = some (!okS (l.Up.length : Int) xs[k]) := by
      rw [label_r, bsome]
      unfold okS valB plaB
      by_cases h1 : xs[k].V < -20
      · rw [if_pos h1, decide_eq_false (show ¬ (xs[k].V ≥ 0 ∧ xs[k].V ≤ 12) by omega), decide_eq_false (show ¬ (xs[k].V ≥ -20 ∧ xs[k].V ≤ 20) by omega)]
        cases labB (l.Up.length : Int) xs[k].L <;> cases xs[k].Ret <;> rfl
      · by_cases h2 : xs[k].V > 20
        · rw [if_neg h1, if_pos h2, decide_eq_false (show ¬ (xs[k].V ≥ 0 ∧ xs[k].V ≤ 12) by omega), decide_eq_false (show ¬ (xs[k].V ≥ -20 ∧ xs[k].V ≤ 20) by omega)]
          cases labB (l.Up.length : Int) xs[k].L <;> cases xs[k].Ret <;> rfl
        · rw [if_neg h1, if_neg h2, decide_eq_true (show (xs[k].V ≥ -20 ∧ xs[k].V ≤ 20) by omega)]
          by_cases h3 : xs[k].V < 0
          · rw [if_pos h3, decide_eq_false (show ¬ (xs[k].V ≥ 0 ∧ xs[k].V ≤ 12) by omega)]
            cases labB (l.Up.length : Int) xs[k].L <;> cases xs[k].Ret <;> rfl
          · by_cases h4 : xs[k].V > 12
            · rw [if_neg h3, decide_eq_true h4, decide_eq_false (show ¬ (xs[k].V ≥ 0 ∧ xs[k].V ≤ 12) by omega)]
              cases labB (l.Up.length : Int) xs[k].L <;> cases xs[k].Ret <;> rfl
            · rw [if_neg h3, decide_eq_false h4, decide_eq_true (show (xs[k].V ≥ 0 ∧ xs[k].V ≤ 12) by omega)]
              cases labB (l.Up.length : Int) xs[k].L <;> cases xs[k].Ret <;> rfl
    rw [reticentref09_Stack.l0, if_pos (by omega), lAt_some hk, bsome, key, bsome, wS (by omega), stack_l0 hl d (k + 1) (by omega), List.drop_eq_getElem_cons hk, List.all_cons]
    cases okS (l.Up.length : Int) xs[k] <;> simp
theorem stack_r {l : api_Lattice} {xs : List api_Slot} (hl : xs.length ≤ 1000) : reticentref09_Stack.f l xs = some (xs.all (okS (l.Up.length : Int)) && decide (xs.length ≤ 12)) := by
  unfold reticentref09_Stack.f
  have := stack_l0 (l := l) hl xs.length 0 (by omega)
  rw [show ((0 : Nat) : Int) = 0 from rfl, List.drop_zero] at this
  rw [this, bsome]
  cases xs.all (okS (l.Up.length : Int)) with
  | true =>
    show some (decide ((xs.length : Int) ≤ ((12 : Nat) : Int))) = _
    rw [le_int]; rfl
  | false => rfl
theorem right_rs {l : api_Lattice} {s : api_State} (z : Sz s) : reticentref09_Right.f l s = some (rightS (l.Up.length : Int) s) := by
  unfold reticentref09_Right.f rightS
  rw [rright_eq z.code, label_r, atoms_r z.mem, atoms_r z.out, stack_r z.stack, bsome, bsome, bsome]
  have hp : ((if s.Pc.V < 0 then (some true) else (if s.Pc.V > 12 then (some true) else (some (!labB (l.Up.length : Int) s.Pc.L))) : Option Bool)) = some (!(plaB s.Pc.V && labB (l.Up.length : Int) s.Pc.L)) := by
    unfold plaB
    by_cases h1 : s.Pc.V < 0
    · rw [if_pos h1, decide_eq_false (by omega)]; rfl
    · by_cases h2 : s.Pc.V > 12
      · rw [if_neg h1, if_pos h2, decide_eq_false (by omega)]; rfl
      · rw [if_neg h1, if_neg h2, decide_eq_true (by omega)]; rfl
  rw [bsome, hp, bsome]
  have h6 : ((s.Mem.length : Int) ≤ 6) ↔ s.Mem.length ≤ 6 := by omega
  have h8 : (decide ((s.Out.length : Int) ≤ 8)) = decide (s.Out.length ≤ 8) := decide_eq_decide.2 (by omega)
  rw [h8]
  by_cases q : s.Mem.length ≤ 6
  · rw [if_pos (h6.2 q), decide_eq_true q]
    cases rightB (l.Up.length : Int) s.Code <;> cases plaB s.Pc.V <;> cases labB (l.Up.length : Int) s.Pc.L <;> cases s.Mem.all (okA (l.Up.length : Int)) <;> cases s.Stack.all (okS (l.Up.length : Int)) <;> cases s.Out.all (okA (l.Up.length : Int)) <;> cases decide (s.Stack.length ≤ 12) <;> cases decide (s.Out.length ≤ 8) <;> rfl
  · rw [if_neg (fun k => q (h6.1 k)), decide_eq_false q]
    cases rightB (l.Up.length : Int) s.Code <;> cases plaB s.Pc.V <;> cases labB (l.Up.length : Int) s.Pc.L <;> cases s.Mem.all (okA (l.Up.length : Int)) <;> rfl
section
variable {T : List api_Tok} (hT : Tk T) {l : api_Lattice} (hN : l.Names.length ≤ 1000) (hC : lattice_Check.f l = some 0)
include hT hN hC
theorem rowA {most : Nat} (hm : most ≤ 20) {i : Nat} (hi : i < T.length) (e : Int) (a : api_Atom) (word : Str) : ∃ (j : Nat) (e' : Int) (w : api_Atom) (out : List api_Atom) (out' : List api_Slot), state_row_api_Atom_atom.f ⟨l, T, (i : Int), e⟩ word (most : Int) = some (⟨l, T, (j : Int), e'⟩, out) ∧ reticentref09_row.f l T ⟨(i : Int), a, e⟩ word (most : Int) false = some ⟨⟨(j : Int), w, e'⟩, out'⟩ ∧ j < T.length ∧ out.length ≤ most ∧ out'.length ≤ most ∧ (e' = 0 → out = out'.map atS ∧ e = 0) := by
  have hl := hT.len
  unfold state_row_api_Atom_atom.f reticentref09_row.f
  rw [must_p hT hi, bsome, must_r hT hi, bsome]
  have hj := sM_lt hT hi (e := e) (k := 1) (s := word) (by decide)
  have hb : (sM T 1 word i e).2 = 0 → e = 0 := by
    intro q
    by_cases he : e = 0
    · exact he
    · rw [sM_bad he] at q; exact q
  generalize sM T 1 word i e = q at hj hb ⊢
  obtain ⟨k, f⟩ := q
  rw [is_p hT hj, bsome, here_r hT hj, bsome]
  cases hs : sB T k f 3 [59] with
  | true =>
    obtain ⟨hk, hf⟩ := sB_next hT hj (by decide) hs
    have hf : f = 0 := hf
    subst hf
    rw [if_pos tt, if_pos tt]
    refine ⟨k + 1, 0, a, [], [], ?_, ?_, hk, by simp, by simp, fun _ => ⟨rfl, hb rfl⟩⟩
    · show some ((⟨l, T, IntKind.i64.wrap ((k : Int) + 1), 0⟩ : state_reader), ([] : List api_Atom)) = _
      rw [wS (by omega)]
    · show some (⟨⟨IntKind.i64.wrap ((k : Int) + 1), a, 0⟩, []⟩ : reticentref09_S) = _
      rw [wS (by omega)]
  | false =>
    rw [if_neg ff, if_neg ff]
    obtain ⟨j, e', w, out, out', h1, h2, h3, h4, h5, h6⟩ := rowA_l0 hT hN hC hm most [] [] k f a (by simp) rfl hj (fun _ => rfl)
    refine ⟨j, e', w, out, out', ?_, ?_, h3, h4, h5, fun q => ⟨(h6 q).1, hb (h6 q).2⟩⟩
    · show (state_row_api_Atom_atom.l0 (most : Int) l.Names l.Up T (k : Int) f [] >>= _) = _
      rw [h1, bsome]
    · show (reticentref09_row.l0 l T (most : Int) false (k : Int) a.V a.L f [] >>= tailR) = _
      rw [h2]
theorem rowS {most : Nat} (hm : most ≤ 20) {i : Nat} (hi : i < T.length) (e : Int) (a : api_Atom) (word : Str) : ∃ (j : Nat) (e' : Int) (w : api_Atom) (out : List api_Slot) (out' : List api_Slot), state_row_api_Slot_slot.f ⟨l, T, (i : Int), e⟩ word (most : Int) = some (⟨l, T, (j : Int), e'⟩, out) ∧ reticentref09_row.f l T ⟨(i : Int), a, e⟩ word (most : Int) true = some ⟨⟨(j : Int), w, e'⟩, out'⟩ ∧ j < T.length ∧ out.length ≤ most ∧ out'.length ≤ most ∧ (e' = 0 → out = out' ∧ e = 0) := by
  have hl := hT.len
  unfold state_row_api_Slot_slot.f reticentref09_row.f
  rw [must_p hT hi, bsome, must_r hT hi, bsome]
  have hj := sM_lt hT hi (e := e) (k := 1) (s := word) (by decide)
  have hb : (sM T 1 word i e).2 = 0 → e = 0 := by
    intro q
    by_cases he : e = 0
    · exact he
    · rw [sM_bad he] at q; exact q
  generalize sM T 1 word i e = q at hj hb ⊢
  obtain ⟨k, f⟩ := q
  rw [is_p hT hj, bsome, here_r hT hj, bsome]
  cases hs : sB T k f 3 [59] with
  | true =>
    obtain ⟨hk, hf⟩ := sB_next hT hj (by decide) hs
    have hf : f = 0 := hf
    subst hf
    rw [if_pos tt, if_pos tt]
    refine ⟨k + 1, 0, a, [], [], ?_, ?_, hk, by simp, by simp, fun _ => ⟨rfl, hb rfl⟩⟩
    · show some ((⟨l, T, IntKind.i64.wrap ((k : Int) + 1), 0⟩ : state_reader), ([] : List api_Slot)) = _
      rw [wS (by omega)]
    · show some (⟨⟨IntKind.i64.wrap ((k : Int) + 1), a, 0⟩, []⟩ : reticentref09_S) = _
      rw [wS (by omega)]
  | false =>
    rw [if_neg ff, if_neg ff]
    obtain ⟨j, e', w, out, out', h1, h2, h3, h4, h5, h6⟩ := rowS_l0 hT hN hC hm most [] [] k f a (by simp) rfl hj (fun _ => rfl)
    refine ⟨j, e', w, out, out', ?_, ?_, h3, h4, h5, fun q => ⟨(h6 q).1, hb (h6 q).2⟩⟩
    · show (state_row_api_Slot_slot.l0 (most : Int) l.Names l.Up T (k : Int) f [] >>= _) = _
      rw [h1, bsome]
    · show (reticentref09_row.l0 l T (most : Int) true (k : Int) a.V a.L f [] >>= tailR) = _
      rw [h2]
end
end Go.Proofs.YtkmobcaobmchpaaGreatDoor.St
