import Derived.Test.YtkmobcaobmchpaaGreatDoorSt3
set_option linter.unusedVariables false
set_option linter.unusedSimpArgs false
set_option linter.unusedSectionVars false
namespace Go.Proofs.YtkmobcaobmchpaaGreatDoor.St
open Go Go.Proofs.YtkmobcaobmchpaaGreatDoor.Ab Go.Proofs.YtkmobcaobmchpaaGreatDoor.SR
theorem atoms_map {L : List api_Slot} (hL : L.length ≤ 1000) : reticentref09_atoms.f L = some (L.map atS) := by
  unfold reticentref09_atoms.f
  have : ∀ (d k : Nat), L.length = k + d → reticentref09_atoms.l0 L ((L.take k).map atS) (k : Int) = some (L.map atS) := by
    intro d
    induction d with
    | zero => intro k h; rw [reticentref09_atoms.l0, if_neg (by omega), List.take_of_length_le (by omega)]
    | succ d ih =>
      intro k h
      have hk : k < L.length := by omega
      have hg : (((L.take k).map atS).length + ([(⟨L[k].V, L[k].L⟩ : api_Atom)] : List api_Atom).length) * 16 ≤ big := by
        simp only [List.length_map, List.length_take, List.length_cons, List.length_nil]; unfold big; omega
      rw [reticentref09_atoms.l0, if_pos (by omega), lAt_some hk, bsome, if_pos hg, wS (by omega)]
      have := ih (k + 1) (by omega)
      rw [List.take_succ_eq_append_getElem hk, List.map_append] at this
      exact this
  rw [show ([] : List api_Atom) = (L.take 0).map atS by simp, show (0 : Int) = ((0 : Nat) : Int) from rfl, this L.length 0 (by omega), bsome]
theorem sz0 : Sz ⟨⟨0, 0⟩, [], [], [], []⟩ := ⟨by simp, by simp, by simp, by simp⟩
section
variable {T : List api_Tok} (hT : Tk T) {l : api_Lattice} (hN : l.Names.length ≤ 1000) (hC : lattice_Check.f l = some 0) {U : List Nat} (hU : Nm l U) (hc : chk l U = 0)
include hT hN hC hU hc
theorem rest {i j : Nat} (hi : i < T.length) (hj : j < T.length) (e : Int) (a v w : api_Atom) (hv : e = 0 → w = v) {code : List api_Instr} (hk : code.length ≤ 12) : ∃ (j' : Nat) (e' : Int) (s : api_State), j' < T.length ∧ Sz s ∧
    (state_row_api_Atom_atom.f ⟨l, T, (j : Int), e⟩ ([109, 101, 109] : Str) 6 >>= fun y15 => state_row_api_Slot_slot.f y15.1 ([115, 116, 97, 99, 107] : Str) 12 >>= fun y16 => state_row_api_Atom_atom.f y16.1 ([111, 117, 116] : Str) 8 >>= fun y17 => if y17.1.bad_ = 0 then (state_Right.f l (⟨v, code, y15.2, y16.2, y17.2⟩ : api_State) >>= fun y19 => if (!y19) = true then (some ((⟨⟨0, 0⟩, [], [], [], []⟩ : api_State), (i : Int), (1 : Int))) else (some ((⟨v, code, y15.2, y16.2, y17.2⟩ : api_State), y17.1.i_, (0 : Int)))) else (some ((⟨⟨0, 0⟩, [], [], [], []⟩ : api_State), y17.1.i_, y17.1.bad_))) = some (s, (j' : Int), e') ∧
    (reticentref09_row.f l T (⟨(j : Int), a, e⟩ : reticentref09_P) ([109, 101, 109] : Str) 6 false >>= fun y7 => reticentref09_row.f l T y7.P ([115, 116, 97, 99, 107] : Str) 12 true >>= fun y8 => reticentref09_row.f l T y8.P ([111, 117, 116] : Str) 8 false >>= fun y9 => if y9.P.E = 0 then (reticentref09_atoms.f y7.L >>= fun y11 => reticentref09_atoms.f y9.L >>= fun y12 => reticentref09_Right.f l (⟨w, code, y11, y8.L, y12⟩ : api_State) >>= fun y13 => if (!y13) = true then (some (⟨⟨⟨0, 0⟩, [], [], [], []⟩, (i : Int), 1⟩ : reticentref09_R)) else (some (⟨⟨w, code, y11, y8.L, y12⟩, y9.P.I, 0⟩ : reticentref09_R))) else (some (⟨⟨⟨0, 0⟩, [], [], [], []⟩, y9.P.I, y9.P.E⟩ : reticentref09_R))) = some ⟨s, (j' : Int), e'⟩ := by
  obtain ⟨j1, e1, w1, o1, p1, a1, b1, c1, d1, f1, g1⟩ := rowA hT hN hC (most := 6) (by decide) hj e a ([109, 101, 109] : Str)
  obtain ⟨j2, e2, w2, o2, p2, a2, b2, c2, d2, f2, g2⟩ := rowS hT hN hC (most := 12) (by decide) c1 e1 w1 ([115, 116, 97, 99, 107] : Str)
  obtain ⟨j3, e3, w3, o3, p3, a3, b3, c3, d3, f3, g3⟩ := rowA hT hN hC (most := 8) (by decide) c2 e2 w2 ([111, 117, 116] : Str)
  rw [show (6 : Int) = ((6 : Nat) : Int) from rfl, show (12 : Int) = ((12 : Nat) : Int) from rfl, show (8 : Int) = ((8 : Nat) : Int) from rfl, a1, b1, bsome, bsome]
  show ∃ (j' : Nat) (e' : Int) (s : api_State), j' < T.length ∧ Sz s ∧ (state_row_api_Slot_slot.f ⟨l, T, (j1 : Int), e1⟩ ([115, 116, 97, 99, 107] : Str) ((12 : Nat) : Int) >>= _) = _ ∧ (reticentref09_row.f l T ⟨(j1 : Int), w1, e1⟩ ([115, 116, 97, 99, 107] : Str) ((12 : Nat) : Int) true >>= _) = _
  rw [a2, b2, bsome, bsome]
  show ∃ (j' : Nat) (e' : Int) (s : api_State), j' < T.length ∧ Sz s ∧ (state_row_api_Atom_atom.f ⟨l, T, (j2 : Int), e2⟩ ([111, 117, 116] : Str) ((8 : Nat) : Int) >>= _) = _ ∧ (reticentref09_row.f l T ⟨(j2 : Int), w2, e2⟩ ([111, 117, 116] : Str) ((8 : Nat) : Int) false >>= _) = _
  rw [a3, b3, bsome, bsome]
  by_cases he : e3 = 0
  · rw [if_pos he, if_pos he]
    obtain ⟨h3, he2⟩ := g3 he
    obtain ⟨h2, he1⟩ := g2 he2
    obtain ⟨h1, he0⟩ := g1 he1
    subst h3 h2 h1
    have hw := hv he0
    subst hw
    show ∃ (j' : Nat) (e' : Int) (s : api_State), j' < T.length ∧ Sz s ∧ (state_Right.f l (⟨w, code, p1.map atS, o2, p3.map atS⟩ : api_State) >>= _) = _ ∧ (reticentref09_atoms.f p1 >>= _) = _
    rw [atoms_map (show p1.length ≤ 1000 by omega), bsome]
    show ∃ (j' : Nat) (e' : Int) (s : api_State), j' < T.length ∧ Sz s ∧ (state_Right.f l (⟨w, code, p1.map atS, o2, p3.map atS⟩ : api_State) >>= _) = _ ∧ (reticentref09_atoms.f p3 >>= _) = _
    rw [atoms_map (show p3.length ≤ 1000 by omega), bsome]
    have z : Sz (⟨w, code, p1.map atS, o2, p3.map atS⟩ : api_State) := ⟨by show code.length ≤ 1000; omega, by show (p1.map atS).length ≤ 1000; rw [List.length_map]; omega, by show o2.length ≤ 1000; omega, by show (p3.map atS).length ≤ 1000; rw [List.length_map]; omega⟩
    rw [right_s hU hc z, right_rs z, bsome, bsome]
    cases rightS (l.Up.length : Int) (⟨w, code, p1.map atS, o2, p3.map atS⟩ : api_State) with
    | true => exact ⟨j3, 0, _, c3, z, rfl, rfl⟩
    | false => exact ⟨i, 1, _, hi, sz0, rfl, rfl⟩
  · rw [if_neg he, if_neg he]
    exact ⟨j3, e3, _, c3, sz0, rfl, rfl⟩
theorem from_s (hE : (T[T.length - 1]'(by have := hT.pos; omega)).Kind = 0) {i : Nat} (hi : i < T.length) : ∃ (j : Nat) (e : Int) (s : api_State), j < T.length ∧ Sz s ∧ state_From.f l T (i : Int) = some (s, (j : Int), e) ∧ reticentref09_From.f l T (i : Int) = some ⟨s, (j : Int), e⟩ := by
  have hl := hT.len
  have hp := hT.pos
  unfold state_From.f reticentref09_From.f
  rw [hC, bsome, if_pos rfl, if_neg (by omega), if_neg (by omega)]
  have hw : IntKind.i64.wrap ((T.length : Int) - 1) = ((T.length - 1 : Nat) : Int) := by rw [wrapZ (by omega) (by omega)]; omega
  rw [hw, lAt_some (by omega), bsome, hE, bsome, if_neg (by decide), must_p hT hi, bsome, must_r hT hi, bsome]
  have h1 := sM_lt hT hi (e := 0) (k := 1) (s := [112, 99]) (by decide)
  generalize sM T 1 [112, 99] i 0 = q1 at h1 ⊢
  obtain ⟨k1, e1⟩ := q1
  obtain ⟨j2, e2, v, w, a2, b2, c2, d2, f2⟩ := atom_b hT hN hC h1 e1
  show ∃ (j : Nat) (e : Int) (s : api_State), j < T.length ∧ Sz s ∧ (state_reader_atom.f ⟨l, T, (k1 : Int), e1⟩ >>= _) = _ ∧ (reticentref09_atom.f l T ⟨(k1 : Int), ⟨0, 0⟩, e1⟩ >>= _) = _
  rw [a2, bsome, b2, bsome]
  show ∃ (j : Nat) (e : Int) (s : api_State), j < T.length ∧ Sz s ∧ (state_reader_must.f ⟨l, T, (j2 : Int), e2⟩ 3 [59] >>= _) = _ ∧ (reticentref09_must.f T ⟨(j2 : Int), w, e2⟩ 3 [59] >>= _) = _
  rw [must_p hT c2, bsome, must_r hT c2, bsome]
  have h3 := sM_lt hT c2 (e := e2) (k := 3) (s := [59]) (by decide)
  have g3 : (sM T 3 [59] j2 e2).2 = 0 → e2 = 0 := by
    intro q
    by_cases he : e2 = 0
    · exact he
    · rw [sM_bad he] at q; exact q
  generalize sM T 3 [59] j2 e2 = q3 at h3 g3 ⊢
  obtain ⟨k3, e3⟩ := q3
  show ∃ (j : Nat) (e : Int) (s : api_State), j < T.length ∧ Sz s ∧ (state_reader_program.f ⟨l, T, (k3 : Int), e3⟩ >>= _) = _ ∧ (reticentref09_must.f T ⟨(k3 : Int), w, e3⟩ 1 [99, 111, 100, 101] >>= _) = _
  rw [must_r hT h3, bsome]
  unfold state_reader_program.f
  rw [must_p hT h3, bsome]
  have h4 := sM_lt hT h3 (e := e3) (k := 1) (s := [99, 111, 100, 101]) (by decide)
  have g4 : (sM T 1 [99, 111, 100, 101] k3 e3).2 = 0 → e3 = 0 := by
    intro q
    by_cases he : e3 = 0
    · exact he
    · rw [sM_bad he] at q; exact q
  generalize sM T 1 [99, 111, 100, 101] k3 e3 = q4 at h4 g4 ⊢
  obtain ⟨k4, e4⟩ := q4
  by_cases he : e4 = 0
  · have hwv : w = v := d2 (g3 (g4 he))
    rw [if_pos he, if_pos he]
    obtain ⟨out, j5, e5, c5, o5, n5, a5, b5⟩ := from_both hT hN hC hE h4
    show ∃ (j : Nat) (e : Int) (s : api_State), j < T.length ∧ Sz s ∧ ((code_From.f l T (k4 : Int) >>= _) >>= _) = _ ∧ (reticentref08_From.f l T (k4 : Int) >>= _) = _
    rw [a5, bsome, b5, bsome]
    obtain ⟨j6, e6, s6, c6, z6, a6, b6⟩ := rest hT hN hC hU hc hi c5 e5 w v w (fun _ => hwv) o5
    refine ⟨j6, e6, s6, c6, z6, ?_, b6⟩
    by_cases h5 : e5 = 0
    · rw [if_pos h5]
      subst h5
      have he' : e4 = 0 := he
      subst he'
      exact a6
    · rw [if_neg h5]
      have he' : e4 = 0 := he
      subst he'
      show ((state_reader_fail.f ⟨l, T, (j5 : Int), 0⟩ e5 >>= _) >>= _) = _
      rw [fail_s hT, bsome, if_pos rfl]
      exact a6
  · rw [if_neg he, if_neg he]
    obtain ⟨j6, e6, s6, c6, z6, a6, b6⟩ := rest hT hN hC hU hc hi h4 e4 w v w (fun q => absurd q he) (code := []) (by simp)
    exact ⟨j6, e6, s6, c6, z6, a6, b6⟩
end
theorem parse_s {l : api_Lattice} {U : List Nat} (h : Nm l U) (s : Str) : ∃ (x : api_State) (a e : Int), Sz x ∧ state_Parse.f l s = some (x, a, e) ∧ reticentref09_Parse.f l s = some ⟨x, a, e⟩ := by
  unfold state_Parse.f reticentref09_Parse.f
  rw [check_eq h, refCheck_eq h, bsome, bsome]
  by_cases hc : chk l U = 0
  · rw [if_pos hc, if_pos hc]
    obtain ⟨r, a, e, h1, h2, h3⟩ := lex_both (s := s)
    rw [h1, h2, bsome, bsome]
    by_cases he : e = 0
    · obtain ⟨L, rfl, hL⟩ := h3 he
      rw [if_pos he, if_pos he]
      have hT := tk_of (L := L) (a := (s.length : Int)) (by omega)
      obtain ⟨j, e2, x, hj, hz, q1, q2⟩ := from_s hT (l := l) (by have := h.nl; omega) (by rw [check_eq h, hc]) h hc (by simp) (i := 0) hT.pos
      rw [show ((0 : Nat) : Int) = 0 from rfl] at q1 q2
      rw [q1, q2, bsome, bsome, lAt_some hj]
      by_cases he2 : e2 = 0
      · rw [if_pos he2, bsome, bsome, bsome, if_pos he2, bsome]
        by_cases hk : (L ++ [(⟨0, [], (s.length : Int)⟩ : api_Tok)])[j].Kind = 0
        · rw [if_pos hk, if_pos hk]; exact ⟨_, _, _, hz, rfl, rfl⟩
        · rw [if_neg hk, if_neg hk]; exact ⟨_, _, _, sz0, rfl, rfl⟩
      · rw [if_neg he2, bsome, bsome, if_neg he2]; exact ⟨_, _, _, sz0, rfl, rfl⟩
    · rw [if_neg he, if_neg he]; exact ⟨_, _, _, sz0, rfl, rfl⟩
  · rw [if_neg hc, if_neg hc]; exact ⟨_, _, _, sz0, rfl, rfl⟩
theorem same_atoms {x : List api_Atom} (hx : x.length ≤ 1000) : reticentref09_AtomsSame.f x x = some true := by
  unfold reticentref09_AtomsSame.f
  have : ∀ (d k : Nat), x.length = k + d → reticentref09_AtomsSame.l0 x x (k : Int) = some (.inr ()) := by
    intro d
    induction d with
    | zero => intro k h; rw [reticentref09_AtomsSame.l0, if_neg (by omega)]
    | succ d ih => intro k h; rw [reticentref09_AtomsSame.l0, if_pos (by omega), lAt_some (by omega), bsome, bsome, if_pos rfl, wS (by omega)]; exact ih (k + 1) (by omega)
  rw [if_pos rfl, show reticentref09_AtomsSame.l0 x x 0 = _ from this x.length 0 (by omega)]; rfl
theorem same_state {x : api_State} (z : Sz x) : reticentref09_Same.f x x = some true := by
  unfold reticentref09_Same.f
  have : ∀ (d k : Nat), x.Stack.length = k + d → reticentref09_Same.l0 x x (k : Int) = some (.inr ()) := by
    have hx := z.stack
    intro d
    induction d with
    | zero => intro k h; rw [reticentref09_Same.l0, if_neg (by omega)]
    | succ d ih => intro k h; rw [reticentref09_Same.l0, if_pos (by omega), lAt_some (by omega), bsome, bsome, if_pos rfl, wS (by omega)]; exact ih (k + 1) (by omega)
  rw [if_pos rfl, same_self z.code, bsome, if_neg (by decide), same_atoms z.mem, bsome, if_neg (by decide), same_atoms z.out, bsome, if_neg (by decide), decide_eq_true rfl, bsome, if_neg (by decide), show reticentref09_Same.l0 x x 0 = _ from this x.Stack.length 0 (by omega)]; rfl
theorem alive09 : reticentlaw09_alive.f = some true := reticentlaw09_alive.f_le 60 _ (by kernel_rfl)
theorem reads {l : api_Lattice} {s : Str} (hl : ∃ H cs, (kR f_api_Lattice).reps H cs l) : reticentlaw09_StateReads.f l s = some true := by
  obtain ⟨l', U, e, h⟩ := few_eq hl
  unfold reticentlaw09_StateReads.f
  rw [e, bsome, show (2010 : Int) = ((2010 : Nat) : Int) from rfl, if_pos cutok]
  generalize sCut s 0 _ = t
  obtain ⟨x, a, e2, hz, q1, q2⟩ := parse_s h t
  rw [q1, q2, bsome, bsome, alive09, bsome, if_pos rfl, if_pos rfl, if_pos rfl, same_state hz]
  rfl
end Go.Proofs.YtkmobcaobmchpaaGreatDoor.St
