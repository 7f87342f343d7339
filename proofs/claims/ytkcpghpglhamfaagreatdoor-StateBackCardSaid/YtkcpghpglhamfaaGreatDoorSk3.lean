/- States: what is read may be (the program alone): all of it. -/
import Derived.Test.YtkcpghpglhamfaaGreatDoorSk2
set_option linter.unusedVariables false
set_option linter.unusedSimpArgs false
set_option linter.unusedSectionVars false
namespace Go.Proofs.YtkcpghpglhamfaaGreatDoor.Sk
open Go Go.Proofs.YtkcpghpglhamfaaGreatDoor.Ab Go.Proofs.YtkcpghpglhamfaaGreatDoor.SK
def zs : api_State := ⟨⟨0, 0⟩, [], [], [], []⟩
theorem zs_sz : Sz zs := ⟨by simp [zs], by simp [zs], by simp [zs], by simp [zs]⟩
section
variable {T : List api_Tok} (hT : Tk T) {l : api_Lattice} (hN : l.Names.length ≤ 1000) (hC : lattice_Check.f l = some 0) {U : List Nat} (hU : Nm l U) (hc : chk l U = 0)
include hT hN hC hU hc
theorem code_t (hE : (T[T.length - 1]'(by have := hT.pos; omega)).Kind = 0) {i : Nat} (hi : i < T.length) : ∃ (out : List api_Instr) (j : Nat) (e : Int), code_From.f l T (i : Int) = some (out, (j : Int), e) ∧ j < T.length ∧ out.length ≤ 12 := by
  have hl := hT.len
  have hp := hT.pos
  obtain ⟨out, j, e, h1, h2, h3, h4⟩ := from_any hT hN hC 12 [] i rfl hi rfl
  refine ⟨out, j, e, ?_, h2, ?_⟩
  · unfold code_From.f
    rw [hC, bsome, if_pos rfl, if_neg (by omega), if_neg (by omega)]
    have hw : IntKind.i64.wrap ((T.length : Int) - 1) = ((T.length - 1 : Nat) : Int) := by rw [wrapZ (by omega) (by omega)]; omega
    rw [hw, lAt_some (by omega), bsome, hE, bsome, if_neg (by decide)]
    exact h1
  · by_cases he : e = 0
    · exact (h4 he).1
    · rw [h3 he]; simp
theorem rest_t {i j : Nat} (hi : i < T.length) (hj : j < T.length) (e : Int) (v : api_Atom) {code : List api_Instr} (hk : code.length ≤ 12) : ∃ (j' : Nat) (e' : Int) (s : api_State), j' < T.length ∧ Sz s ∧ (e' ≠ 0 → s = zs) ∧ (e' = 0 → rightS (l.Up.length : Int) s = true) ∧
    (state_row_api_Atom_atom.f ⟨l, T, (j : Int), e⟩ ([109, 101, 109] : Str) 6 >>= fun y15 => state_row_api_Slot_slot.f y15.1 ([115, 116, 97, 99, 107] : Str) 12 >>= fun y16 => state_row_api_Atom_atom.f y16.1 ([111, 117, 116] : Str) 8 >>= fun y17 => if y17.1.bad_ = 0 then (state_Right.f l (⟨v, code, y15.2, y16.2, y17.2⟩ : api_State) >>= fun y19 => if (!y19) = true then (some ((⟨⟨0, 0⟩, [], [], [], []⟩ : api_State), (i : Int), (1 : Int))) else (some ((⟨v, code, y15.2, y16.2, y17.2⟩ : api_State), y17.1.i_, (0 : Int)))) else (some ((⟨⟨0, 0⟩, [], [], [], []⟩ : api_State), y17.1.i_, y17.1.bad_))) = some (s, (j' : Int), e') := by
  obtain ⟨j1, e1, o1, a1, c1, d1⟩ := rowA_t hT hN hC (most := 6) (by decide) hj e ([109, 101, 109] : Str)
  obtain ⟨j2, e2, o2, a2, c2, d2⟩ := rowS_t hT hN hC (most := 12) (by decide) c1 e1 ([115, 116, 97, 99, 107] : Str)
  obtain ⟨j3, e3, o3, a3, c3, d3⟩ := rowA_t hT hN hC (most := 8) (by decide) c2 e2 ([111, 117, 116] : Str)
  rw [show (6 : Int) = ((6 : Nat) : Int) from rfl, show (12 : Int) = ((12 : Nat) : Int) from rfl, show (8 : Int) = ((8 : Nat) : Int) from rfl, a1, bsome]
  show ∃ (j' : Nat) (e' : Int) (s : api_State), j' < T.length ∧ Sz s ∧ (e' ≠ 0 → s = zs) ∧ (e' = 0 → rightS (l.Up.length : Int) s = true) ∧ (state_row_api_Slot_slot.f ⟨l, T, (j1 : Int), e1⟩ ([115, 116, 97, 99, 107] : Str) ((12 : Nat) : Int) >>= _) = _
  rw [a2, bsome]
  show ∃ (j' : Nat) (e' : Int) (s : api_State), j' < T.length ∧ Sz s ∧ (e' ≠ 0 → s = zs) ∧ (e' = 0 → rightS (l.Up.length : Int) s = true) ∧ (state_row_api_Atom_atom.f ⟨l, T, (j2 : Int), e2⟩ ([111, 117, 116] : Str) ((8 : Nat) : Int) >>= _) = _
  rw [a3, bsome]
  by_cases he : e3 = 0
  · rw [if_pos he]
    have z : Sz (⟨v, code, o1, o2, o3⟩ : api_State) := ⟨by show code.length ≤ 1000; omega, by show o1.length ≤ 1000; omega, by show o2.length ≤ 1000; omega, by show o3.length ≤ 1000; omega⟩
    show ∃ (j' : Nat) (e' : Int) (s : api_State), j' < T.length ∧ Sz s ∧ (e' ≠ 0 → s = zs) ∧ (e' = 0 → rightS (l.Up.length : Int) s = true) ∧ (state_Right.f l (⟨v, code, o1, o2, o3⟩ : api_State) >>= _) = _
    rw [right_s hU hc z, bsome]
    cases hr : rightS (l.Up.length : Int) (⟨v, code, o1, o2, o3⟩ : api_State) with
    | true => exact ⟨j3, 0, _, c3, z, fun h => absurd rfl h, fun _ => hr, rfl⟩
    | false => exact ⟨i, 1, zs, hi, zs_sz, fun _ => rfl, fun h => absurd h (by decide), rfl⟩
  · rw [if_neg he]
    exact ⟨j3, e3, _, c3, zs_sz, fun _ => rfl, fun h => absurd h he, rfl⟩
theorem from_t (hE : (T[T.length - 1]'(by have := hT.pos; omega)).Kind = 0) {i : Nat} (hi : i < T.length) : ∃ (j : Nat) (e : Int) (s : api_State), j < T.length ∧ Sz s ∧ (e ≠ 0 → s = zs) ∧ (e = 0 → rightS (l.Up.length : Int) s = true) ∧ state_From.f l T (i : Int) = some (s, (j : Int), e) := by
  have hl := hT.len
  have hp := hT.pos
  unfold state_From.f
  rw [hC, bsome, if_pos rfl, if_neg (by omega), if_neg (by omega)]
  have hw : IntKind.i64.wrap ((T.length : Int) - 1) = ((T.length - 1 : Nat) : Int) := by rw [wrapZ (by omega) (by omega)]; omega
  rw [hw, lAt_some (by omega), bsome, hE, bsome, if_neg (by decide), must_p hT hi, bsome]
  have h1 := sM_lt hT hi (e := 0) (k := 1) (s := [112, 99]) (by decide)
  generalize sM T 1 [112, 99] i 0 = q1 at h1 ⊢
  obtain ⟨k1, e1⟩ := q1
  obtain ⟨j2, e2, v, a2, c2, _⟩ := atom_t hT hN hC h1 e1
  show ∃ (j : Nat) (e : Int) (s : api_State), j < T.length ∧ Sz s ∧ (e ≠ 0 → s = zs) ∧ (e = 0 → rightS (l.Up.length : Int) s = true) ∧ (state_reader_atom.f ⟨l, T, (k1 : Int), e1⟩ >>= _) = _
  rw [a2, bsome]
  show ∃ (j : Nat) (e : Int) (s : api_State), j < T.length ∧ Sz s ∧ (e ≠ 0 → s = zs) ∧ (e = 0 → rightS (l.Up.length : Int) s = true) ∧ (state_reader_must.f ⟨l, T, (j2 : Int), e2⟩ 3 [59] >>= _) = _
  rw [must_p hT c2, bsome]
  have h3 := sM_lt hT c2 (e := e2) (k := 3) (s := [59]) (by decide)
  generalize sM T 3 [59] j2 e2 = q3 at h3 ⊢
  obtain ⟨k3, e3⟩ := q3
  unfold state_reader_program.f
  show ∃ (j : Nat) (e : Int) (s : api_State), j < T.length ∧ Sz s ∧ (e ≠ 0 → s = zs) ∧ (e = 0 → rightS (l.Up.length : Int) s = true) ∧ ((state_reader_must.f ⟨l, T, (k3 : Int), e3⟩ 1 [99, 111, 100, 101] >>= _) >>= _) = _
  rw [must_p hT h3, bsome]
  have h4 := sM_lt hT h3 (e := e3) (k := 1) (s := [99, 111, 100, 101]) (by decide)
  generalize sM T 1 [99, 111, 100, 101] k3 e3 = q4 at h4 ⊢
  obtain ⟨k4, e4⟩ := q4
  by_cases he : e4 = 0
  · have he' : e4 = 0 := he
    subst he'
    rw [if_pos rfl]
    obtain ⟨out, j5, e5, a5, c5, o5⟩ := code_t hT hN hC hU hc hE h4
    show ∃ (j : Nat) (e : Int) (s : api_State), j < T.length ∧ Sz s ∧ (e ≠ 0 → s = zs) ∧ (e = 0 → rightS (l.Up.length : Int) s = true) ∧ ((code_From.f l T (k4 : Int) >>= _) >>= _) = _
    rw [a5, bsome]
    obtain ⟨j6, e6, s6, c6, z6, m6, n6, a6⟩ := rest_t hT hN hC hU hc hi c5 e5 v o5
    refine ⟨j6, e6, s6, c6, z6, m6, n6, ?_⟩
    by_cases h5 : e5 = 0
    · rw [if_pos h5]
      subst h5
      exact a6
    · rw [if_neg h5]
      show ((state_reader_fail.f ⟨l, T, (j5 : Int), 0⟩ e5 >>= _) >>= _) = _
      rw [fail_s hT, bsome, if_pos rfl]
      exact a6
  · rw [if_neg he]
    obtain ⟨j6, e6, s6, c6, z6, m6, n6, a6⟩ := rest_t hT hN hC hU hc hi h4 e4 v (code := []) (by simp)
    exact ⟨j6, e6, s6, c6, z6, m6, n6, a6⟩
end
theorem parse_t {l : api_Lattice} {U : List Nat} (h : Nm l U) (s : Str) : ∃ (x : api_State) (a e : Int), state_Parse.f l s = some (x, a, e) ∧ Sz x ∧ (e ≠ 0 → x = zs) ∧ (e = 0 → chk l U = 0 ∧ rightS (l.Up.length : Int) x = true) := by
  unfold state_Parse.f
  rw [check_eq h, bsome]
  by_cases hc : chk l U = 0
  · rw [if_pos hc]
    obtain ⟨r, a, e, h1, h3⟩ := lex_end (s := s)
    rw [h1, bsome]
    by_cases he : e = 0
    · obtain ⟨L, rfl, hL⟩ := h3 he
      rw [if_pos he]
      have hT := tk_of (L := L) (a := (s.length : Int)) (by omega)
      obtain ⟨j, e2, x, hj, hz, m, n, q1⟩ := from_t hT (l := l) (by have := h.nl; omega) (by rw [check_eq h, hc]) h hc (by simp) (i := 0) hT.pos
      rw [show ((0 : Nat) : Int) = 0 from rfl] at q1
      rw [q1, bsome, lAt_some hj]
      by_cases he2 : e2 = 0
      · rw [if_pos he2, bsome, bsome]
        by_cases hk : (L ++ [(⟨0, [], (s.length : Int)⟩ : api_Tok)])[j].Kind = 0
        · rw [if_pos hk]; exact ⟨_, _, _, rfl, hz, fun h => absurd rfl h, fun _ => ⟨hc, n he2⟩⟩
        · rw [if_neg hk]; exact ⟨zs, _, 4, rfl, zs_sz, fun _ => rfl, fun h => absurd h (by decide)⟩
      · rw [if_neg he2, bsome]; exact ⟨_, _, _, rfl, zs_sz, fun _ => rfl, fun h => absurd h he2⟩
    · rw [if_neg he]; exact ⟨_, _, _, rfl, zs_sz, fun _ => rfl, fun h => absurd h he⟩
  · rw [if_neg hc]; exact ⟨_, _, _, rfl, zs_sz, fun _ => rfl, fun h => absurd h hc⟩
end Go.Proofs.YtkcpghpglhamfaaGreatDoor.Sk
