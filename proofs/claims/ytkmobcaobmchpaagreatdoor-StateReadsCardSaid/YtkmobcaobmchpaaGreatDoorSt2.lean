import Derived.Test.YtkmobcaobmchpaaGreatDoorSt1
set_option linter.unusedVariables false
set_option linter.unusedSimpArgs false
set_option linter.unusedSectionVars false
namespace Go.Proofs.YtkmobcaobmchpaaGreatDoor.St
open Go Go.Proofs.YtkmobcaobmchpaaGreatDoor.Ab Go.Proofs.YtkmobcaobmchpaaGreatDoor.SR
def atS (s : api_Slot) : api_Atom := ⟨s.V, s.L⟩
section
variable {T : List api_Tok} (hT : Tk T) {l : api_Lattice} (hN : l.Names.length ≤ 1000) (hC : lattice_Check.f l = some 0)
include hT
theorem int_bad {i : Nat} {e n : Int} {x : api_Instr} (he : e ≠ 0) : reticentref08_Int.f T ⟨(i : Int), n, x, e⟩ = some ⟨(i : Int), n, x, e⟩ := by
  unfold reticentref08_Int.f
  rw [if_neg he]
theorem label_bad {i : Nat} {e n : Int} {x : api_Instr} (he : e ≠ 0) : reticentref08_Label.f l T ⟨(i : Int), n, x, e⟩ = some ⟨(i : Int), n, x, e⟩ := by
  unfold reticentref08_Label.f reticentref08_Mark.f
  rw [if_neg he, bsome, if_neg he]
include hN hC
theorem atom_e {i : Nat} (hi : i < T.length) {e : Int} (he : e ≠ 0) : ∃ w, state_reader_atom.f ⟨l, T, (i : Int), e⟩ = some (⟨l, T, (i : Int), e⟩, ⟨0, 0⟩) ∧ ∀ a, reticentref09_atom.f l T ⟨(i : Int), a, e⟩ = some ⟨(i : Int), w, e⟩ := by
  obtain ⟨v, hv⟩ := num_e hT (l := l) hi he
  refine ⟨⟨0, 0⟩, ?_, fun a => ?_⟩
  · unfold state_reader_atom.f
    rw [hv, bsome]
    show (state_reader_must.f ⟨l, T, (i : Int), e⟩ 3 [64] >>= _) = _
    rw [must_p hT hi, bsome, sM_bad he, if_neg he, bsome, if_pos tt, fail_s hT, bsome, if_neg he]
  · unfold reticentref09_atom.f
    show (reticentref08_Int.f T ⟨(i : Int), 0, ⟨0, 0, 0⟩, e⟩ >>= _) = _
    rw [int_bad hT he, bsome, label_bad hT he, bsome]
theorem atom_0 {i : Nat} (hi : i < T.length) : ∃ (j : Nat) (e : Int) (v w : api_Atom), state_reader_atom.f ⟨l, T, (i : Int), 0⟩ = some (⟨l, T, (j : Int), e⟩, v) ∧ (∀ a, reticentref09_atom.f l T ⟨(i : Int), a, 0⟩ = some ⟨(j : Int), w, e⟩) ∧ j < T.length ∧ (e = 0 → w = v) := by
  have hl := hT.len
  obtain ⟨j, e, v, m, h1, h2, hj, hm⟩ := num_s hT (l := l) hi (n := 0) (x := ⟨0, 0, 0⟩)
  have hp : state_reader_atom.f ⟨l, T, (i : Int), 0⟩ = (state_reader_must.f ⟨l, T, (j : Int), e⟩ 3 [64] >>= fun y2 => ((if y2.bad_ = 0 then (lAt y2.toks_ y2.i_ >>= fun y7 => some (!decide (y7.Kind = 1))) else (some true) : Option Bool) >>= fun x5 => if x5 = true then (state_reader_fail.f y2 4 >>= fun y9 => some (y9, (⟨0, 0⟩ : api_Atom))) else (lAt y2.toks_ y2.i_ >>= fun y10 => order_Find.f y2.l_ y10.Text >>= fun y11 => if y11.2 = 0 then (some ((⟨y2.l_, y2.toks_, IntKind.i64.wrap (y2.i_ + 1), y2.bad_⟩ : state_reader), (⟨v, y11.1⟩ : api_Atom))) else (state_reader_fail.f y2 6 >>= fun y13 => some (y13, (⟨0, 0⟩ : api_Atom)))))) := by
    unfold state_reader_atom.f
    rw [h1, bsome]
  have hr : ∀ a, reticentref09_atom.f l T ⟨(i : Int), a, 0⟩ = (reticentref08_Label.f l T ⟨(j : Int), m, ⟨0, 0, 0⟩, e⟩ >>= fun y2 => some (⟨y2.I, ⟨m, y2.N⟩, y2.E⟩ : reticentref09_P)) := by
    intro a
    unfold reticentref09_atom.f
    show (reticentref08_Int.f T ⟨(i : Int), 0, ⟨0, 0, 0⟩, 0⟩ >>= _) = _
    rw [h2, bsome]
  have hj2 := sM_lt hT hj (e := e) (k := 3) (s := [64]) (by decide)
  have hlab : reticentref08_Label.f l T ⟨(j : Int), m, ⟨0, 0, 0⟩, e⟩ = (if (sM T 3 [64] j e).2 = 0 then (lAt T ((sM T 3 [64] j e).1 : Int) >>= fun y3 => if y3.Kind = 1 then (lAt T ((sM T 3 [64] j e).1 : Int) >>= fun y5 => reticentref02_Find.f l y5.Text >>= fun y6 => if y6 < 0 then (some (⟨((sM T 3 [64] j e).1 : Int), y6, ⟨0, 0, 0⟩, 6⟩ : reticentref08_P)) else (some (⟨IntKind.i64.wrap (((sM T 3 [64] j e).1 : Int) + 1), y6, ⟨0, 0, 0⟩, (sM T 3 [64] j e).2⟩ : reticentref08_P))) else (some (⟨((sM T 3 [64] j e).1 : Int), m, ⟨0, 0, 0⟩, 4⟩ : reticentref08_P))) else (some ⟨((sM T 3 [64] j e).1 : Int), m, ⟨0, 0, 0⟩, (sM T 3 [64] j e).2⟩)) := by
    unfold reticentref08_Label.f
    rw [mark_r hT hj, bsome, ← sM_mk]
  rw [hp, must_p hT hj, bsome]
  generalize hq : sM T 3 [64] j e = q at hj2 hlab ⊢
  obtain ⟨k, f⟩ := q
  have he0 : f = 0 → e = 0 := by
    intro hf
    by_cases he : e = 0
    · exact he
    · rw [sM_bad he] at hq; cases hq; exact absurd hf he
  by_cases hf : f = 0
  · subst hf
    rw [if_pos rfl] at hlab
    rw [if_pos rfl, lAt_some hj2, bsome, bsome]
    rw [lAt_some hj2, bsome] at hlab
    by_cases hk : T[k].Kind = 1
    · rw [if_pos hk, bsome, find_r hN, bsome] at hlab
      rw [decide_eq_true hk, if_neg (by decide), bsome]
      have hof : order_Find.f l T[k].Text = some (if plc l.Names T[k].Text < 0 then (0, 9) else (plc l.Names T[k].Text, 0)) := by
        unfold order_Find.f
        rw [hC, bsome, if_pos rfl, find_p hN, bsome]
        split <;> rfl
      show ∃ (j : Nat) (e : Int) (v_1 w : api_Atom), (order_Find.f l T[k].Text >>= _) = _ ∧ _
      rw [hof, bsome]
      by_cases hn : plc l.Names T[k].Text < 0
      · rw [if_pos hn, if_neg (show ¬ ((0, 9) : Int × Int).2 = 0 by decide)]
        rw [if_pos hn] at hlab
        show ∃ (j : Nat) (e : Int) (v_1 w : api_Atom), (state_reader_fail.f ⟨l, T, (k : Int), 0⟩ 6 >>= _) = _ ∧ _
        rw [fail_s hT, bsome]
        refine ⟨k, 6, ⟨0, 0⟩, ⟨m, plc l.Names T[k].Text⟩, rfl, fun a => ?_, hj2, fun h => by cases h⟩
        rw [hr, hlab, bsome]
      · rw [if_neg hn, if_pos rfl]
        rw [if_neg hn] at hlab
        have hkl : T[k].Kind ≠ 0 := by omega
        have hk3 := hT.next k hj2 hkl
        refine ⟨k + 1, 0, ⟨v, plc l.Names T[k].Text⟩, ⟨m, plc l.Names T[k].Text⟩, ?_, fun a => ?_, hk3, fun _ => by rw [hm (he0 rfl)]⟩
        · show some ((⟨l, T, IntKind.i64.wrap ((k : Int) + 1), 0⟩ : state_reader), _) = _
          rw [wS (by omega)]
        · rw [hr, hlab, bsome, wS (by omega)]
    · rw [if_neg hk] at hlab
      rw [decide_eq_false hk, if_pos (by decide)]
      rw [fail_s hT, bsome]
      refine ⟨k, 4, ⟨0, 0⟩, ⟨m, m⟩, rfl, fun a => ?_, hj2, fun h => by cases h⟩
      rw [hr, hlab, bsome]
  · rw [if_neg hf] at hlab
    rw [if_neg hf, bsome, if_pos tt, fail_s hT, bsome, if_neg hf]
    refine ⟨k, f, ⟨0, 0⟩, ⟨m, m⟩, rfl, fun a => ?_, hj2, fun h => absurd h hf⟩
    rw [hr, hlab, bsome]
theorem atom_b {i : Nat} (hi : i < T.length) (e : Int) : ∃ (j : Nat) (e' : Int) (v w : api_Atom), state_reader_atom.f ⟨l, T, (i : Int), e⟩ = some (⟨l, T, (j : Int), e'⟩, v) ∧ (∀ a, reticentref09_atom.f l T ⟨(i : Int), a, e⟩ = some ⟨(j : Int), w, e'⟩) ∧ j < T.length ∧ (e' = 0 → w = v) ∧ (e' = 0 → e = 0) := by
  by_cases he : e = 0
  · subst he
    obtain ⟨j, e', v, w, h1, h2, h3, h4⟩ := atom_0 hT hN hC hi
    exact ⟨j, e', v, w, h1, h2, h3, h4, fun _ => rfl⟩
  · obtain ⟨w, h1, h2⟩ := atom_e hT hN hC hi he
    exact ⟨i, e, _, w, h1, h2, hi, fun h => absurd h he, fun h => h⟩
end
def tailR (o : reticentref09_S ⊕ (Int × Int × Int × Int × (List api_Slot))) : Option reticentref09_S := match o with | .inl r => some r | .inr (x89, x90, x91, x92, x93) => some (⟨⟨x89, ⟨x90, x91⟩, x92⟩, x93⟩ : reticentref09_S)
theorem lenOk {n : Nat} {m : Nat} (h : n ≤ 20) (k : m ≤ 24) : (n + 1) * m ≤ big := by
  have : (n + 1) * m ≤ 21 * 24 := Nat.mul_le_mul (by omega) k
  unfold big; omega
section
variable {T : List api_Tok} (hT : Tk T) {l : api_Lattice} (hN : l.Names.length ≤ 1000) (hC : lattice_Check.f l = some 0)
include hT hN hC
theorem rowA_l0 {most : Nat} (hm : most ≤ 20) : ∀ (d : Nat) (acc : List api_Atom) (acc' : List api_Slot) (i : Nat) (e : Int) (a : api_Atom), acc.length + d = most → acc'.length = acc.length → i < T.length → (e = 0 → acc = acc'.map atS) →
    ∃ (j : Nat) (e' : Int) (w : api_Atom) (out : List api_Atom) (out' : List api_Slot), state_row_api_Atom_atom.l0 (most : Int) l.Names l.Up T (i : Int) e acc = some (l.Names, l.Up, T, (j : Int), e', out) ∧ (reticentref09_row.l0 l T (most : Int) false (i : Int) a.V a.L e acc' >>= tailR) = some ⟨⟨(j : Int), w, e'⟩, out'⟩ ∧ j < T.length ∧ out.length ≤ most ∧ out'.length ≤ most ∧ (e' = 0 → out = out'.map atS ∧ e = 0)
  | d, acc, acc', i, e, a, hd, hl', hi, hacc => by
    have hl := hT.len
    by_cases he : e = 0
    · subst he
      rw [state_row_api_Atom_atom.l0, if_pos rfl, reticentref09_row.l0, if_pos rfl]
      cases d with
      | zero =>
        rw [if_pos (show (acc.length : Int) = (most : Int) by omega), if_pos (show (acc'.length : Int) = (most : Int) by omega)]
        show ∃ (j : Nat) (e' : Int) (w : api_Atom) (out : List api_Atom) (out' : List api_Slot), (state_reader_fail.f ⟨l, T, (i : Int), 0⟩ 8 >>= _) = _ ∧ _
        rw [fail_s hT, bsome]
        exact ⟨i, 8, a, acc, acc', rfl, rfl, hi, by omega, by omega, fun h => by cases h⟩
      | succ d =>
        rw [if_neg (show ¬ (acc.length : Int) = (most : Int) by omega), if_neg (show ¬ (acc'.length : Int) = (most : Int) by omega)]
        obtain ⟨j, e', v, w, h1, h2, hj, hw, _⟩ := atom_b hT hN hC hi 0
        rw [if_neg ff, bsome, if_neg ff]
        show ∃ (j : Nat) (e' : Int) (w : api_Atom) (out : List api_Atom) (out' : List api_Slot), (state_reader_atom.f ⟨l, T, (i : Int), 0⟩ >>= _) = _ ∧ (((reticentref09_atom.f l T ⟨(i : Int), ⟨a.V, a.L⟩, 0⟩ >>= _) >>= _) >>= _) = _ ∧ _
        rw [h1, bsome, h2, bsome]
        rw [if_pos (show (acc.length + ([v] : List api_Atom).length) * 16 ≤ big from lenOk (by omega) (by omega)), if_pos (show (acc'.length + ([(⟨false, w.V, w.L⟩ : api_Slot)] : List api_Slot).length) * 24 ≤ big from lenOk (by omega) (by omega))]
        show ∃ (j2 : Nat) (e2 : Int) (w_1 : api_Atom) (out : List api_Atom) (out' : List api_Slot), (state_reader_is.f ⟨l, T, (j : Int), e'⟩ 3 [44] >>= _) = _ ∧ (((reticentref09_here.f T ⟨(j : Int), w, e'⟩ 3 [44] >>= _) >>= _) >>= _) = _ ∧ _
        rw [is_p hT hj, bsome, here_r hT hj, bsome]
        have hap : e' = 0 → acc ++ [v] = (acc' ++ [(⟨false, w.V, w.L⟩ : api_Slot)]).map atS := by
          intro q
          rw [List.map_append, ← hacc rfl, ← hw q]; rfl
        cases hb : sB T j e' 3 [44] with
        | false =>
          rw [if_pos (show (!false) = true from rfl), if_pos (show (!false) = true from rfl)]
          show ∃ (j2 : Nat) (e2 : Int) (w_1 : api_Atom) (out : List api_Atom) (out' : List api_Slot), (state_reader_must.f ⟨l, T, (j : Int), e'⟩ 3 [59] >>= _) = _ ∧ (((reticentref09_must.f T ⟨(j : Int), w, e'⟩ 3 [59] >>= _) >>= _) >>= _) = _ ∧ _
          rw [must_p hT hj, bsome, must_r hT hj, bsome]
          refine ⟨_, _, w, acc ++ [v], acc' ++ [⟨false, w.V, w.L⟩], rfl, rfl, sM_lt hT hj (by decide), by simp; omega, by simp; omega, fun q => ⟨hap ?_, rfl⟩⟩
          by_cases he' : e' = 0
          · exact he'
          · rw [sM_bad he'] at q; exact q
        | true =>
          obtain ⟨hj2, he'⟩ := sB_next hT hj (by decide) hb
          subst he'
          rw [if_neg (show ¬ (!true) = true from by decide), if_neg (show ¬ (!true) = true from by decide)]
          show ∃ (j2 : Nat) (e2 : Int) (w_1 : api_Atom) (out : List api_Atom) (out' : List api_Slot), state_row_api_Atom_atom.l0 (most : Int) l.Names l.Up T (IntKind.i64.wrap ((j : Int) + 1)) 0 (acc ++ [v]) = _ ∧ ((reticentref09_row.l0 l T (most : Int) false (IntKind.i64.wrap ((j : Int) + 1)) w.V w.L 0 (acc' ++ [⟨false, w.V, w.L⟩])) >>= tailR) = _ ∧ _
          rw [wS (by omega)]
          exact rowA_l0 hm d (acc ++ [v]) (acc' ++ [⟨false, w.V, w.L⟩]) (j + 1) 0 w (by simp; omega) (by simp; omega) hj2 hap
    · rw [state_row_api_Atom_atom.l0, if_neg he, reticentref09_row.l0, if_neg he]
      exact ⟨i, e, a, acc, acc', rfl, rfl, hi, by omega, by omega, fun h => absurd h he⟩
theorem rowS_l0 {most : Nat} (hm : most ≤ 20) : ∀ (d : Nat) (acc : List api_Slot) (acc' : List api_Slot) (i : Nat) (e : Int) (a : api_Atom), acc.length + d = most → acc'.length = acc.length → i < T.length → (e = 0 → acc = acc') →
    ∃ (j : Nat) (e' : Int) (w : api_Atom) (out : List api_Slot) (out' : List api_Slot), state_row_api_Slot_slot.l0 (most : Int) l.Names l.Up T (i : Int) e acc = some (l.Names, l.Up, T, (j : Int), e', out) ∧ (reticentref09_row.l0 l T (most : Int) true (i : Int) a.V a.L e acc' >>= tailR) = some ⟨⟨(j : Int), w, e'⟩, out'⟩ ∧ j < T.length ∧ out.length ≤ most ∧ out'.length ≤ most ∧ (e' = 0 → out = out' ∧ e = 0)
  | d, acc, acc', i, e, a, hd, hl', hi, hacc => by
    have hl := hT.len
    by_cases he : e = 0
    · subst he
      rw [state_row_api_Slot_slot.l0, if_pos rfl, reticentref09_row.l0, if_pos rfl]
      cases d with
      | zero =>
        rw [if_pos (show (acc.length : Int) = (most : Int) by omega), if_pos (show (acc'.length : Int) = (most : Int) by omega)]
        show ∃ (j : Nat) (e' : Int) (w : api_Atom) (out : List api_Slot) (out' : List api_Slot), (state_reader_fail.f ⟨l, T, (i : Int), 0⟩ 8 >>= _) = _ ∧ _
        rw [fail_s hT, bsome]
        exact ⟨i, 8, a, acc, acc', rfl, rfl, hi, by omega, by omega, fun h => by cases h⟩
      | succ d =>
        rw [if_neg (show ¬ (acc.length : Int) = (most : Int) by omega), if_neg (show ¬ (acc'.length : Int) = (most : Int) by omega)]
        have hsl : ∃ (j : Nat) (e' : Int) (v : api_Slot) (w : api_Atom), state_reader_slot.f ⟨l, T, (i : Int), 0⟩ = some (⟨l, T, (j : Int), e'⟩, v) ∧ (∀ a, (((if true = true then (reticentref09_here.f T (⟨(i : Int), a, 0⟩ : reticentref09_P) 1 ([114, 101, 116] : Str) >>= fun y122 => some y122) else (some false) : Option Bool)) = some v.Ret ∧ reticentref09_atom.f l T (if v.Ret = true then ⟨IntKind.i64.wrap ((i : Int) + 1), a, 0⟩ else ⟨(i : Int), a, 0⟩) = some ⟨(j : Int), w, e'⟩)) ∧ j < T.length ∧ (e' = 0 → v = ⟨v.Ret, w.V, w.L⟩) := by
          cases hb : sB T i 0 1 [114, 101, 116] with
          | true =>
            have hi2 := (sB_next hT hi (by decide) hb).1
            obtain ⟨j, e', v, w, h1, h2, hj, hw, _⟩ := atom_b hT hN hC hi2 0
            refine ⟨j, e', ⟨true, v.V, v.L⟩, w, ?_, fun a => ⟨?_, ?_⟩, hj, fun q => by rw [hw q]⟩
            · unfold state_reader_slot.f
              rw [is_p hT hi, bsome, hb, if_pos tt]
              show (state_reader_atom.f ⟨l, T, IntKind.i64.wrap ((i : Int) + 1), 0⟩ >>= _) = _
              rw [wS (by omega), h1, bsome]
            · rw [if_pos tt, here_r hT hi, bsome, hb]
            · rw [if_pos tt, wS (by omega), h2]
          | false =>
            obtain ⟨j, e', v, w, h1, h2, hj, hw, _⟩ := atom_b hT hN hC hi 0
            refine ⟨j, e', ⟨false, v.V, v.L⟩, w, ?_, fun a => ⟨?_, ?_⟩, hj, fun q => by rw [hw q]⟩
            · unfold state_reader_slot.f
              rw [is_p hT hi, bsome, hb, if_neg ff]
              show (state_reader_atom.f ⟨l, T, (i : Int), 0⟩ >>= _) = _
              rw [h1, bsome]
            · rw [if_pos tt, here_r hT hi, bsome, hb]
            · rw [if_neg ff, h2]
        obtain ⟨j, e', v, w, h1, h2, hj, hw⟩ := hsl
        obtain ⟨h3, h4⟩ := h2 ⟨a.V, a.L⟩
        show ∃ (j2 : Nat) (e2 : Int) (w : api_Atom) (out : List api_Slot) (out' : List api_Slot), (state_reader_slot.f ⟨l, T, (i : Int), 0⟩ >>= _) = _ ∧ (((((if true = true then (reticentref09_here.f T (⟨(i : Int), ⟨a.V, a.L⟩, 0⟩ : reticentref09_P) 1 ([114, 101, 116] : Str) >>= fun y122 => some y122) else (some false) : Option Bool)) >>= _) >>= _) >>= _) = _ ∧ _
        rw [h1, bsome, h3, bsome]
        have hif : ∀ {α : Type} {p : Prop} [Decidable p] (x y : reticentref09_P) (f : reticentref09_P → Option α), (if p then (reticentref09_atom.f l T x >>= f) else (reticentref09_atom.f l T y >>= f)) = (reticentref09_atom.f l T (if p then x else y) >>= f) := by
          intro α p _ x y f
          split <;> rfl
        rw [hif, h4, bsome]
        rw [if_pos (show (acc.length + ([v] : List api_Slot).length) * 24 ≤ big from lenOk (by omega) (by omega)), if_pos (show (acc'.length + ([(⟨v.Ret, w.V, w.L⟩ : api_Slot)] : List api_Slot).length) * 24 ≤ big from lenOk (by omega) (by omega))]
        show ∃ (j2 : Nat) (e2 : Int) (w_1 : api_Atom) (out : List api_Slot) (out' : List api_Slot), (state_reader_is.f ⟨l, T, (j : Int), e'⟩ 3 [44] >>= _) = _ ∧ (((reticentref09_here.f T ⟨(j : Int), w, e'⟩ 3 [44] >>= _) >>= _) >>= _) = _ ∧ _
        rw [is_p hT hj, bsome, here_r hT hj, bsome]
        have hap : e' = 0 → acc ++ [v] = acc' ++ [(⟨v.Ret, w.V, w.L⟩ : api_Slot)] := by
          intro q
          rw [← hacc rfl, ← hw q]
        cases hb : sB T j e' 3 [44] with
        | false =>
          rw [if_pos (show (!false) = true from rfl), if_pos (show (!false) = true from rfl)]
          show ∃ (j2 : Nat) (e2 : Int) (w_1 : api_Atom) (out : List api_Slot) (out' : List api_Slot), (state_reader_must.f ⟨l, T, (j : Int), e'⟩ 3 [59] >>= _) = _ ∧ (((reticentref09_must.f T ⟨(j : Int), w, e'⟩ 3 [59] >>= _) >>= _) >>= _) = _ ∧ _
          rw [must_p hT hj, bsome, must_r hT hj, bsome]
          refine ⟨_, _, w, acc ++ [v], acc' ++ [⟨v.Ret, w.V, w.L⟩], rfl, rfl, sM_lt hT hj (by decide), by simp; omega, by simp; omega, fun q => ⟨hap ?_, rfl⟩⟩
          by_cases he' : e' = 0
          · exact he'
          · rw [sM_bad he'] at q; exact q
        | true =>
          obtain ⟨hj2, he'⟩ := sB_next hT hj (by decide) hb
          subst he'
          rw [if_neg (show ¬ (!true) = true from by decide), if_neg (show ¬ (!true) = true from by decide)]
          show ∃ (j2 : Nat) (e2 : Int) (w_1 : api_Atom) (out : List api_Slot) (out' : List api_Slot), state_row_api_Slot_slot.l0 (most : Int) l.Names l.Up T (IntKind.i64.wrap ((j : Int) + 1)) 0 (acc ++ [v]) = _ ∧ ((reticentref09_row.l0 l T (most : Int) true (IntKind.i64.wrap ((j : Int) + 1)) w.V w.L 0 (acc' ++ [⟨v.Ret, w.V, w.L⟩])) >>= tailR) = _ ∧ _
          rw [wS (by omega)]
          exact rowS_l0 hm d (acc ++ [v]) (acc' ++ [⟨v.Ret, w.V, w.L⟩]) (j + 1) 0 w (by simp; omega) (by simp; omega) hj2 hap
    · rw [state_row_api_Slot_slot.l0, if_neg he, reticentref09_row.l0, if_neg he]
      exact ⟨i, e, a, acc, acc', rfl, rfl, hi, by omega, by omega, fun h => absurd h he⟩
end
end Go.Proofs.YtkmobcaobmchpaaGreatDoor.St
