/- StateBack: the law. -/
import Derived.Test.YtkcpghpglhamfaaGreatDoorSk7
set_option linter.unusedVariables false
set_option linter.unusedSimpArgs false
set_option linter.unusedSectionVars false
namespace Go.Proofs.YtkcpghpglhamfaaGreatDoor.Sk
open Go Go.Proofs.YtkcpghpglhamfaaGreatDoor.Ab Go.Proofs.YtkcpghpglhamfaaGreatDoor.SK
theorem wr_first {l : api_Lattice} {v a : Int} {X : List (Int × Str)} : ∃ k s R, wrT l v a ++ X = (k, s) :: R ∧ ¬ (k = 3 ∧ s = [59]) := by
  unfold wrT sgT
  by_cases q : v < 0
  · rw [if_pos q]; exact ⟨_, _, _, rfl, fun w => by cases w.2⟩
  · rw [if_neg q]; exact ⟨_, _, _, rfl, fun w => by cases w.1⟩
theorem sl_first {l : api_Lattice} {x : api_Slot} {X : List (Int × Str)} : ∃ k s R, slT l x ++ X = (k, s) :: R ∧ ¬ (k = 3 ∧ s = [59]) := by
  unfold slT
  cases x.Ret with
  | true => rw [if_pos tt]; exact ⟨_, _, _, rfl, fun w => by cases w.1⟩
  | false => rw [if_neg ff]; exact wr_first
section
variable {T : List api_Tok} (hT : Tk T) {l : api_Lattice} (hL : Lok l) (hC : lattice_Check.f l = some 0)
include hT hL hC
theorem rowA_w {most : Nat} (hm : most ≤ 20) {x : List api_Atom} (hA : ∀ b ∈ x, Aok l b.V b.L) (hx : x.length ≤ most) {i : Nat} {word : Str} {R : List (Int × Str)} (h : (T.drop i).map kt = (1, word) :: (rowK (fun a : api_Atom => wrT l a.V a.L) x ++ (3, [59]) :: R)) :
    ∃ j : Nat, state_row_api_Atom_atom.f ⟨l, T, (i : Int), 0⟩ word (most : Int) = some (⟨l, T, (j : Int), 0⟩, x) ∧ (T.drop j).map kt = R := by
  have hl := hT.len
  obtain ⟨_, _, _, h2⟩ := at_ h
  unfold state_row_api_Atom_atom.f
  rw [must_at hT h, bsome]
  cases x with
  | nil =>
    have h2' : (T.drop (i + 1)).map kt = (3, [59]) :: R := h2
    obtain ⟨hi, _, _, h3⟩ := at_ h2'
    refine ⟨i + 1 + 1, ?_, h3⟩
    rw [is_p hT hi, bsome, sB_at hT h2', if_pos tt]
    show some ((⟨l, T, IntKind.i64.wrap (((i + 1 : Nat) : Int) + 1), 0⟩ : state_reader), ([] : List api_Atom)) = _
    rw [wS (by omega)]
  | cons a x =>
    have h2' : (T.drop (i + 1)).map kt = wrT l a.V a.L ++ (x.flatMap (fun b => (3, [44]) :: wrT l b.V b.L) ++ (3, [59]) :: R) := by
      rw [h2]; unfold rowK; rw [List.append_assoc]
    obtain ⟨j, e1, h3⟩ := rowA_wl hT hL hC hm x a hA [] (i + 1) (by simpa using hx) h2'
    obtain ⟨k, s, R', q1, q2⟩ := wr_first (l := l) (v := a.V) (a := a.L) (X := x.flatMap (fun b => (3, [44]) :: wrT l b.V b.L) ++ (3, [59]) :: R)
    rw [q1] at h2'
    obtain ⟨hi, _⟩ := at_ h2'
    refine ⟨j, ?_, h3⟩
    rw [is_p hT hi, bsome, sB_no hT h2' q2, if_neg ff]
    show (state_row_api_Atom_atom.l0 (most : Int) l.Names l.Up T ((i + 1 : Nat) : Int) 0 [] >>= _) = _
    rw [e1, bsome]; rfl
theorem rowS_w {most : Nat} (hm : most ≤ 20) {x : List api_Slot} (hA : ∀ b ∈ x, Aok l b.V b.L) (hx : x.length ≤ most) {i : Nat} {word : Str} {R : List (Int × Str)} (h : (T.drop i).map kt = (1, word) :: (rowK (slT l) x ++ (3, [59]) :: R)) :
    ∃ j : Nat, state_row_api_Slot_slot.f ⟨l, T, (i : Int), 0⟩ word (most : Int) = some (⟨l, T, (j : Int), 0⟩, x) ∧ (T.drop j).map kt = R := by
  have hl := hT.len
  obtain ⟨_, _, _, h2⟩ := at_ h
  unfold state_row_api_Slot_slot.f
  rw [must_at hT h, bsome]
  cases x with
  | nil =>
    have h2' : (T.drop (i + 1)).map kt = (3, [59]) :: R := h2
    obtain ⟨hi, _, _, h3⟩ := at_ h2'
    refine ⟨i + 1 + 1, ?_, h3⟩
    rw [is_p hT hi, bsome, sB_at hT h2', if_pos tt]
    show some ((⟨l, T, IntKind.i64.wrap (((i + 1 : Nat) : Int) + 1), 0⟩ : state_reader), ([] : List api_Slot)) = _
    rw [wS (by omega)]
  | cons a x =>
    have h2' : (T.drop (i + 1)).map kt = slT l a ++ (x.flatMap (fun b => (3, [44]) :: slT l b) ++ (3, [59]) :: R) := by
      rw [h2]; unfold rowK; rw [List.append_assoc]
    obtain ⟨j, e1, h3⟩ := rowS_wl hT hL hC hm x a hA [] (i + 1) (by simpa using hx) h2'
    obtain ⟨k, s, R', q1, q2⟩ := sl_first (l := l) (x := a) (X := x.flatMap (fun b => (3, [44]) :: slT l b) ++ (3, [59]) :: R)
    rw [q1] at h2'
    obtain ⟨hi, _⟩ := at_ h2'
    refine ⟨j, ?_, h3⟩
    rw [is_p hT hi, bsome, sB_no hT h2' q2, if_neg ff]
    show (state_row_api_Slot_slot.l0 (most : Int) l.Names l.Up T ((i + 1 : Nat) : Int) 0 [] >>= _) = _
    rw [e1, bsome]; rfl
theorem code_wl {R : List (Int × Str)} : ∀ (c : List api_Instr), (∀ x ∈ c, Iok l x ∧ insB (l.Up.length : Int) x = true) → ∀ (acc : List api_Instr) (i : Nat), acc.length + c.length ≤ 12 → (T.drop i).map kt = c.flatMap (txT l) ++ (1, [109, 101, 109]) :: R →
    ∃ j : Nat, (code_From.l0 l.Names l.Up T (i : Int) 0 acc >>= tailF) = some (acc ++ c, (j : Int), 0) ∧ (T.drop j).map kt = (1, [109, 101, 109]) :: R
  | [], _, acc, i, hd, h => by
    have h' : (T.drop i).map kt = (1, [109, 101, 109]) :: R := h
    obtain ⟨hi, a, b, _⟩ := at_ h'
    rw [code_From.l0, if_pos rfl, tok_p hT hi, bsome, op_p, bsome]
    show ∃ j : Nat, ((if (if T[i].Kind = 1 then opT T[i].Text else -1) < 0 then _ else _) >>= tailF) = _ ∧ _
    rw [if_pos a, b, if_pos (show opT [109, 101, 109] < 0 by decide), List.append_nil]
    exact ⟨i, rfl, h'⟩
  | x :: c, hc, acc, i, hd, h => by
    have hB : 1000000 ≤ big := by decide
    obtain ⟨hx, hins⟩ := hc x (List.mem_cons_self ..)
    rw [List.flatMap_cons, List.append_assoc] at h
    obtain ⟨j, e1, h2⟩ := one_w hT hL hC hx hins h
    have h' := h
    unfold txT at h'
    obtain ⟨hi, a, b, _⟩ := at_ h'
    have hop : opT T[i].Text = x.Op := by rw [b, op_word hx.o0 hx.o1]
    rw [code_From.l0, if_pos rfl, tok_p hT hi, bsome, op_p, bsome]
    show ∃ j : Nat, ((if (if T[i].Kind = 1 then opT T[i].Text else -1) < 0 then _ else (if (acc.length : Int) = 12 then _ else (code_reader_one.f ⟨l, T, (i : Int), 0⟩ (if T[i].Kind = 1 then opT T[i].Text else -1) >>= _))) >>= tailF) = _ ∧ _
    have h0 := hx.o0
    simp only [List.length_cons] at hd
    rw [if_pos a, hop, if_neg (by omega), if_neg (by omega), e1, bsome, if_pos (by simp; omega)]
    have := code_wl c (fun y hy => hc y (List.mem_cons_of_mem _ hy)) (acc ++ [x]) j (by simp; omega) h2
    rw [List.append_assoc] at this
    exact this
theorem code_w (hE : (T[T.length - 1]'(by have := hT.pos; omega)).Kind = 0) {c : List api_Instr} (hc : ∀ x ∈ c, Iok l x ∧ insB (l.Up.length : Int) x = true) (h12 : c.length ≤ 12) {i : Nat} {R : List (Int × Str)} (h : (T.drop i).map kt = c.flatMap (txT l) ++ (1, [109, 101, 109]) :: R) (hi : i < T.length) :
    ∃ j : Nat, code_From.f l T (i : Int) = some (c, (j : Int), 0) ∧ (T.drop j).map kt = (1, [109, 101, 109]) :: R := by
  have hl := hT.len
  have hp := hT.pos
  obtain ⟨j, e1, h2⟩ := code_wl hT hL hC c hc [] i (by simpa using h12) h
  refine ⟨j, ?_, h2⟩
  unfold code_From.f
  rw [hC, bsome, if_pos rfl, if_neg (by omega), if_neg (by omega)]
  have hw : IntKind.i64.wrap ((T.length : Int) - 1) = ((T.length - 1 : Nat) : Int) := by rw [wrapZ (by omega) (by omega)]; omega
  rw [hw, lAt_some (by omega), bsome, hE, bsome, if_neg (by decide)]
  exact e1
theorem st_from {U : List Nat} (hU : Nm l U) (hc : chk l U = 0) (hE : (T[T.length - 1]'(by have := hT.pos; omega)).Kind = 0) {s : api_State} (z : Sz s) (F : Fine l s) (hr : rightS (l.Up.length : Int) s = true) (hI : ∀ x ∈ s.Code, Iok l x ∧ insB (l.Up.length : Int) x = true) (h : (T.drop 0).map kt = stTk l s ++ [(0, [])]) :
    ∃ (j : Nat) (hj : j < T.length), state_From.f l T 0 = some (s, (j : Int), 0) ∧ T[j].Kind = 0 := by
  have hl := hT.len
  have hp := hT.pos
  unfold stTk at h
  simp only [List.cons_append, List.append_assoc] at h
  obtain ⟨_, _, _, h1⟩ := at_ h
  obtain ⟨j2, e2, h2⟩ := atom_w hT hL hC F.pc h1
  obtain ⟨_, _, _, h3⟩ := at_ h2
  obtain ⟨_, _, _, h4⟩ := at_ h3
  have hi4 : j2 + 1 + 1 < T.length := by
    rcases Nat.lt_or_ge (j2 + 1 + 1) T.length with q | q
    · exact q
    · rw [List.drop_of_length_le q, List.map_nil] at h4
      have := congrArg List.length h4
      simp at this
  obtain ⟨j5, e5, h5⟩ := code_w hT hL hC hE hI F.cl h4 hi4
  obtain ⟨j6, e6, h6⟩ := rowA_w hT hL hC (most := 6) (by decide) F.mem F.ml h5
  obtain ⟨j7, e7, h7⟩ := rowS_w hT hL hC (most := 12) (by decide) F.stack F.sl h6
  obtain ⟨j8, e8, h8⟩ := rowA_w hT hL hC (most := 8) (by decide) F.out F.ol h7
  obtain ⟨hj8, k8, _, _⟩ := at_ h8
  refine ⟨j8, hj8, ?_, k8⟩
  unfold state_From.f
  rw [hC, bsome, if_pos rfl, if_neg (show ¬ (0 : Int) < 0 by decide), if_neg (show ¬ (0 : Int) ≥ (T.length : Int) by omega)]
  have hw : IntKind.i64.wrap ((T.length : Int) - 1) = ((T.length - 1 : Nat) : Int) := by rw [wrapZ (by omega) (by omega)]; omega
  have m0 := must_at hT (l := l) h
  rw [show ((0 : Nat) : Int) = 0 from rfl] at m0
  rw [hw, lAt_some (by omega), bsome, hE, bsome, if_neg (by decide), m0, bsome, e2, bsome]
  show (state_reader_must.f ⟨l, T, (j2 : Int), 0⟩ 3 [59] >>= _) = _
  rw [must_at hT h2, bsome]
  unfold state_reader_program.f
  rw [must_at hT h3, bsome, if_pos rfl]
  show ((code_From.f l T ((j2 + 1 + 1 : Nat) : Int) >>= _) >>= _) = _
  rw [e5, bsome, if_pos rfl, bsome]
  show (state_row_api_Atom_atom.f ⟨l, T, (j5 : Int), 0⟩ ([109, 101, 109] : Str) ((6 : Nat) : Int) >>= _) = _
  rw [e6, bsome]
  show (state_row_api_Slot_slot.f ⟨l, T, (j6 : Int), 0⟩ ([115, 116, 97, 99, 107] : Str) ((12 : Nat) : Int) >>= _) = _
  rw [e7, bsome]
  show (state_row_api_Atom_atom.f ⟨l, T, (j7 : Int), 0⟩ ([111, 117, 116] : Str) ((8 : Nat) : Int) >>= _) = _
  rw [e8, bsome, if_pos rfl]
  show (state_Right.f l s >>= _) = _
  rw [right_s hU hc z, bsome, hr]
  rfl
end
theorem st_parse {l : api_Lattice} {U : List Nat} (h : Nm l U) (hc : chk l U = 0) {s : api_State} (z : Sz s) (hr : rightS (l.Up.length : Int) s = true) : (∃ a, state_Parse.f l (stT l s) = some (zs, a, 8)) ∨ state_Parse.f l (stT l s) = some (s, 0, 0) := by
  have F := fine h hc hr
  have hL := lok_of h hc
  have hC : lattice_Check.f l = some 0 := by rw [check_eq h, hc]
  obtain ⟨_, hok, _⟩ := oks h hc F.code
  have hall : s.Code.all (insB (l.Up.length : Int)) = true := by
    have := F.code
    unfold rightB at this; rw [Bool.and_eq_true] at this; exact this.2
  rcases lex_of (st_lex h hc F hok) with ⟨a, e⟩ | ⟨ts, e1, e2, e3⟩
  · left
    refine ⟨a, ?_⟩
    unfold state_Parse.f
    rw [hC, bsome, if_pos rfl, e, bsome, if_neg (show ¬ (8 : Int) = 0 by decide)]
    rfl
  · right
    have hT := tk_of (L := ts) (a := ((stT l s).length : Int)) (by simp; omega)
    obtain ⟨j, hj, q1, q2⟩ := st_from hT hL hC h hc (by simp) z F hr (fun x hx => ⟨hok x hx, List.all_eq_true.1 hall x hx⟩) (by rw [List.drop_zero, List.map_append, e2]; rfl)
    unfold state_Parse.f
    rw [hC, bsome, if_pos rfl, e1, bsome, if_pos rfl, q1, bsome, if_pos rfl, lAt_some hj, bsome, if_pos q2]
theorem alive09 : reticentlaw09_alive.f = some true := reticentlaw09_alive.f_le 60 _ (by kernel_rfl)
/-- What is read may be. -/
theorem again {l : api_Lattice} {U : List Nat} (h : Nm l U) (S : Str) : (state_Parse.f l S >>= fun y17 => if y17.2.2 = 0 then (((reticentlaw09_alive.f >>= fun y23 => if y23 = true then (state_Right.f l y17.1 >>= fun y25 => some y25) else (some false) : Option Bool) >>= fun x22 => some x22)) else (((reticentlaw09_alive.f >>= fun y30 => if y30 = true then (reticentref09_Same.f y17.1 (⟨(⟨0, 0⟩ : api_Atom), [], [], [], []⟩ : api_State) >>= fun y32 => some y32) else (some false) : Option Bool) >>= fun x29 => some x29))) = some true := by
  obtain ⟨x, a, e, q1, z, q2, q3⟩ := parse_t h S
  rw [q1, bsome, alive09]
  by_cases he : e = 0
  · obtain ⟨hc, hr⟩ := q3 he
    rw [if_pos he, bsome, if_pos tt]
    show (((state_Right.f l x >>= _) : Option Bool) >>= _) = _
    rw [right_s h hc z, hr]
    rfl
  · rw [if_neg he, bsome, if_pos tt, q2 he]
    show (((reticentref09_Same.f zs zs >>= _) : Option Bool) >>= _) = _
    rw [same_state zs_sz]
    rfl
theorem back {l : api_Lattice} {a : api_State} {s : Str} (hl : ∃ H cs, (kR f_api_Lattice).reps H cs l) : reticentlaw09_StateBack.f l a s = some true := by
  obtain ⟨l', U, e, h⟩ := few_eq hl
  obtain ⟨A, eA, z⟩ := cut_eq a
  unfold reticentlaw09_StateBack.f
  rw [e, bsome, eA, bsome, show (2010 : Int) = ((2010 : Nat) : Int) from rfl, if_pos cutok]
  generalize sCut s 0 _ = S
  have hag := again h S
  by_cases hc : chk l' U = 0
  · rw [text_s h hc z, bsome]
    cases hr : rightS (l'.Up.length : Int) A with
    | false =>
      rw [if_neg ff]
      show (if (1 : Int) = 0 then _ else _) = _
      rw [if_neg (by decide : ¬ (1 : Int) = 0)]
      exact hag
    | true =>
      rw [if_pos rfl]
      show ((state_Parse.f l' (stT l' A) >>= _) : Option Bool) = _
      rcases st_parse h hc z hr with ⟨at8, q⟩ | q
      · rw [q, bsome]
        show (((if (8 : Int) = 8 then _ else _) : Option Bool) >>= _) = _
        rw [if_pos rfl, bsome, if_neg (by decide)]
        exact hag
      · rw [q, bsome]
        show (((if (0 : Int) = 8 then _ else (if (0 : Int) = 0 then (if (0 : Int) = 0 then (reticentref09_Same.f A A >>= _) else _) else _)) : Option Bool) >>= _) = _
        rw [if_neg (by decide : ¬ (0 : Int) = 8), if_pos rfl, if_pos rfl, same_state z, bsome, bsome, if_neg (by decide)]
        exact hag
  · have ht : state_Text.f l' A = some ([], chk l' U) := by
      unfold state_Text.f
      rw [check_eq h, bsome, if_neg hc]
    rw [ht, bsome]
    show (if chk l' U = 0 then _ else _) = _
    rw [if_neg hc]
    exact hag
end Go.Proofs.YtkcpghpglhamfaaGreatDoor.Sk
