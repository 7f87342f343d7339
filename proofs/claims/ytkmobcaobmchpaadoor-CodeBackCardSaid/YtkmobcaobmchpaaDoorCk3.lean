/- CodeBack: the law. -/
import Derived.Test.YtkmobcaobmchpaaDoorCk2
set_option linter.unusedVariables false
set_option linter.unusedSimpArgs false
set_option linter.unusedSectionVars false
namespace Go.Proofs.YtkmobcaobmchpaaDoor.Ck
open Go Go.Proofs.YtkmobcaobmchpaaDoor.Ab Go.Proofs.YtkmobcaobmchpaaDoor.CK
theorem at_ {T : List api_Tok} {i : Nat} {k : Int} {t : Str} {R : List (Int × Str)} (h : (T.drop i).map kt = (k, t) :: R) : ∃ hi : i < T.length, T[i].Kind = k ∧ T[i].Text = t ∧ (T.drop (i + 1)).map kt = R := by
  have hi : i < T.length := by
    rcases Nat.lt_or_ge i T.length with q | q
    · exact q
    · rw [List.drop_of_length_le q] at h; cases h
  rw [List.drop_eq_getElem_cons hi, List.map_cons] at h
  have h1 := (List.cons.inj h).1
  unfold kt at h1
  exact ⟨hi, (Prod.mk.inj h1).1, (Prod.mk.inj h1).2, (List.cons.inj h).2⟩
theorem ins_facts {n : Int} {x : api_Instr} (h : insB n x = true) : (x.Op ≠ 1 → x.L = 0) ∧ (numB x.Op = false → x.N = 0) := by
  unfold insB at h
  by_cases q : x.Op = 1
  · exact ⟨fun w => absurd q w, fun w => by rw [q] at w; cases w⟩
  · rw [if_neg q] at h
    obtain ⟨a, b, c, d⟩ := of_decide_eq_true h
    refine ⟨fun _ => c, fun w => ?_⟩
    unfold numB at w
    have w := of_decide_eq_false w
    rw [if_neg (by omega), if_neg (by omega), if_neg (by omega)] at d
    exact d
theorem op_all : ∀ k : Fin 13, opT (wdN k.val) = (k.val : Int) := by decide
theorem op_word {x : api_Instr} (h0 : 0 ≤ x.Op) (h1 : x.Op < 13) : opT (wdN x.Op.toNat) = x.Op := by
  have := op_all ⟨x.Op.toNat, by omega⟩
  rw [this]
  show ((x.Op.toNat : Nat) : Int) = _
  omega
section
variable {T : List api_Tok} (hT : Tk T) {l : api_Lattice}
include hT
theorem mk_at {i : Nat} {s : Str} {R : List (Int × Str)} (h : (T.drop i).map kt = (3, s) :: R) : mkS T s i 0 = (i + 1, 0) := by
  obtain ⟨hi, a, b, _⟩ := at_ h
  unfold mkS
  rw [get_at hT hi, if_pos rfl, if_pos ⟨a, b⟩]
theorem num_w {i : Nat} {n : Int} (h0 : -20 ≤ n) (h1 : n ≤ 20) {R : List (Int × Str)} (h : (T.drop i).map kt = sgT n ++ R) : ∃ j : Nat, code_reader_number.f ⟨l, T, (i : Int), 0⟩ = some (⟨l, T, (j : Int), 0⟩, n) ∧ (T.drop j).map kt = R := by
  unfold sgT at h
  by_cases q : n < 0
  · rw [if_pos q] at h
    obtain ⟨hi, a, b, h2⟩ := at_ h
    obtain ⟨hi2, a2, b2, h3⟩ := at_ h2
    have hd := dec_dig (m := (0 - n).toNat) (by omega)
    obtain ⟨r1, _⟩ := read0 (y := ((⟨l, T, ((i + 1 : Nat) : Int), 0⟩ : code_reader), T[i + 1])) (m := (0 - n).toNat) (by omega) b2
    refine ⟨i + 1 + 1, ?_, h3⟩
    rw [num_neg hT hi ⟨a, b⟩ hi2, if_pos ⟨a2, by rw [b2]; exact hd.2.1⟩, r1, bsome, wrapZ (by omega) (by omega)]
    congr 2; omega
  · rw [if_neg q] at h
    obtain ⟨hi, a, b, h3⟩ := at_ h
    have hd := dec_dig (m := n.toNat) (by omega)
    obtain ⟨_, r1⟩ := read0 (y := ((⟨l, T, (i : Int), 0⟩ : code_reader), T[i])) (m := n.toNat) (by omega) b
    refine ⟨i + 1, ?_, h3⟩
    rw [num_pos hT hi (fun w => by omega), if_pos ⟨a, by rw [b]; exact hd.2.1⟩, r1, bsome, wrapZ (by omega) (by omega)]
    congr 2; omega
variable (hL : Lok l) (hC : lattice_Check.f l = some 0)
include hL hC
theorem mark_fin {i j : Nat} {x : api_Instr} {R : List (Int × Str)} (h : (T.drop j).map kt = (3, [59]) :: R) (hx : insB (l.Up.length : Int) x = true) : ((code_reader_mark.f ⟨l, T, (j : Int), 0⟩ ([59] : Str) >>= fun y9 => ((if y9.bad_ = 0 then (code_right.f (y9.l_.Up.length : Int) x >>= fun y14 => some (!y14)) else (some false) : Option Bool) >>= fun x12 => if x12 = true then (code_reader_fail.f (⟨y9.l_, y9.toks_, (i : Int), y9.bad_⟩ : code_reader) 1 >>= fun y16 => some (y16, x)) else (some (y9, x)))) : Option (code_reader × api_Instr)) = some (⟨l, T, ((j + 1 : Nat) : Int), 0⟩, x) := by
  obtain ⟨hj, _, _, _⟩ := at_ h
  rw [mark_p hT hj, bsome, mk_at hT h]
  refine (fin_p hT (i := i) (j := j + 1) (e := 0)).trans ?_
  rw [if_neg (fun q => by rw [hx] at q; cases q.2)]
theorem one_w {i : Nat} {x : api_Instr} (hx : Iok l x) (hi : insB (l.Up.length : Int) x = true) {R : List (Int × Str)} (h : (T.drop i).map kt = txT l x ++ R) : ∃ j : Nat, code_reader_one.f ⟨l, T, (i : Int), 0⟩ x.Op = some (⟨l, T, (j : Int), 0⟩, x) ∧ (T.drop j).map kt = R := by
  have hl := hT.len
  have hN : l.Names.length ≤ 1000 := by have := hL.n8; omega
  obtain ⟨f1, f2⟩ := ins_facts hi
  unfold txT at h
  obtain ⟨h0, a0, b0, h1⟩ := at_ h
  unfold code_reader_one.f
  rw [number_p, bsome]
  by_cases hn : numB x.Op = true
  · rw [if_pos hn] at h1 ⊢
    show ∃ j : Nat, (code_reader_number.f ⟨l, T, IntKind.i64.wrap ((i : Int) + 1), 0⟩ >>= _) = _ ∧ _
    rw [wS (by omega)]
    replace h1 : (T.drop (i + 1)).map kt = (sgT x.N ++ ((if x.Op = 1 then [(3, [64]), (1, nmS l x)] else []) ++ [(3, [59])])) ++ R := h1
    rw [List.append_assoc] at h1
    obtain ⟨j1, e1, h2⟩ := num_w hT (l := l) hx.n0 hx.n1 h1
    rw [e1, bsome]
    by_cases ho : x.Op = 1
    · rw [if_pos ho] at h2
      rw [if_pos ho, show (decide (((⟨l, T, (j1 : Int), 0⟩ : code_reader), x.N).1.bad_ = 0)) = true from rfl, bsome, if_pos tt]
      have h2' : (T.drop j1).map kt = (3, [64]) :: (1, nmS l x) :: (3, [59]) :: R := by rw [h2]; rfl
      obtain ⟨g0, _, _, h3⟩ := at_ h2'
      obtain ⟨g1, a1, b1, h4⟩ := at_ h3
      obtain ⟨l0, l1⟩ := hx.lb ho
      have hp : plc l.Names T[j1 + 1].Text = x.L := by
        rw [b1]; unfold nmS; rw [plc_at hL l1]; omega
      have hlab := lab_at hT hN hC g0 (mk_at hT h2') g1
      rw [if_pos rfl, if_pos a1, hp, if_neg (by omega)] at hlab
      refine ⟨j1 + 1 + 1 + 1, ?_, (at_ h4).2.2.2⟩
      show (code_reader_label.f ⟨l, T, (j1 : Int), 0⟩ >>= _) = _
      rw [hlab, bsome]
      exact mark_fin hT hL hC h4 hi
    · rw [if_neg ho] at h2
      rw [if_neg ho, bsome, if_neg ff]
      have hxl := f1 ho
      have hx2 : (⟨x.Op, x.N, 0⟩ : api_Instr) = x := by rw [← hxl]
      have h2' : (T.drop j1).map kt = (3, [59]) :: R := by rw [h2]; rfl
      refine ⟨j1 + 1, ?_, (at_ h2').2.2.2⟩
      have := mark_fin hT hL hC (i := i) (x := ⟨x.Op, x.N, 0⟩) h2' (by rw [hx2]; exact hi)
      rw [hx2] at this
      refine Eq.trans ?_ this
      rw [← hx2]
  · have ho : ¬ x.Op = 1 := fun q => hn (by rw [q]; rfl)
    rw [if_neg hn] at h1 ⊢
    rw [if_neg ho] at h1 ⊢
    have hxl := f1 ho
    have hxn := f2 (by simpa using hn)
    have hx2 : (⟨x.Op, 0, 0⟩ : api_Instr) = x := by
      obtain ⟨o, n, l⟩ := x
      simp only at hxl hxn
      rw [hxl, hxn]
    rw [bsome, if_neg ff, wS (by omega)]
    have h1' : (T.drop (i + 1)).map kt = (3, [59]) :: R := by rw [h1]; rfl
    refine ⟨i + 1 + 1, ?_, (at_ h1').2.2.2⟩
    have := mark_fin hT hL hC (i := i) (x := ⟨x.Op, 0, 0⟩) h1' (by rw [hx2]; exact hi)
    rw [hx2] at this
    refine Eq.trans ?_ this
    rw [← hx2]
theorem from_w : ∀ (c : List api_Instr), (∀ x ∈ c, Iok l x ∧ insB (l.Up.length : Int) x = true) → ∀ (acc : List api_Instr) (i : Nat), acc.length + c.length ≤ 12 → (T.drop i).map kt = c.flatMap (txT l) ++ [(0, [])] →
    ∃ (j : Nat) (hj : j < T.length), (code_From.l0 l.Names l.Up T (i : Int) 0 acc >>= tailF) = some (acc ++ c, (j : Int), 0) ∧ T[j].Kind = 0
  | [], _, acc, i, hd, h => by
    obtain ⟨hi, a, _, _⟩ := at_ h
    rw [code_From.l0, if_pos rfl, tok_p hT hi, bsome, op_p, bsome]
    show ∃ (j : Nat) (hj : j < T.length), ((if (if T[i].Kind = 1 then opT T[i].Text else -1) < 0 then _ else _) >>= tailF) = _ ∧ _
    rw [if_neg (show ¬ T[i].Kind = 1 by omega), if_pos (by decide), List.append_nil]
    exact ⟨i, hi, rfl, a⟩
  | x :: c, hc, acc, i, hd, h => by
    have hB : 1000000 ≤ big := by decide
    obtain ⟨hx, hins⟩ := hc x (List.mem_cons_self ..)
    rw [List.flatMap_cons, List.append_assoc] at h
    obtain ⟨j, e1, h2⟩ := one_w hT hL hC hx hins h
    have h' := h
    unfold txT at h'
    obtain ⟨hi, a, b, _⟩ := at_ h'
    have hop : opT T[i].Text = x.Op := by rw [b, op_word hx.o0 hx.o1]
    rw [code_From.l0, if_pos rfl, tok_p hT hi, bsome, op_p, bsome]
    show ∃ (j : Nat) (hj : j < T.length), ((if (if T[i].Kind = 1 then opT T[i].Text else -1) < 0 then _ else (if (acc.length : Int) = 12 then _ else (code_reader_one.f ⟨l, T, (i : Int), 0⟩ (if T[i].Kind = 1 then opT T[i].Text else -1) >>= _))) >>= tailF) = _ ∧ _
    have h0 := hx.o0
    simp only [List.length_cons] at hd
    rw [if_pos a, hop, if_neg (by omega), if_neg (by omega), e1, bsome, if_pos (by simp; omega)]
    have := from_w c (fun y hy => hc y (List.mem_cons_of_mem _ hy)) (acc ++ [x]) j (by simp; omega) h2
    rw [List.append_assoc] at this
    exact this
end
/-! Texts. -/
theorem lex_end {s : Str} : ∃ r j e, lex_Lex.f s = some (r, j, e) ∧ (e = 0 → ∃ L, r = L ++ [⟨0, [], (s.length : Int)⟩] ∧ r.length ≤ 200) := by
  unfold lex_Lex.f
  by_cases h : (s.length : Int) > 2000
  · rw [if_pos h]; exact ⟨_, _, _, rfl, fun h => by cases h⟩
  · rw [if_neg h]
    have hB : 1000000 ≤ big := by decide
    rcases lex_any_l0 (s := s) (by omega) s.length 0 [] (by omega) (by omega) (by simp) (fun t h => by cases h) with ⟨q, e1⟩ | ⟨L, e1, hl, _⟩
    · rw [show ((0 : Nat) : Int) = 0 from rfl] at e1
      rw [e1, bsome]; exact ⟨_, _, _, rfl, fun h => by cases h⟩
    · rw [show ((0 : Nat) : Int) = 0 from rfl] at e1
      rw [e1, bsome]
      dsimp only
      have hb : (L.length + ([(⟨0, [], (s.length : Int)⟩ : api_Tok)] : List api_Tok).length) * 32 ≤ big := by simp; omega
      rw [if_pos hb]
      by_cases q : ((L ++ [(⟨0, [], (s.length : Int)⟩ : api_Tok)]).length : Int) > 200
      · rw [if_pos q]; exact ⟨_, _, _, rfl, fun h => by cases h⟩
      · rw [if_neg q]; exact ⟨_, _, _, rfl, fun _ => ⟨L, rfl, by omega⟩⟩
theorem last0 {L : List api_Tok} {a : Int} (h : (L ++ [(⟨0, [], a⟩ : api_Tok)]).length ≤ 1000) : IntKind.i64.wrap (((L ++ [(⟨0, [], a⟩ : api_Tok)]).length : Int) - 1) = ((L.length : Nat) : Int) ∧ lAt (L ++ [(⟨0, [], a⟩ : api_Tok)]) ((L.length : Nat) : Int) = some ⟨0, [], a⟩ := by
  have h' : L.length + 1 ≤ 1000 := by simpa using h
  constructor
  · rw [wrapZ (by simp only [List.length_append, List.length_cons, List.length_nil]; omega) (by simp only [List.length_append, List.length_cons, List.length_nil]; omega)]; simp
  · rw [lAt_some (by simp)]; simp
theorem from_f {l : api_Lattice} (hC : lattice_Check.f l = some 0) {L : List api_Tok} {a : Int} (h : (L ++ [(⟨0, [], a⟩ : api_Tok)]).length ≤ 1000) : code_From.f l (L ++ [⟨0, [], a⟩]) 0 = (code_From.l0 l.Names l.Up (L ++ [⟨0, [], a⟩]) 0 0 [] >>= tailF) := by
  obtain ⟨w, e⟩ := last0 h
  unfold code_From.f
  rw [hC, bsome, if_pos rfl, if_neg (show ¬ (0 : Int) < 0 by decide), if_neg (show ¬ (0 : Int) ≥ ((L ++ [(⟨0, [], a⟩ : api_Tok)]).length : Int) by simp only [List.length_append, List.length_cons, List.length_nil]; omega), w, e, bsome]
  rfl
theorem parse_any {l : api_Lattice} {U : List Nat} (h : Nm l U) (s : Str) : ∃ (out : List api_Instr) (a e : Int), code_Parse.f l s = some (out, a, e) ∧ (e ≠ 0 → out = []) ∧ (e = 0 → chk l U = 0 ∧ rightB (l.Up.length : Int) out = true) := by
  unfold code_Parse.f
  rw [check_eq h, bsome]
  by_cases hc : chk l U = 0
  · rw [if_pos hc]
    have hC : lattice_Check.f l = some 0 := by rw [check_eq h, hc]
    have hN : l.Names.length ≤ 1000 := by have := h.nl; omega
    obtain ⟨r, a, e, h1, h3⟩ := lex_end (s := s)
    rw [h1, bsome]
    by_cases he : e = 0
    · obtain ⟨L, rfl, hL⟩ := h3 he
      have hT := tk_of (L := L) (a := (s.length : Int)) (by omega)
      obtain ⟨out, j, e2, q1, hj, hx, hr⟩ := from_any hT hN hC 12 [] 0 rfl hT.pos rfl
      rw [show ((0 : Nat) : Int) = 0 from rfl] at q1
      rw [if_pos he, from_f hC (by omega), q1, bsome, lAt_some hj]
      by_cases he2 : e2 = 0
      · rw [if_pos he2, bsome]
        obtain ⟨r1, r2⟩ := hr he2
        by_cases hk : (L ++ [(⟨0, [], (s.length : Int)⟩ : api_Tok)])[j].Kind = 0
        · rw [if_pos hk]
          refine ⟨_, _, _, rfl, fun q => absurd rfl q, fun _ => ⟨hc, ?_⟩⟩
          unfold rightB; rw [decide_eq_true r1, r2]; rfl
        · rw [if_neg hk]; exact ⟨_, _, _, rfl, fun _ => rfl, fun q => by cases q⟩
      · rw [if_neg he2, bsome]; exact ⟨_, _, _, rfl, fun _ => rfl, fun q => absurd q he2⟩
    · rw [if_neg he]; exact ⟨_, _, _, rfl, fun _ => rfl, fun q => absurd q he⟩
  · rw [if_neg hc]; exact ⟨_, _, _, rfl, fun _ => rfl, fun q => absurd q hc⟩
theorem txi_short {l : api_Lattice} (hL : Lok l) {x : api_Instr} (h : Iok l x) : (txi l x).length ≤ 28 ∧ (txT l x).length ≤ 6 := by
  have a := wdi_len (k := x.Op.toNat) (by have := h.o0; have := h.o1; omega)
  have b := sg_len h.n0 h.n1
  have sT : (sgT x.N).length ≤ 2 := by unfold sgT; split <;> simp
  constructor
  · unfold txi
    by_cases ho : x.Op = 1
    · obtain ⟨_, hi⟩ := h.lb ho
      have hm : l.Names.getD x.L.toNat [] ∈ l.Names := by rw [show l.Names.getD x.L.toNat [] = l.Names[x.L.toNat] by simp [hi]]; exact List.getElem_mem hi
      have c := hL.len _ hm
      rw [if_pos ho]
      split <;> simp only [List.length_append, List.length_cons, List.length_nil] <;> omega
    · rw [if_neg ho]
      split <;> simp only [List.length_append, List.length_cons, List.length_nil] <;> omega
  · unfold txT
    split <;> split <;> simp only [List.length_append, List.length_cons, List.length_nil] <;> omega
theorem flat_lenT {l : api_Lattice} (hL : Lok l) : ∀ {c : List api_Instr}, (∀ x ∈ c, Iok l x) → (c.flatMap (txT l)).length ≤ 6 * c.length
  | [], _ => by simp
  | x :: c, h => by
    have a := (txi_short hL (h x (List.mem_cons_self ..))).2
    have b := flat_lenT hL (c := c) fun y hy => h y (List.mem_cons_of_mem _ hy)
    rw [List.flatMap_cons, List.length_append, List.length_cons]; omega
theorem parse_w {l : api_Lattice} {U : List Nat} (h : Nm l U) (hc : chk l U = 0) {c : List api_Instr} (hr : rightB (l.Up.length : Int) c = true) : code_Parse.f l (txt l c) = some (c, 0, 0) := by
  obtain ⟨h12, hok, hN⟩ := oks h hc hr
  have hL := lok_of h hc
  have hC : lattice_Check.f l = some 0 := by rw [check_eq h, hc]
  have hall : c.all (insB (l.Up.length : Int)) = true := by
    unfold rightB at hr; rw [Bool.and_eq_true] at hr; exact hr.2
  have h1 := join_len (sep := [32]) (n := 28) (xs := c.map (txi l)) (fun s hs => by
    obtain ⟨x, hxm, rfl⟩ := List.mem_map.1 hs
    exact (txi_short hL (hok x hxm)).1)
  have h2 : (c.map (txi l)).length ≤ 12 := by rw [List.length_map]; exact h12
  have h3 : (txt l c).length ≤ 348 := Nat.le_trans h1 (Nat.mul_le_mul_right _ h2)
  have h4 := flat_lenT hL hok
  obtain ⟨ts, e1, e2⟩ := lex_eq (text_lex hL hok) (by omega) (by omega)
  have hlen : ts.length ≤ 72 := by rw [← List.length_map (f := kt), e2]; omega
  have hT := tk_of (L := ts) (a := ((txt l c).length : Int)) (by simp; omega)
  obtain ⟨j, hj, q1, q2⟩ := from_w hT hL hC c (fun x hx => ⟨hok x hx, List.all_eq_true.1 hall x hx⟩) [] 0 (by simpa using h12) (by rw [List.drop_zero, List.map_append, e2]; rfl)
  rw [show ((0 : Nat) : Int) = 0 from rfl, List.nil_append] at q1
  unfold code_Parse.f
  rw [hC, bsome, if_pos rfl, e1, bsome, if_pos rfl, from_f hC (by simp; omega), q1, bsome, if_pos rfl, lAt_some hj, bsome, if_pos q2]
theorem alive08 : reticentlaw08_alive.f = some true := reticentlaw08_alive.f_le 60 _ (by kernel_rfl)
/-- What is read, written, and read again. -/
theorem again {l : api_Lattice} {U : List Nat} (h : Nm l U) (s : Str) : (code_Parse.f l s >>= fun y39 => if y39.2.2 = 0 then (code_Text.f l y39.1 >>= fun y41 => code_Parse.f l y41.1 >>= fun y42 => ((reticentlaw08_alive.f >>= fun y51 => if y51 = true then (code_Right.f l y39.1 >>= fun y53 => if y53 = true then (if y41.2 = 0 then (if y42.2.2 = 0 then (reticentref08_Same.f y39.1 y42.1 >>= fun y57 => some y57) else (some false)) else (some false)) else (some false)) else (some false) : Option Bool) >>= fun x50 => some x50)) else (((reticentlaw08_alive.f >>= fun y61 => if y61 = true then (some (decide ((y39.1.length : Int) = 0))) else (some false) : Option Bool) >>= fun x60 => some x60))) = some true := by
  obtain ⟨out, a, e, q1, q2, q3⟩ := parse_any h s
  rw [q1, bsome, alive08]
  by_cases he : e = 0
  · obtain ⟨hc, hr⟩ := q3 he
    have h12 := (oks h hc hr).1
    rw [if_pos he]
    show ((code_Text.f l out >>= _) : Option Bool) = _
    rw [text_p h (by omega), if_pos hc, if_pos hr, bsome]
    show ((code_Parse.f l (txt l out) >>= _) : Option Bool) = _
    rw [parse_w h hc hr, bsome, bsome, if_pos tt]
    show (((code_Right.f l out >>= _) : Option Bool) >>= _) = _
    rw [pright_eq h (by omega), bsome, decide_eq_true hc, hr]
    show (((if (true && true) = true then (if (0 : Int) = 0 then (if (0 : Int) = 0 then (reticentref08_Same.f out out >>= _) else _) else _) else _) : Option Bool) >>= _) = _
    rw [if_pos (show (true && true) = true from rfl), if_pos rfl, if_pos rfl, same_self (by omega)]
    rfl
  · rw [if_neg he, bsome, if_pos tt, q2 he]
    rfl
theorem back {l : api_Lattice} {a : List api_Instr} {s : Str} (hl : ∃ H cs, (kR f_api_Lattice).reps H cs l) : reticentlaw08_CodeBack.f l a s = some true := by
  obtain ⟨l', U, e, h⟩ := few_eq hl
  unfold reticentlaw08_CodeBack.f
  rw [e, bsome, show (15 : Int) = ((15 : Nat) : Int) from rfl, show (2010 : Int) = ((2010 : Nat) : Int) from rfl, if_pos cutok, if_pos cutok]
  have ha := lcut_le (a := a) (n := 15)
  generalize lCut a 0 (if ((15 : Nat) : Int) < (a.length : Int) then ((15 : Nat) : Int) else (a.length : Int)) = A at ha ⊢
  generalize sCut s 0 _ = S
  have hag := again h S
  rw [text_p h (by omega), bsome]
  by_cases hc : chk l' U = 0
  · rw [if_pos hc]
    cases hr : rightB (l'.Up.length : Int) A with
    | false =>
      rw [if_neg ff]
      show (if (1 : Int) = 0 then _ else _) = _
      rw [if_neg (by decide : ¬ (1 : Int) = 0)]
      exact hag
    | true =>
      rw [if_pos rfl]
      show ((code_Parse.f l' (txt l' A) >>= _) : Option Bool) = _
      rw [parse_w h hc hr, bsome]
      show (((if (0 : Int) = 0 then (if (0 : Int) = 0 then (reticentref08_Same.f A A >>= _) else _) else _) : Option Bool) >>= _) = _
      rw [if_pos rfl, if_pos rfl, same_self (by omega), bsome, bsome, if_neg (by decide)]
      exact hag
  · rw [if_neg hc]
    show (if chk l' U = 0 then _ else _) = _
    rw [if_neg hc]
    exact hag
end Go.Proofs.YtkmobcaobmchpaaDoor.Ck
