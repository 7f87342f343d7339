/- What a rule's text is. -/
import Derived.Test.YtjkijjhjffodcaaPr5
set_option linter.unusedVariables false
set_option linter.unusedSimpArgs false
namespace Go.Proofs.Ytjkijjhjffodcaa.Par.Psh
open Go Go.Proofs.Ytjkijjhjffodcaa.Ab Go.Proofs.Ytjkijjhjffodcaa.LF
open Go.Proofs.Ytjkijjhjffodcaa.Lat (lAt_some)
def pc (t : Tr) : show_piece := ⟨(tx t).1, bd t.op, (tx t).2⟩
theorem word_lf {op : Int} (h : LfOp op) : show_word.f op = some (wd op, 3, false) := by
  rcases h with rfl | rfl | rfl | rfl | rfl | rfl | rfl | rfl <;> decide
theorem word_nd {op : Int} (h : NdOp op) : show_word.f op = some (wd op, bd op, true) := by
  rcases h with rfl | rfl | rfl | rfl | rfl <;> decide
theorem bd_lf {op : Int} (h : LfOp op) : bd op = 3 := by
  rcases h with rfl | rfl | rfl | rfl | rfl | rfl | rfl | rfl <;> decide
theorem put_eq {P : List show_piece} {x : show_piece} (h : P.length ≤ 1000) : show_pile_show_piece_put.f ⟨P⟩ x = some ⟨P ++ [x]⟩ := by
  unfold show_pile_show_piece_put.f
  have hB : 200000 ≤ big := by decide
  have : (P.length + ([x] : List show_piece).length) * 32 ≤ big := by simp; omega
  exact if_pos this
theorem take_pile {P : List show_piece} {x : show_piece} (h : P.length ≤ 1000) : show_pile_show_piece_take.f ⟨P ++ [x]⟩ = some (⟨P⟩, x) := by
  unfold show_pile_show_piece_take.f
  have e1 := lAt_last (l := P) (x := x)
  have hlen : (P ++ [x]).length = P.length + 1 := by simp
  have e2 : (P ++ [x]).take ((((P ++ [x]).length : Nat) : Int) - 1).toNat = P := by
    rw [hlen, show ((((P.length + 1 : Nat) : Int) - 1).toNat) = P.length by simp, List.take_left]
  show (lAt (P ++ [x]) (IntKind.i64.wrap (((P ++ [x]).length : Int) - 1)) >>= fun y1 => _) = _
  rw [w1 (by omega), e1]
  simp only [Option.bind_eq_bind, Option.bind_some]
  rw [if_pos (by rw [hlen]; omega), e2]
theorem within_eq {p : show_piece} {op least : Int} {o c : Str} (hlen : p.text_.length ≤ 100000) (hd : 0 ≤ p.deep_ ∧ p.deep_ ≤ 100000) (ho : o = (if lab op then [91] else [40])) (hc : c = (if lab op then [93] else [41])) :
    ∃ q, show_within.f p least o c = some q ∧ (q.text_, q.deep_) = wi op p.binds_ least (p.text_, p.deep_) := by
  unfold show_within.f wi
  by_cases h : p.binds_ ≥ least
  · exact ⟨p, by rw [if_pos h], by rw [if_pos h]⟩
  · have lo : o.length = 1 := by rw [ho]; cases lab op <;> rfl
    have lc : c.length = 1 := by rw [hc]; cases lab op <;> rfl
    rw [if_neg h, if_neg h, if_pos (by omega), if_pos (by rw [List.length_append]; omega)]
    refine ⟨_, rfl, ?_⟩
    show (o ++ p.text_ ++ c, IntKind.i64.wrap (p.deep_ + 1)) = _
    rw [wrapZ (by omega) (by omega), ho, hc]
    cases lab op <;> rfl
theorem wrapB {op : Int} : IntKind.i64.wrap (bd op + 1) = bd op + 1 := by
  have : 0 ≤ bd op ∧ bd op ≤ 3 := by unfold bd; repeat' split <;> omega
  exact wrapZ (by omega) (by omega)
theorem text_nd {l : List Int} {P : List show_piece} {op : Int} {x y : Tr} {k : Nat} (hk : k < l.length) (hop : l[k] = op) (ho : NdOp op) (hl : l.length ≤ 900) (hP : P.length ≤ 900) (hx : x.size ≤ 900) (hy : y.size ≤ 900) :
    show_Text.l0 l (P ++ [pc x] ++ [pc y]) (k : Int) = show_Text.l0 l (P ++ [pc (.nd op x y)]) ((k + 1 : Nat) : Int) := by
  obtain ⟨a1, a2, a3⟩ := tx_len x
  obtain ⟨b1, b2, b3⟩ := tx_len y
  have hw := wd_len op
  rw [show_Text.l0, if_pos (by omega), lAt_some hk, hop, wS (by omega)]
  simp only [Option.bind_eq_bind, Option.bind_some]
  rw [word_nd ho]
  simp only [Option.bind_eq_bind, Option.bind_some]
  rw [if_neg (show ¬ ((!true) = true) by decide), take_pile (P := P ++ [pc x]) (by simp; omega)]
  simp only [Option.bind_eq_bind, Option.bind_some]
  rw [take_pile (P := P) (by omega)]
  simp only [Option.bind_eq_bind, Option.bind_some]
  by_cases h5 : op = 5
  · subst h5
    have e : tx (.nd 5 x y) = (((((tx x).1 ++ [32]) ++ wd 5) ++ [32]) ++ (tx y).1, if (tx x).2 < (tx y).2 then (tx y).2 else (tx x).2) := rfl
    simp only [pc, put_eq (show P.length ≤ 1000 by omega)]
    rw [if_pos (show ((tx x).1.length + ([32] : Str).length : Int) ≤ 9223372036854775807 by simp; omega), if_pos (show (((tx x).1 ++ ([32] : Str)).length + (wd 5).length : Int) ≤ 9223372036854775807 by simp; omega), if_pos (show ((((tx x).1 ++ ([32] : Str)) ++ wd 5).length + ([32] : Str).length : Int) ≤ 9223372036854775807 by simp; omega), if_pos (show (((((tx x).1 ++ ([32] : Str)) ++ wd 5) ++ ([32] : Str)).length + (tx y).1.length : Int) ≤ 9223372036854775807 by simp; omega)]
    by_cases q : (tx x).2 < (tx y).2 <;> simp [e, Tr.op, q]
  · have hX := within_eq (p := pc x) (op := op) (least := bd op) (o := if lab op then [91] else [40]) (c := if lab op then [93] else [41]) (by show (tx x).1.length ≤ _; omega) (by show 0 ≤ (tx x).2 ∧ (tx x).2 ≤ _; omega) rfl rfl
    have hY := within_eq (p := pc y) (op := op) (least := bd op + 1) (o := if lab op then [91] else [40]) (c := if lab op then [93] else [41]) (by show (tx y).1.length ≤ _; omega) (by show 0 ≤ (tx y).2 ∧ (tx y).2 ≤ _; omega) rfl rfl
    obtain ⟨X, eX, tX⟩ := hX
    obtain ⟨Y, eY, tY⟩ := hY
    have lX := wi_len (op := op) (b := (pc x).binds_) (least := bd op) (p := ((pc x).text_, (pc x).deep_)) (n := x.size) a1 ⟨a2, a3⟩
    have lY := wi_len (op := op) (b := (pc y).binds_) (least := bd op + 1) (p := ((pc y).text_, (pc y).deep_)) (n := y.size) b1 ⟨b2, b3⟩
    rw [← tX] at lX
    rw [← tY] at lY
    have e : tx (.nd op x y) = ((((X.text_ ++ [32]) ++ wd op) ++ [32]) ++ Y.text_, if X.deep_ < Y.deep_ then Y.deep_ else X.deep_) := by
      show (_, _) = _
      simp only [if_neg h5]
      rw [show wi op (bd x.op) (bd op) (tx x) = (X.text_, X.deep_) from tX.symm, show wi op (bd y.op) (bd op + 1) (tx y) = (Y.text_, Y.deep_) from tY.symm]
    have c1 : (X.text_.length + ([32] : Str).length : Int) ≤ 9223372036854775807 := by simp; simp at lX; omega
    have c2 : ((X.text_ ++ ([32] : Str)).length + (wd op).length : Int) ≤ 9223372036854775807 := by simp; simp at lX; omega
    have c3 : (((X.text_ ++ ([32] : Str)) ++ wd op).length + ([32] : Str).length : Int) ≤ 9223372036854775807 := by simp; simp at lX; omega
    have c4 : ((((X.text_ ++ ([32] : Str)) ++ wd op) ++ ([32] : Str)).length + Y.text_.length : Int) ≤ 9223372036854775807 := by simp; simp at lX lY; omega
    rw [wrapB]
    cases hlab : lab op with
    | true =>
      have : op = 12 ∨ op = 13 := of_decide_eq_true hlab
      rw [hlab] at eX eY
      simp only [if_true] at eX eY
      have hc : ((if op = 12 then some true else some (decide (op = 13)) : Option Bool)) = some true := by rcases this with rfl | rfl <;> rfl
      have eX' : show_within.f (⟨(pc x).text_, (pc x).binds_, (pc x).deep_⟩ : show_piece) (bd op) [91] [93] = some X := eX
      have eY' : show_within.f (⟨(pc y).text_, (pc y).binds_, (pc y).deep_⟩ : show_piece) (bd op + 1) [91] [93] = some Y := eY
      rw [hc]
      rw [Option.bind_some]
      rw [if_pos rfl, if_neg h5, eX']
      rw [Option.bind_some]
      rw [eY']
      rw [Option.bind_some]
      rw [if_pos c1, if_pos c2, if_pos c3, if_pos c4, put_eq (show P.length ≤ 1000 by omega), Option.bind_some, Option.bind_some]
      simp [pc, e, Tr.op]
    | false =>
      have : ¬ (op = 12 ∨ op = 13) := of_decide_eq_false hlab
      rw [hlab] at eX eY
      simp only [Bool.false_eq_true, if_false] at eX eY
      have hc : ((if op = 12 then some true else some (decide (op = 13)) : Option Bool)) = some false := by
        rw [if_neg (fun q => this (.inl q)), decide_eq_false (fun q => this (.inr q))]
      have eX' : show_within.f (⟨(pc x).text_, (pc x).binds_, (pc x).deep_⟩ : show_piece) (bd op) [40] [41] = some X := eX
      have eY' : show_within.f (⟨(pc y).text_, (pc y).binds_, (pc y).deep_⟩ : show_piece) (bd op + 1) [40] [41] = some Y := eY
      rw [hc]
      rw [Option.bind_some]
      rw [if_neg (show ¬ (false = true) by decide), if_neg h5, eX']
      rw [Option.bind_some]
      rw [eY']
      rw [Option.bind_some]
      rw [if_pos c1, if_pos c2, if_pos c3, if_pos c4, put_eq (show P.length ≤ 1000 by omega), Option.bind_some, Option.bind_some]
      simp [pc, e, Tr.op]
theorem text_l0 {l : List Int} (hl : l.length ≤ 900) : ∀ (t : Tr), t.ok → ∀ (P : List show_piece) (k : Nat) (r : List Int), l.drop k = t.flat ++ r → P.length ≤ k →
    show_Text.l0 l P (k : Int) = show_Text.l0 l (P ++ [pc t]) ((k + t.size : Nat) : Int)
  | .lf op, ho, P, k, r, e, hP => by
    have hk : k < l.length := by
      rcases Nat.lt_or_ge k l.length with q | q
      · exact q
      · rw [List.drop_of_length_le q] at e; simp [Tr.flat] at e
    rw [List.drop_eq_getElem_cons hk] at e
    simp only [Tr.flat, List.cons_append, List.nil_append, List.cons.injEq] at e
    rw [show_Text.l0, if_pos (by omega), lAt_some hk, e.1, wS (by omega)]
    simp only [Option.bind_eq_bind, Option.bind_some]
    rw [word_lf ho]
    simp only [Option.bind_eq_bind, Option.bind_some]
    rw [put_eq (by omega)]
    simp [pc, tx, Tr.op, bd_lf ho, Tr.size]
  | .nd op x y, ho, P, k, r, e, hP => by
    have hlen : (l.drop k).length = x.size + y.size + 1 + r.length := by rw [e, List.length_append, flat_len]; rfl
    rw [List.length_drop] at hlen
    have e1 : l.drop k = x.flat ++ (y.flat ++ ([op] ++ r)) := by rw [e]; simp [Tr.flat]
    rw [text_l0 hl x ho.2.1 P k _ e1 hP]
    have e2 : l.drop (k + x.size) = y.flat ++ ([op] ++ r) := by
      rw [← List.drop_drop, e1, ← flat_len x, List.drop_left]
    rw [text_l0 hl y ho.2.2 (P ++ [pc x]) (k + x.size) _ e2 (by have : 1 ≤ x.size := by cases x <;> simp [Tr.size]
                                                                simp; omega)]
    have e3 : l.drop (k + x.size + y.size) = [op] ++ r := by
      rw [← List.drop_drop, e2, ← flat_len y, List.drop_left]
    have hk : k + x.size + y.size < l.length := by omega
    rw [List.drop_eq_getElem_cons hk] at e3
    simp only [List.cons_append, List.nil_append, List.cons.injEq] at e3
    rw [text_nd hk e3.1 ho.1 hl (by omega) (by omega) (by omega)]
    have e4 : k + x.size + y.size + 1 = k + (Tr.nd op x y).size := by show _ = k + (x.size + y.size + 1); omega
    rw [e4]
def ans (t : Tr) : Str × Int := if (tx t).2 > 12 then ([], 5) else ((tx t).1, 0)
theorem text_eq {l : List Int} (hl : l.length ≤ 900) : show_Text.f l = some (match right l with | none => ([], 1) | some _ => (match show_Text.f l with | some p => p | none => ([], 0))) ∧ ∀ t : Tr, t.ok → t.flat = l → right l ≠ none → show_Text.f l = some (ans t) := by
  have hR : ((rule_Right.f l false >>= fun y5 => if (!y5) = true then (rule_Right.f l true >>= fun y7 => some (!y7)) else (some false) : Option Bool)) = some (right l).isNone := by
    rw [Right_eq hl, Right_eq hl]
    cases right l with
    | none => rfl
    | some b => cases b <;> rfl
  have key : ∀ t : Tr, t.ok → t.flat = l → right l ≠ none → show_Text.f l = some (ans t) := by
    intro t ho e hr
    unfold show_Text.f
    rw [hR, bsome]
    have hn : (right l).isNone = false := by cases h : right l with | none => exact absurd h hr | some _ => rfl
    rw [hn, if_neg (by decide)]
    have h := text_l0 hl t ho [] 0 [] (by simp [e]) (by simp)
    rw [show ((0 : Nat) : Int) = 0 from rfl] at h
    rw [h, show 0 + t.size = l.length by rw [← e, flat_len]; omega]
    rw [show_Text.l0, if_neg (by omega), bsome, take_pile (by simp), bsome]
    unfold ans
    show (if (tx t).2 > 12 then _ else _) = _
    by_cases q : (tx t).2 > 12
    · rw [if_pos q, if_pos q]
    · rw [if_neg q, if_neg q]; rfl
  refine ⟨?_, key⟩
  cases hr : right l with
  | none =>
    unfold show_Text.f
    rw [hR, bsome, hr]; rfl
  | some b =>
    obtain ⟨t, ho, e, _⟩ := right_tree hr
    rw [key t ho e (by rw [hr]; simp)]
end Go.Proofs.Ytjkijjhjffodcaa.Par.Psh
