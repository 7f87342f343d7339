/- Programs: what is written is read as the same. -/
import Derived.Test.YtkmobcaobmchpaaDoorCk1
set_option linter.unusedVariables false
set_option linter.unusedSimpArgs false
set_option linter.unusedSectionVars false
namespace Go.Proofs.YtkmobcaobmchpaaDoor.Ck
open Go Go.Proofs.YtkmobcaobmchpaaDoor.Ab Go.Proofs.YtkmobcaobmchpaaDoor.CK
/-! Numerals of one or two digits. -/
def d1 (m : Nat) : UInt8 := UInt8.ofNat (48 + m)
theorem dec_one {m : Nat} (h : m < 10) : Lib.decDigits m = [d1 m] := by
  unfold Lib.decDigits; rw [dif_pos h]; rfl
theorem dec_two {m : Nat} (h : ¬ m < 10) (h2 : m < 100) : Lib.decDigits m = [d1 (m / 10), d1 (m % 10)] := by
  unfold Lib.decDigits; rw [dif_neg h, dec_one (by omega)]; rfl
theorem d1_val : ∀ m : Fin 10, IntKind.i64.wrap (bAnd .u8 ((d1 m.val).toNat : Int) 15) = (m.val : Int) ∧ digP ((d1 m.val).toNat : Int) = true := by decide
theorem d1_v {m : Nat} (h : m < 10) : IntKind.i64.wrap (bAnd .u8 ((d1 m).toNat : Int) 15) = (m : Int) := (d1_val ⟨m, h⟩).1
theorem d1_d {m : Nat} (h : m < 10) : digP ((d1 m).toNat : Int) = true := (d1_val ⟨m, h⟩).2
theorem dec_dig {m : Nat} (h : m < 100) : Lib.decDigits m ≠ [] ∧ (Lib.decDigits m).length ≤ 4 ∧ ∀ c ∈ Lib.decDigits m, digP (c.toNat : Int) = true := by
  by_cases q : m < 10
  · rw [dec_one q]; exact ⟨by simp, by simp, fun c hc => by simp at hc; subst hc; exact d1_d q⟩
  · rw [dec_two q h]
    refine ⟨by simp, by simp, fun c hc => ?_⟩
    simp at hc
    rcases hc with rfl | rfl
    · exact d1_d (by omega)
    · exact d1_d (by omega)
theorem read0 {y : code_reader × api_Tok} {m : Nat} (h : m < 100) (ht : y.2.Text = Lib.decDigits m) : code_reader_number.l0 y 0 0 = some (m : Int) ∧ code_reader_number.l1 y 0 0 = some (m : Int) := by
  have w0 : IntKind.i64.wrap (10 * 0) = 0 := by decide
  have s01 : IntKind.i64.wrap (0 + 1) = 1 := by decide
  have s12 : IntKind.i64.wrap (1 + 1) = 2 := by decide
  by_cases q : m < 10
  · rw [dec_one q] at ht
    have a0 : sAt y.2.Text 0 = ((d1 m).toNat : Int) := by rw [ht]; rfl
    have hl : (y.2.Text.length : Int) = 1 := by rw [ht]; rfl
    have v := d1_v q
    have f : IntKind.i64.wrap (0 + (m : Int)) = m := by rw [wrapZ (by omega) (by omega)]; omega
    constructor
    · rw [code_reader_number.l0, hl, if_pos (by decide), if_pos (by decide), a0, v, w0, f, s01, code_reader_number.l0, hl, if_neg (by decide)]
    · rw [code_reader_number.l1, hl, if_pos (by decide), if_pos (by decide), a0, v, w0, f, s01, code_reader_number.l1, hl, if_neg (by decide)]
  · rw [dec_two q h] at ht
    have a0 : sAt y.2.Text 0 = ((d1 (m / 10)).toNat : Int) := by rw [ht]; rfl
    have a1 : sAt y.2.Text 1 = ((d1 (m % 10)).toNat : Int) := by rw [ht]; rfl
    have hl : (y.2.Text.length : Int) = 2 := by rw [ht]; rfl
    have v0 := d1_v (m := m / 10) (by omega)
    have v1 := d1_v (m := m % 10) (by omega)
    have f : IntKind.i64.wrap (0 + ((m / 10 : Nat) : Int)) = ((m / 10 : Nat) : Int) := by rw [wrapZ (by omega) (by omega)]; omega
    have f2 : IntKind.i64.wrap (IntKind.i64.wrap (10 * ((m / 10 : Nat) : Int)) + ((m % 10 : Nat) : Int)) = (m : Int) := by
      rw [wrapZ (x := 10 * ((m / 10 : Nat) : Int)) (by omega) (by omega), wrapZ (by omega) (by omega)]; omega
    constructor
    · rw [code_reader_number.l0, hl, if_pos (by decide), if_pos (by decide), a0, v0, w0, f, s01, code_reader_number.l0, hl, if_pos (by decide), if_pos (by decide), a1, v1, f2, s12, code_reader_number.l0, hl, if_neg (by decide)]
    · rw [code_reader_number.l1, hl, if_pos (by decide), if_pos (by decide), a0, v0, w0, f, s01, code_reader_number.l1, hl, if_pos (by decide), if_pos (by decide), a1, v1, f2, s12, code_reader_number.l1, hl, if_neg (by decide)]
/-! Tokens of an instruction. -/
def sgT (n : Int) : List (Int × Str) := if n < 0 then [(3, [45]), (2, Lib.decDigits (0 - n).toNat)] else [(2, Lib.decDigits n.toNat)]
def nmS (l : api_Lattice) (x : api_Instr) : Str := l.Names.getD x.L.toNat []
def txT (l : api_Lattice) (x : api_Instr) : List (Int × Str) := (1, wdN x.Op.toNat) :: ((if numB x.Op = true then sgT x.N else []) ++ ((if x.Op = 1 then [(3, [64]), (1, nmS l x)] else []) ++ [(3, [59])]))
/-- What a lattice's names are, that is one. -/
structure Lok (l : api_Lattice) : Prop where
  word : ∀ s ∈ l.Names, s ≠ [] ∧ ∀ c ∈ s, letP (c.toNat : Int) = true
  len : ∀ s ∈ l.Names, s.length ≤ 12
  uniq : ∀ (i j : Nat), i < l.Names.length → j < i → l.Names.getD j [] ≠ l.Names.getD i []
  n8 : l.Names.length ≤ 8
theorem nameOk_spec {s : Str} (h : nameOk s = true) : s ≠ [] ∧ s.length ≤ 12 ∧ ∀ c ∈ s, letP (c.toNat : Int) = true := by
  unfold nameOk at h
  rw [Bool.and_eq_true, Bool.and_eq_true] at h
  obtain ⟨h1, h2, h3⟩ := h
  refine ⟨by simpa using h2, of_decide_eq_true h3, fun c hc => ?_⟩
  have h1' : ¬ ∃ k, k < s.length ∧ far s k = true := by simpa using h1
  obtain ⟨k, hk, e⟩ := List.mem_iff_getElem.1 hc
  have hf : ¬ far s k = true := fun q => h1' ⟨k, hk, q⟩
  unfold far at hf
  rw [sAt_get hk, e] at hf
  unfold letP
  simp at hf ⊢
  omega
theorem lok_of {l : api_Lattice} {U : List Nat} (h : Nm l U) (hc : chk l U = 0) : Lok l := by
  have hm : May l U := by
    unfold chk at hc
    by_cases q : May l U
    · exact q
    · rw [if_pos q] at hc; cases hc
  have hb : ∀ i, i < U.length → badM l.Names U i = false := fun i hi => by
    cases q : badM l.Names U i with
    | false => rfl
    | true => exact absurd ⟨i, hi, q⟩ hm.ok
  have hn := hm.nm
  have key : ∀ i, i < l.Names.length → nameOk (l.Names.getD i []) = true ∧ ¬ l.Names.getD i [] ∈ l.Names.take i := by
    intro i hi
    have := hb i (by omega)
    unfold badM at this
    rw [Bool.or_eq_false_iff, Bool.or_eq_false_iff] at this
    exact ⟨by simpa using this.1, by simpa using this.2.1⟩
  have hw : ∀ s ∈ l.Names, nameOk s = true := fun s hs => by
    obtain ⟨i, hi, e⟩ := List.mem_iff_getElem.1 hs
    have := (key i hi).1
    rwa [show l.Names.getD i [] = s by simp [hi, e]] at this
  refine ⟨fun s hs => ⟨(nameOk_spec (hw s hs)).1, (nameOk_spec (hw s hs)).2.2⟩, fun s hs => (nameOk_spec (hw s hs)).2.1, fun i j hi hj e => ?_, by have := hm.le8; omega⟩
  refine (key i hi).2 ?_
  rw [← e]
  have hj' : j < l.Names.length := by omega
  rw [show l.Names.getD j [] = l.Names[j] by simp [hj']]
  exact List.mem_iff_getElem.2 ⟨j, by rw [List.length_take]; omega, by rw [List.getElem_take]⟩
theorem plc_at {l : api_Lattice} (h : Lok l) {i : Nat} (hi : i < l.Names.length) : plc l.Names (l.Names.getD i []) = (i : Int) := by
  unfold plc
  have : (List.range l.Names.length).findSome? (fun k => if l.Names.getD k [] = l.Names.getD i [] then some (k : Int) else none) = some (i : Int) := by
    rw [List.findSome?_eq_some_iff]
    refine ⟨List.range i, i, (List.range l.Names.length).drop (i + 1), ?_, by rw [if_pos rfl], fun k hk => ?_⟩
    · have h1 : List.range l.Names.length = (List.range l.Names.length).take i ++ (List.range l.Names.length).drop i := (List.take_append_drop ..).symm
      rw [List.drop_eq_getElem_cons (by simpa using hi), List.getElem_range, List.take_range, Nat.min_eq_left (by omega)] at h1
      exact h1
    · rw [if_neg (h.uniq i k hi (List.mem_range.1 hk))]
  rw [this]
/-! How a text falls into tokens. -/
theorem tok_num {w s : Str} (hne : w ≠ []) (hw : ∀ c ∈ w, digP (c.toNat : Int) = true) (hs : ∀ c r, s = c :: r → digP (c.toNat : Int) = false) : tokS (w ++ s) = (2, w.length) := by
  match w, hne, hw with
  | c :: w, _, hw =>
    have hc := hw c (List.mem_cons_self ..)
    show tokX (c.toNat : Int) c (w ++ s) = _
    unfold tokX
    have hc' := hc
    unfold digP at hc'
    rw [Bool.and_eq_true, decide_eq_true_iff, decide_eq_true_iff] at hc'
    have hl : letP (c.toNat : Int) = false := by unfold letP; rw [decide_eq_false (by omega), Bool.false_and]
    rw [if_neg (by omega), if_neg (by omega), if_neg (by rw [hl]; decide), if_pos hc]
    have := cnt_word (p := digP) hw hs
    rw [List.cons_append] at this
    rw [this]
theorem lt_num {w s : Str} {T : List (Int × Str)} (hne : w ≠ []) (hw : ∀ c ∈ w, digP (c.toNat : Int) = true) (hs : ∀ c r, s = c :: r → digP (c.toNat : Int) = false) (k : LexTo s T) : LexTo (w ++ s) ((2, w) :: T) := by
  have h := LexTo.tok (s := w ++ s) (T := T) (tok_num hne hw hs) (fun q => hne (List.length_eq_zero_iff.1 q)) (by decide) (by rw [List.drop_left]; exact k)
  rwa [List.take_left] at h
theorem lt_mk {c : UInt8} {s : Str} {T : List (Int × Str)} (hc : c = 45 ∨ c = 59 ∨ c = 64) (k : LexTo s T) : LexTo (c :: s) ((3, [c]) :: T) := by
  have h : tokS (c :: s) = (3, 1) := by
    rcases hc with rfl | rfl | rfl
    · show tokX 45 45 s = _
      unfold tokX
      rw [if_neg (by decide), if_neg (by decide), if_neg (by decide), if_neg (by decide), if_neg (fun q => by cases s <;> simp at q), if_pos (by decide)]
    · show tokX 59 59 s = _
      unfold tokX
      rw [if_neg (by decide), if_neg (by decide), if_neg (by decide), if_neg (by decide), if_neg (fun q => by cases s <;> simp at q), if_pos (by decide)]
    · show tokX 64 64 s = _
      unfold tokX
      rw [if_neg (by decide), if_neg (by decide), if_neg (by decide), if_neg (by decide), if_neg (fun q => by cases s <;> simp at q), if_pos (by decide)]
  exact LexTo.tok (n := 1) h (by decide) (by decide) k
theorem wd_word : ∀ k : Fin 13, wdN k.val ≠ [] ∧ ∀ c ∈ wdN k.val, letP (c.toNat : Int) = true := by decide
theorem sg_lex {n : Int} (h0 : -20 ≤ n) (h1 : n ≤ 20) {s : Str} {T : List (Int × Str)} (hs : ∀ c r, s = c :: r → digP (c.toNat : Int) = false) (k : LexTo s T) : LexTo (sg n ++ s) (sgT n ++ T) := by
  unfold sg sgT
  by_cases q : n < 0
  · obtain ⟨a, _, b⟩ := dec_dig (m := (0 - n).toNat) (by omega)
    rw [if_pos q, if_pos q]
    exact lt_mk (.inl rfl) (lt_sp (lt_num a b hs k))
  · obtain ⟨a, _, b⟩ := dec_dig (m := n.toNat) (by omega)
    rw [if_neg q, if_neg q]
    exact lt_num a b hs k
theorem tx_lex {l : api_Lattice} (hL : Lok l) {x : api_Instr} (h : Iok l x) {s : Str} {T : List (Int × Str)} (k : LexTo s T) : LexTo (txi l x ++ s) (txT l x ++ T) := by
  have hw := wd_word ⟨x.Op.toNat, by have := h.o0; have := h.o1; omega⟩
  have hd : ∀ (c : UInt8) (r : Str), digP (c.toNat : Int) = false → ∀ c' r', c :: r = c' :: r' → digP (c'.toNat : Int) = false := fun c r q c' r' e => by cases e; exact q
  have fin : LexTo ([32, 59] ++ s) ((3, [59]) :: T) := lt_sp (lt_mk (.inr (.inl rfl)) k)
  have lab : x.Op = 1 → LexTo ([32, 64, 32] ++ nmS l x ++ ([32, 59] ++ s)) ((3, [64]) :: (1, nmS l x) :: (3, [59]) :: T) := fun ho => by
    obtain ⟨_, hi⟩ := h.lb ho
    have hm : nmS l x ∈ l.Names := by unfold nmS; rw [show l.Names.getD x.L.toNat [] = l.Names[x.L.toNat] by simp [hi]]; exact List.getElem_mem hi
    have hn := hL.word _ hm
    rw [List.append_assoc]
    exact lt_sp (lt_mk (.inr (.inr rfl)) (lt_sp (lt_word hn.1 hn.2 (sep_cons (by decide)) fin)))
  unfold txi txT
  by_cases hn : numB x.Op = true
  · rw [if_pos hn, if_pos hn]
    by_cases ho : x.Op = 1
    · rw [if_pos ho, if_pos ho]
      have := lt_word hw.1 hw.2 (sep_cons (by decide)) (lt_sp (sg_lex h.n0 h.n1 (hd 32 _ (by decide)) (lab ho)))
      simp only [List.append_assoc, List.cons_append, List.nil_append] at this ⊢
      exact this
    · rw [if_neg ho, if_neg ho]
      have := lt_word hw.1 hw.2 (sep_cons (by decide)) (lt_sp (sg_lex h.n0 h.n1 (hd 32 _ (by decide)) fin))
      simp only [List.append_assoc, List.cons_append, List.nil_append, List.append_nil] at this ⊢
      exact this
  · have ho : ¬ x.Op = 1 := fun q => hn (by rw [q]; rfl)
    rw [if_neg hn, if_neg hn, if_neg ho, if_neg ho]
    have := lt_word hw.1 hw.2 (sep_cons (by decide)) fin
    simp only [List.append_assoc, List.cons_append, List.nil_append, List.append_nil] at this ⊢
    exact this
theorem tail_lex {l : api_Lattice} (hL : Lok l) : ∀ {c : List api_Instr}, (∀ x ∈ c, Iok l x) → LexTo (Lib.joinTail [32] (c.map (txi l))) (c.flatMap (txT l))
  | [], _ => .nil
  | x :: c, h => by
    have := lt_sp (tx_lex hL (h x (List.mem_cons_self ..)) (tail_lex hL fun y hy => h y (List.mem_cons_of_mem _ hy)))
    rw [List.flatMap_cons]
    simpa [Lib.joinTail] using this
theorem text_lex {l : api_Lattice} (hL : Lok l) : ∀ {c : List api_Instr}, (∀ x ∈ c, Iok l x) → LexTo (txt l c) (c.flatMap (txT l))
  | [], _ => .nil
  | x :: c, h => by
    unfold txt
    rw [List.map_cons, Lib.join_cons, List.flatMap_cons]
    exact tx_lex hL (h x (List.mem_cons_self ..)) (tail_lex hL fun y hy => h y (List.mem_cons_of_mem _ hy))
end Go.Proofs.YtkmobcaobmchpaaDoor.Ck
