/- Programs: their text. -/
import Derived.Test.YtkmobcaobmchpaaDoorCg1
set_option linter.unusedVariables false
set_option linter.unusedSimpArgs false
set_option linter.unusedSectionVars false
namespace Go.Proofs.YtkmobcaobmchpaaDoor.Cg
open Go Go.Proofs.YtkmobcaobmchpaaDoor.Ab Go.Proofs.YtkmobcaobmchpaaDoor.CG
/-! Their text. -/
theorem itoaS {n : Int} (h0 : 0 ≤ n) (h1 : n < 100) : lib_Itoa n = some (Lib.decDigits n.toNat) ∧ (Lib.decDigits n.toNat).length ≤ 2 := by
  refine ⟨by unfold lib_Itoa; rw [if_pos ⟨h0, h1⟩], ?_⟩
  have : n.toNat < 100 := by omega
  generalize n.toNat = m at this
  unfold Lib.decDigits
  split
  · simp
  · unfold Lib.decDigits
    rw [dif_pos (by omega)]; simp
def sg (n : Int) : Str := if n < 0 then [45, 32] ++ Lib.decDigits (0 - n).toNat else Lib.decDigits n.toNat
theorem sg_len {n : Int} (h0 : -20 ≤ n) (h1 : n ≤ 20) : (sg n).length ≤ 4 := by
  unfold sg
  split
  · have := (itoaS (n := 0 - n) (by omega) (by omega)).2
    rw [List.length_append]
    show 2 + _ ≤ 4
    omega
  · have := (itoaS (n := n) (by omega) (by omega)).2
    omega
theorem sg_p {n : Int} (h0 : -20 ≤ n) (h1 : n ≤ 20) : code_signed.f n = some (sg n) ∧ reticentref08_Signed.f n = some (sg n) := by
  unfold code_signed.f reticentref08_Signed.f sg
  by_cases h : n < 0
  · obtain ⟨e1, e2⟩ := itoaS (n := 0 - n) (by omega) (by omega)
    rw [if_pos h, if_pos h, wrapZ (by omega) (by omega), e1, bsome, if_pos (by first | omega | (simp only [List.length_append, List.length_cons, List.length_nil]; omega))]
    exact ⟨rfl, rfl⟩
  · obtain ⟨e1, e2⟩ := itoaS (n := n) (by omega) (by omega)
    rw [if_neg h, if_neg h, e1]; exact ⟨rfl, rfl⟩
/-- An instruction's text. -/
def tx (l : api_Lattice) (x : api_Instr) : Str := (wdN x.Op.toNat ++ (if numB x.Op = true then [32] ++ sg x.N else [])) ++ (if x.Op = 1 then [32, 64, 32] ++ l.Names.getD x.L.toNat [] else []) ++ [32, 59]
theorem wd_len {k : Nat} (hk : k < 13) : (wdN k).length ≤ 6 := by
  match k, hk with
  | 0, _ => decide
  | 1, _ => decide
  | 2, _ => decide
  | 3, _ => decide
  | 4, _ => decide
  | 5, _ => decide
  | 6, _ => decide
  | 7, _ => decide
  | 8, _ => decide
  | 9, _ => decide
  | 10, _ => decide
  | 11, _ => decide
  | 12, _ => decide
  | n + 13, h => omega
/-- What is known of an instruction that may be. -/
structure Iok (l : api_Lattice) (x : api_Instr) : Prop where
  o0 : 0 ≤ x.Op
  o1 : x.Op < 13
  n0 : -20 ≤ x.N
  n1 : x.N ≤ 20
  lb : x.Op = 1 → 0 ≤ x.L ∧ x.L.toNat < l.Names.length
theorem iok_of {l : api_Lattice} (hn : l.Names.length = l.Up.length) {x : api_Instr} (h : insB (l.Up.length : Int) x = true) : Iok l x := by
  unfold insB at h
  by_cases q : x.Op = 1
  · rw [if_pos q] at h
    have h := of_decide_eq_true h
    exact ⟨by omega, by omega, h.1, h.2.1, fun _ => ⟨h.2.2.1, by omega⟩⟩
  · rw [if_neg q] at h
    obtain ⟨a, b, c, d⟩ := of_decide_eq_true h
    refine ⟨a, by omega, ?_, ?_, fun w => absurd w q⟩ <;>
      (split at d
       · omega
       · split at d
         · omega
         · split at d
           · omega
           · omega)
section
variable {l : api_Lattice} (hN : ∀ s ∈ l.Names, s.length ≤ 1000)
include hN
theorem nm_len {k : Nat} : (l.Names.getD k []).length ≤ 1000 := by
  rw [List.getD_eq_getElem?_getD]
  cases h : l.Names[k]? with
  | none => simp
  | some s => exact hN s (List.mem_of_getElem? h)
theorem tx_len {x : api_Instr} (h : Iok l x) : (tx l x).length ≤ 1100 := by
  have a := wd_len (k := x.Op.toNat) (by have := h.o0; have := h.o1; omega)
  have b := sg_len h.n0 h.n1
  have c := nm_len hN (k := x.L.toNat)
  unfold tx
  split <;> split <;> simp only [List.length_append, List.length_cons, List.length_nil] <;> omega
theorem name_at {x : api_Instr} (h : Iok l x) (ho : x.Op = 1) : lAt l.Names x.L = some (l.Names.getD x.L.toNat []) := by
  obtain ⟨h0, h1⟩ := h.lb ho
  obtain ⟨k, hk⟩ : ∃ k : Nat, x.L = (k : Int) := ⟨x.L.toNat, by omega⟩
  rw [hk] at h1 ⊢
  rw [Int.toNat_natCast] at h1 ⊢
  rw [lAt_some h1]; simp [h1]
theorem word_at {x : api_Instr} (h : Iok l x) : table_Name.f x.Op = some (wdN x.Op.toNat, 0) ∧ reticentref06_Word.f x.Op = some (wdN x.Op.toNat) := by
  obtain ⟨k, hk⟩ : ∃ k : Nat, x.Op = (k : Int) := ⟨x.Op.toNat, by have := h.o0; omega⟩
  rw [hk, Int.toNat_natCast]
  exact word_pr (by have := h.o1; omega)
theorem text_l0 {c : List api_Instr} (hc : ∀ x ∈ c, Iok l x) (hl : c.length ≤ 100) : ∀ (d k : Nat) (acc : List Str), c.length = k + d → acc.length = k → code_Text.l0 l c acc (k : Int) = some (acc ++ (c.drop k).map (tx l))
  | 0, k, acc, e, ha => by rw [code_Text.l0, if_neg (by omega), List.drop_of_length_le (by omega)]; simp
  | d + 1, k, acc, e, ha => by
    have hk : k < c.length := by omega
    have hx := hc _ (List.getElem_mem hk)
    have hB : 1000000 ≤ big := by decide
    have a := wd_len (k := c[k].Op.toNat) (by have := hx.o0; have := hx.o1; omega)
    have b := sg_len hx.n0 hx.n1
    have cc := nm_len hN (k := c[k].L.toNat)
    have ih := text_l0 hc hl d (k + 1) (acc ++ [tx l c[k]]) (by omega) (by simp; omega)
    rw [code_Text.l0, if_pos (by omega), lAt_some hk, bsome, (word_at hN hx).1, bsome, number_p, bsome, wS (by omega)]
    have fin : (some (acc ++ [tx l c[k]]) >>= fun x128 => code_Text.l0 l c x128 ((k + 1 : Nat) : Int)) = some (acc ++ (c.drop k).map (tx l)) := by
      rw [bsome, ih, List.drop_eq_getElem_cons hk, List.map_cons, List.append_assoc]; rfl
    rw [← fin]
    congr 1
    by_cases hn : numB c[k].Op = true
    · rw [if_pos hn, (sg_p hx.n0 hx.n1).1, bsome, if_pos (by first | omega | (simp only [List.length_append, List.length_cons, List.length_nil]; omega)), if_pos (by first | omega | (simp only [List.length_append, List.length_cons, List.length_nil]; omega))]
      by_cases ho : c[k].Op = 1
      · rw [if_pos ho, name_at hN hx ho, bsome, if_pos (by first | omega | (simp only [List.length_append, List.length_cons, List.length_nil]; omega)), if_pos (by first | omega | (simp only [List.length_append, List.length_cons, List.length_nil]; omega)), if_pos (by first | omega | (simp only [List.length_append, List.length_cons, List.length_nil]; omega)), if_pos (by first | omega | (simp only [List.length_append, List.length_cons, List.length_nil]; omega))]
        unfold tx; rw [if_pos hn, if_pos ho]
      · rw [if_neg ho, if_pos (by first | omega | (simp only [List.length_append, List.length_cons, List.length_nil]; omega)), if_pos (by first | omega | (simp only [List.length_append, List.length_cons, List.length_nil]; omega))]
        unfold tx; rw [if_pos hn, if_neg ho, List.append_nil]
    · have ho : ¬ c[k].Op = 1 := fun q => hn (by rw [q]; rfl)
      rw [if_neg hn, if_neg ho, if_pos (by first | omega | (simp only [List.length_append, List.length_cons, List.length_nil]; omega)), if_pos (by first | omega | (simp only [List.length_append, List.length_cons, List.length_nil]; omega))]
      unfold tx; rw [if_neg hn, if_neg ho, List.append_nil, List.append_nil]
theorem rtext_l0 {c : List api_Instr} (hc : ∀ x ∈ c, Iok l x) (hl : c.length ≤ 100) : ∀ (d k : Nat), c.length = k + d → reticentref08_Text.l0 l c (k : Int) (Lib.join ((c.take k).map (tx l)) [32]) = some (Lib.join (c.map (tx l)) [32])
  | 0, k, e => by rw [reticentref08_Text.l0, if_neg (by omega), List.take_of_length_le (by omega)]
  | d + 1, k, e => by
    have hk : k < c.length := by omega
    have hx := hc _ (List.getElem_mem hk)
    have a := wd_len (k := c[k].Op.toNat) (by have := hx.o0; have := hx.o1; omega)
    have b := sg_len hx.n0 hx.n1
    have cc := nm_len hN (k := c[k].L.toNat)
    have ih := rtext_l0 hc hl d (k + 1) (by omega)
    have hj : (Lib.join ((c.take k).map (tx l)) [32]).length ≤ 110100 := by
      have h1 := join_len (sep := [32]) (n := 1100) (xs := (c.take k).map (tx l)) (fun s hs => by
        obtain ⟨x, hxm, rfl⟩ := List.mem_map.1 hs
        exact tx_len hN (hc x (List.mem_of_mem_take hxm)))
      have h2 : ((c.take k).map (tx l)).length ≤ 100 := by rw [List.length_map, List.length_take]; omega
      exact Nat.le_trans h1 (Nat.mul_le_mul_right _ h2)
    have hnext : Lib.join ((c.take (k + 1)).map (tx l)) [32] = (if k = 0 then Lib.join ((c.take k).map (tx l)) [32] else Lib.join ((c.take k).map (tx l)) [32] ++ [32]) ++ tx l c[k] := by
      rw [List.take_succ_eq_append_getElem hk, List.map_append, List.map_cons, List.map_nil]
      by_cases h0 : k = 0
      · subst h0; rw [if_pos rfl, List.take_zero, List.map_nil, List.nil_append, Lib.join_one]; rfl
      · rw [if_neg h0, join_snoc (by intro q; have := congrArg List.length q; rw [List.length_map, List.length_take, List.length_nil] at this; omega)]
    rw [hnext] at ih
    generalize Lib.join ((c.take k).map (tx l)) [32] = J at hj ih ⊢
    rw [reticentref08_Text.l0, if_pos (show (k : Int) < (c.length : Int) by omega), lAt_some hk, bsome, (word_at hN hx).2, bsome, number_r, wS (by omega), ← ih]
    by_cases h0 : k = 0
    · rw [if_neg (show ¬ (k : Int) > 0 by omega), if_pos h0, bsome, if_pos (by first | omega | (simp only [List.length_append, List.length_cons, List.length_nil]; omega)), bsome]
      by_cases hn : numB c[k].Op = true
      · rw [if_pos hn, if_pos (by first | omega | (simp only [List.length_append, List.length_cons, List.length_nil]; omega)), (sg_p hx.n0 hx.n1).2, bsome, if_pos (by first | omega | (simp only [List.length_append, List.length_cons, List.length_nil]; omega))]
        by_cases ho : c[k].Op = 1
        · rw [if_pos ho, if_pos (by first | omega | (simp only [List.length_append, List.length_cons, List.length_nil]; omega)), name_at hN hx ho, bsome, if_pos (by first | omega | (simp only [List.length_append, List.length_cons, List.length_nil]; omega)), if_pos (by first | omega | (simp only [List.length_append, List.length_cons, List.length_nil]; omega)), bsome]
          unfold tx; rw [if_pos hn, if_pos ho]; simp only [List.append_assoc]
        · rw [if_neg ho, if_pos (by first | omega | (simp only [List.length_append, List.length_cons, List.length_nil]; omega)), bsome]
          unfold tx; rw [if_pos hn, if_neg ho, List.append_nil]; simp only [List.append_assoc]
      · have ho : ¬ c[k].Op = 1 := fun q => hn (by rw [q]; rfl)
        rw [if_neg hn, if_neg ho, if_pos (by first | omega | (simp only [List.length_append, List.length_cons, List.length_nil]; omega)), bsome]
        unfold tx; rw [if_neg hn, if_neg ho, List.append_nil, List.append_nil]; simp only [List.append_assoc]
    · rw [if_pos (show (k : Int) > 0 by omega), if_neg h0, if_pos (by first | omega | (simp only [List.length_append, List.length_cons, List.length_nil]; omega)), if_pos (by first | omega | (simp only [List.length_append, List.length_cons, List.length_nil]; omega)), bsome]
      by_cases hn : numB c[k].Op = true
      · rw [if_pos hn, if_pos (by first | omega | (simp only [List.length_append, List.length_cons, List.length_nil]; omega)), (sg_p hx.n0 hx.n1).2, bsome, if_pos (by first | omega | (simp only [List.length_append, List.length_cons, List.length_nil]; omega))]
        by_cases ho : c[k].Op = 1
        · rw [if_pos ho, if_pos (by first | omega | (simp only [List.length_append, List.length_cons, List.length_nil]; omega)), name_at hN hx ho, bsome, if_pos (by first | omega | (simp only [List.length_append, List.length_cons, List.length_nil]; omega)), if_pos (by first | omega | (simp only [List.length_append, List.length_cons, List.length_nil]; omega)), bsome]
          unfold tx; rw [if_pos hn, if_pos ho]; simp only [List.append_assoc]
        · rw [if_neg ho, if_pos (by first | omega | (simp only [List.length_append, List.length_cons, List.length_nil]; omega)), bsome]
          unfold tx; rw [if_pos hn, if_neg ho, List.append_nil]; simp only [List.append_assoc]
      · have ho : ¬ c[k].Op = 1 := fun q => hn (by rw [q]; rfl)
        rw [if_neg hn, if_neg ho, if_pos (by first | omega | (simp only [List.length_append, List.length_cons, List.length_nil]; omega)), bsome]
        unfold tx; rw [if_neg hn, if_neg ho, List.append_nil, List.append_nil]; simp only [List.append_assoc]
end
end Go.Proofs.YtkmobcaobmchpaaDoor.Cg
