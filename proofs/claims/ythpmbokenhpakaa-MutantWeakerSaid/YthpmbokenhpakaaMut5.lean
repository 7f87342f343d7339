/- What is left of a rule. -/
import Derived.Test.YthpmbokenhpakaaMut4
set_option linter.unusedVariables false
set_option linter.unusedSimpArgs false
namespace Go.Proofs.Ythpmbokenhpakaa.Mut
open Go Go.Proofs.Ythpmbokenhpakaa.Ab Go.Proofs.Ythpmbokenhpakaa.LD
open Go.Proofs.Ythpmbokenhpakaa.Lat (lAt_some)
/-! slices.Concat -/
theorem flat_len_le {xss : List (List Int)} (h : ∀ x ∈ xss, x.length ≤ 1000) : xss.flatten.length ≤ xss.length * 1000 := by
  induction xss with
  | nil => simp
  | cons a r ih =>
    have ha := h a (by simp)
    have := ih (fun x hx => h x (by simp [hx]))
    simp only [List.flatten_cons, List.length_append, List.length_cons, Nat.succ_mul]
    omega
theorem concat_l0 {xss : List (List Int)} (hn : xss.length ≤ 100) (h : ∀ x ∈ xss, x.length ≤ 1000) : ∀ (d k : Nat) (v : Nat), xss.length = k + d → v ≤ k * 1000 → slices_Concat_int_int.l0 xss (k : Int) (v : Int) = some ((v + (xss.drop k).flatten.length : Nat) : Int)
  | 0, k, v, e, hv => by
    rw [slices_Concat_int_int.l0, if_neg (by omega), List.drop_of_length_le (by omega)]; simp
  | d + 1, k, v, e, hv => by
    have hk : k < xss.length := by omega
    have hx := h xss[k] (List.getElem_mem hk)
    have ih := concat_l0 hn h d (k + 1) (v + xss[k].length) (by omega) (by rw [Nat.succ_mul]; omega)
    have hw : IntKind.i64.wrap ((v : Int) + (xss[k].length : Int)) = ((v + xss[k].length : Nat) : Int) := by rw [wrapZ (by omega) (by omega)]; omega
    rw [slices_Concat_int_int.l0, if_pos (by omega), lAt_some hk, bsome, hw, if_neg (by omega), bsome, wS (by omega), ih, List.drop_eq_getElem_cons hk]
    simp only [List.flatten_cons, List.length_append]
    rw [Nat.add_assoc]
theorem concat_l1 {xss : List (List Int)} (hn : xss.length ≤ 100) (h : ∀ x ∈ xss, x.length ≤ 1000) : ∀ (d k : Nat) (v : List Int), xss.length = k + d → v.length ≤ k * 1000 → slices_Concat_int_int.l1 xss v (k : Int) = some (v ++ (xss.drop k).flatten)
  | 0, k, v, e, hv => by
    rw [slices_Concat_int_int.l1, if_neg (by omega), List.drop_of_length_le (by omega)]; simp
  | d + 1, k, v, e, hv => by
    have hk : k < xss.length := by omega
    have hx := h xss[k] (List.getElem_mem hk)
    have hB : 10000000 ≤ big := by decide
    have ih := concat_l1 hn h d (k + 1) (v ++ xss[k]) (by omega) (by rw [Nat.succ_mul]; simp; omega)
    rw [slices_Concat_int_int.l1, if_pos (by omega), lAt_some hk, bsome, if_pos (by omega), wS (by omega), ih, List.drop_eq_getElem_cons hk]
    simp only [List.flatten_cons, List.append_assoc]
theorem grow_eq {n : Nat} (h : n ≤ 100000) : slices_Grow_int_int_nil.f (n : Int) = some [] := by
  unfold slices_Grow_int_int_nil.f
  have h1 : IntKind.i64.wrap (0 - (([] : List Int).length : Int)) = 0 := by decide
  have h2 : IntKind.i64.wrap ((n : Int) - 0) = (n : Int) := by rw [wrapZ (by omega) (by omega)]; omega
  have hB : 10000000 ≤ big := by decide
  rw [if_neg (by omega), h1, h2]
  by_cases h0 : (n : Int) > 0
  · rw [if_pos h0, if_pos ⟨h0, by simp; omega⟩, if_pos ⟨by simp, by simp⟩]; rfl
  · rw [if_neg h0]
theorem concat_eq {xss : List (List Int)} (hn : xss.length ≤ 100) (h : ∀ x ∈ xss, x.length ≤ 1000) : slices_Concat_int_int.f xss = some xss.flatten := by
  unfold slices_Concat_int_int.f
  have h1 := concat_l0 hn h xss.length 0 0 (by omega) (by omega)
  have h2 := concat_l1 hn h xss.length 0 [] (by omega) (by simp)
  have h3 := flat_len_le h
  have h4 : xss.length * 1000 ≤ 100 * 1000 := Nat.mul_le_mul_right _ hn
  rw [show ((0 : Nat) : Int) = 0 from rfl, List.drop_zero, Nat.zero_add] at h1
  rw [show ((0 : Nat) : Int) = 0 from rfl, List.drop_zero, List.nil_append] at h2
  rw [h1, bsome, grow_eq (by omega), bsome, h2, bsome]
/-! The reference's way. -/
section
variable {l : List Int} {a b i : Nat}
def kp (a b i k : Nat) : Bool := (decide (k < a) || decide (b ≤ k)) && !decide (k = i)
theorem but_step (hl : l.length ≤ 900) {k : Nat} (hk : k < l.length) {acc : List Int} (hacc : acc.length ≤ 1000) :
    reticentref24_but.l0 l (a : Int) (b : Int) (i : Int) acc (k : Int) = reticentref24_but.l0 l (a : Int) (b : Int) (i : Int) (if kp a b i k then acc ++ [l[k]] else acc) ((k + 1 : Nat) : Int) := by
  have hB : 10000000 ≤ big := by decide
  have h1 : ((k : Int) < (a : Int)) ↔ k < a := by omega
  have h2 : ((k : Int) ≥ (b : Int)) ↔ b ≤ k := by omega
  have h3 : ((k : Int) = (i : Int)) ↔ k = i := by omega
  rw [reticentref24_but.l0, if_pos (by omega), lAt_some hk, bsome, wS (by omega)]
  simp only [h1, h2, h3]
  have hb : (acc.length + ([l[k]] : List Int).length) * 8 ≤ big := by simp; omega
  have hkp : ((if k < a then (some (!decide (k = i))) else (if b ≤ k then (some (!decide (k = i))) else (some false)) : Option Bool)) = some (kp a b i k) := by
    unfold kp
    by_cases q1 : k < a
    · rw [if_pos q1, decide_eq_true q1]; rfl
    · rw [if_neg q1, decide_eq_false q1]
      by_cases q2 : b ≤ k
      · rw [if_pos q2, decide_eq_true q2]; rfl
      · rw [if_neg q2, decide_eq_false q2]; rfl
  rw [hkp, bsome]
  cases kp a b i k with
  | true => rw [if_pos rfl, if_pos hb, bsome]; rfl
  | false => rfl
theorem but_keep (hl : l.length ≤ 900) : ∀ (d k : Nat) (acc : List Int), k + d ≤ l.length → acc.length ≤ k → (∀ q, k ≤ q → q < k + d → kp a b i q = true) →
    reticentref24_but.l0 l (a : Int) (b : Int) (i : Int) acc (k : Int) = reticentref24_but.l0 l (a : Int) (b : Int) (i : Int) (acc ++ (l.take (k + d)).drop k) ((k + d : Nat) : Int)
  | 0, k, acc, h, ha, hq => by
    have : (l.take (k + 0)).drop k = [] := List.drop_of_length_le (by simp; omega)
    rw [this, List.append_nil]; rfl
  | d + 1, k, acc, h, ha, hq => by
    have hk : k < l.length := by omega
    rw [but_step hl hk (by omega), hq k (Nat.le_refl _) (by omega), if_pos rfl, but_keep hl d (k + 1) (acc ++ [l[k]]) (by omega) (by simp; omega) (fun q h1 h2 => hq q (by omega) (by omega))]
    have e : (l.take (k + (d + 1))).drop k = l[k] :: (l.take (k + 1 + d)).drop (k + 1) := by
      have hk2 : k < (l.take (k + (d + 1))).length := by simp; omega
      rw [List.drop_eq_getElem_cons hk2, show k + 1 + d = k + (d + 1) by omega]
      simp
    rw [e, show k + 1 + d = k + (d + 1) by omega]
    simp
theorem but_skip (hl : l.length ≤ 900) : ∀ (d k : Nat) (acc : List Int), k + d ≤ l.length → acc.length ≤ 1000 → (∀ q, k ≤ q → q < k + d → kp a b i q = false) →
    reticentref24_but.l0 l (a : Int) (b : Int) (i : Int) acc (k : Int) = reticentref24_but.l0 l (a : Int) (b : Int) (i : Int) acc ((k + d : Nat) : Int)
  | 0, k, acc, h, ha, hq => rfl
  | d + 1, k, acc, h, ha, hq => by
    have hk : k < l.length := by omega
    rw [but_step hl hk (by omega), hq k (Nat.le_refl _) (by omega), if_neg (by decide), but_skip hl d (k + 1) acc (by omega) ha (fun q h1 h2 => hq q (by omega) (by omega)), show k + 1 + d = k + (d + 1) by omega]
theorem but_eq (hl : l.length ≤ 900) (h1 : a ≤ b) (h2 : b ≤ i) (h3 : i < l.length) : reticentref24_but.f l (a : Int) (b : Int) (i : Int) = some (l.take a ++ (l.take i).drop b ++ l.drop (i + 1)) := by
  unfold reticentref24_but.f
  have s1 := but_keep (a := a) (b := b) (i := i) hl a 0 [] (by omega) (by simp) (fun q _ hq => by simp [kp]; omega)
  have s2 := but_skip (a := a) (b := b) (i := i) hl (b - a) a (l.take a) (by omega) (by simp; omega) (fun q h4 h5 => by simp [kp]; omega)
  have s3 := but_keep (a := a) (b := b) (i := i) hl (i - b) b (l.take a) (by omega) (by simp; omega) (fun q h4 h5 => by simp [kp]; omega)
  have s4 := but_skip (a := a) (b := b) (i := i) hl 1 i (l.take a ++ (l.take i).drop b) (by omega) (by simp; omega) (fun q h4 h5 => by simp [kp]; omega)
  have s5 := but_keep (a := a) (b := b) (i := i) hl (l.length - (i + 1)) (i + 1) (l.take a ++ (l.take i).drop b) (by omega) (by simp; omega) (fun q h4 h5 => by simp [kp]; omega)
  rw [show 0 + a = a by omega, List.nil_append, List.drop_zero, show ((0 : Nat) : Int) = 0 from rfl] at s1
  rw [show a + (b - a) = b by omega] at s2
  rw [show b + (i - b) = i by omega] at s3
  rw [show i + 1 + (l.length - (i + 1)) = l.length by omega, List.take_of_length_le (Nat.le_refl _)] at s5
  rw [s1, s2, s3, s4, s5, reticentref24_but.l0, if_neg (by omega), bsome]
end
/-- What less leaves, the two ways. -/
theorem less_eq {l : List Int} (hl : l.length ≤ 900) {x y : Tr} (hx : x.ok) (hy : y.ok) {s i : Nat} {r : List Int} {op : Int} (e : l.drop s = (Tr.nd op x y).flat ++ r) (hi : s + x.size + y.size = i) :
    mutant_less.f l (i : Int) = some [l.take (s + x.size) ++ l.drop (i + 1), l.take s ++ (l.take i).drop (s + x.size) ++ l.drop (i + 1)] ∧
    reticentref24_from.f l (IntKind.i64.wrap ((i : Int) - 1)) = some ((s + x.size : Nat) : Int) ∧ reticentref24_from.f l (IntKind.i64.wrap (((s + x.size : Nat) : Int) - 1)) = some (s : Int) ∧
    reticentref24_but.f l ((s + x.size : Nat) : Int) (i : Int) (i : Int) = some (l.take (s + x.size) ++ l.drop (i + 1)) ∧
    reticentref24_but.f l (s : Int) ((s + x.size : Nat) : Int) (i : Int) = some (l.take s ++ (l.take i).drop (s + x.size) ++ l.drop (i + 1)) := by
  obtain ⟨e1, e2, hk, hop⟩ := split_nd e
  have hil : i < l.length := by omega
  have w1' : IntKind.i64.wrap ((i : Int) - 1) = ((s + x.size + y.size : Nat) : Int) - 1 := by rw [wrapZ (by omega) (by omega)]; omega
  have w2' : IntKind.i64.wrap (((s + x.size : Nat) : Int) - 1) = ((s + x.size : Nat) : Int) - 1 := wrapZ (by omega) (by omega)
  have w3' : IntKind.i64.wrap ((i : Int) + 1) = ((i + 1 : Nat) : Int) := wS (by omega)
  have sy := start_eq hl hy e2 (by omega)
  have sx := start_eq hl hx e1 (by omega)
  have fy := from_eq hl hy e2 (by omega)
  have fx := from_eq hl hx e1 (by omega)
  have c1 : ∀ n : Nat, lCut l 0 (n : Int) = l.take n := fun n => by simp [lCut]
  have c2 : ∀ n : Nat, lCut l (n : Int) (l.length : Int) = l.drop n := fun n => by
    unfold lCut
    rw [List.take_of_length_le (by simp)]; simp
  have c3 : lCut l ((s + x.size : Nat) : Int) (i : Int) = (l.take i).drop (s + x.size) := by
    unfold lCut
    rw [List.drop_take, Int.toNat_natCast, Int.toNat_natCast]
  refine ⟨?_, by rw [w1']; exact fy, by rw [w2']; exact fx, ?_, ?_⟩
  · unfold mutant_less.f
    rw [w1', sy, bsome, w2', sx, bsome, w3', if_pos ⟨by omega, by omega⟩, if_pos ⟨by omega, by omega⟩, c1, c2]
    rw [concat_eq (by simp) (by intro z hz; simp at hz; rcases hz with rfl | rfl <;> simp <;> omega), bsome]
    rw [if_pos ⟨by omega, by omega⟩, if_pos ⟨by omega, by omega, by omega⟩, if_pos ⟨by omega, by omega⟩, c1, c3]
    rw [concat_eq (by simp) (by intro z hz; simp at hz; rcases hz with rfl | rfl | rfl <;> simp <;> omega), bsome]
    simp
  · rw [but_eq hl (by omega) (by omega) hil]
    have : (l.take i).drop i = [] := List.drop_of_length_le (by simp; omega)
    rw [this, List.append_nil]
  · exact but_eq hl (by omega) (by omega) hil
end Go.Proofs.Ythpmbokenhpakaa.Mut
