/- Plain laws, by program out of this seat's plain texts. -/
import Derived.Test.YtjkijjhjffodcaaDoorDTN
set_option linter.unusedVariables false
set_option linter.unusedSimpArgs false
set_option linter.unusedSectionVars false
namespace Go.Proofs.YtjkijjhjffodcaaDoor.Tn
open Go Go.Proofs.YtjkijjhjffodcaaDoor.Ab Go.Proofs.YtjkijjhjffodcaaDoor.TN
section
theorem lAt_some {α : Type} {xs : List α} {i : Nat} (h : i < xs.length) : lAt xs (i : Int) = some xs[i] := by
  simp [lAt, h]
end
section
open Classical
end
section
open Classical
end
section
open Classical
end
section
theorem wrapZ {x : Int} (h0 : -9223372036854775808 ≤ x) (h1 : x < 9223372036854775808) : IntKind.i64.wrap x = x := by
  show (if (true && decide (x % 18446744073709551616 ≥ 9223372036854775808)) = true then x % 18446744073709551616 - 18446744073709551616 else x % 18446744073709551616) = x
  simp only [Bool.true_and, decide_eq_true_eq]
  split <;> omega
theorem wS {n : Nat} (h : n ≤ 100000) : IntKind.i64.wrap ((n : Int) + 1) = ((n + 1 : Nat) : Int) := by rw [wrapZ (by omega) (by omega)]; rfl
end
section
inductive Tr where
  | lf (op : Int)
  | nd (op : Int) (x y : Tr)
def Tr.op : Tr → Int
  | .lf op => op
  | .nd op _ _ => op
def wd (op : Int) : Str :=
  if op = 1 then [116, 114, 117, 101] else if op = 2 then [102, 97, 108, 115, 101] else if op = 3 then [97, 110, 100] else if op = 4 then [111, 114] else if op = 5 then [60, 61]
  else if op = 6 then [98, 111, 116] else if op = 7 then [116, 111, 112] else if op = 8 then [112, 99] else if op = 9 then [111, 110, 101] else if op = 10 then [116, 119, 111] else if op = 11 then [116, 104, 114, 101, 101]
  else if op = 12 then [106, 111, 105, 110] else [109, 101, 101, 116]
def bd (op : Int) : Int := if op = 4 ∨ op = 12 then 1 else if op = 3 ∨ op = 13 then 2 else 3
def lab (op : Int) : Bool := decide (op = 12 ∨ op = 13)
def wi (op b least : Int) (p : Str × Int) : Str × Int := if b ≥ least then p else ((if lab op then ([91] ++ p.1) ++ [93] else ([40] ++ p.1) ++ [41]), p.2 + 1)
def tx : Tr → Str × Int
  | .lf op => (wd op, 0)
  | .nd op x y =>
    let X := if op = 5 then tx x else wi op (bd x.op) (bd op) (tx x)
    let Y := if op = 5 then tx y else wi op (bd y.op) (bd op + 1) (tx y)
    ((((X.1 ++ [32]) ++ wd op) ++ [32]) ++ Y.1, if X.2 < Y.2 then Y.2 else X.2)
end
section
def pc (t : Tr) : show_piece := ⟨(tx t).1, bd t.op, (tx t).2⟩
end
section
theorem bsome {α β : Type} (a : α) (f : α → Option β) : (some a >>= f) = f a := rfl
end
section
theorem same_l0 {a b : List Int} (h : a.length = b.length) (hl : a.length ≤ 1000) : ∀ (d k : Nat), a.length = k + d →
    reticentref04_Same.l0 a b (k : Int) = some (if a.drop k = b.drop k then .inr () else .inl false)
  | 0, k, e => by
    rw [reticentref04_Same.l0, if_neg (by omega), List.drop_of_length_le (by omega), List.drop_of_length_le (by omega), if_pos rfl]
  | d + 1, k, e => by
    have hk : k < a.length := by omega
    have hk' : k < b.length := by omega
    rw [reticentref04_Same.l0, if_pos (by omega), lAt_some hk, lAt_some hk', bsome, bsome, wS (by omega), same_l0 h hl d (k + 1) (by omega), List.drop_eq_getElem_cons hk, List.drop_eq_getElem_cons hk']
    by_cases q : a[k] = b[k]
    · rw [if_pos q, q]
      simp only [List.cons.injEq, true_and]
    · rw [if_neg q, if_neg (fun h => q (List.cons.inj h).1)]
theorem same_eq {a b : List Int} (hl : a.length ≤ 1000) : reticentref04_Same.f a b = some (decide (a = b)) := by
  unfold reticentref04_Same.f
  by_cases h : a.length = b.length
  · have := same_l0 h hl a.length 0 (by omega)
    rw [show ((0 : Nat) : Int) = 0 from rfl, List.drop_zero, List.drop_zero] at this
    rw [if_pos (by omega), this]
    by_cases q : a = b
    · rw [if_pos q, decide_eq_true q]; rfl
    · rw [if_neg q, decide_eq_false q]; rfl
  · rw [if_neg (by omega), decide_eq_false (fun q => h (by rw [q]))]
theorem equal_l0 {a b : List Int} (h : a.length = b.length) (hl : a.length ≤ 1000) : ∀ (d k : Nat), a.length = k + d →
    slices_Equal_int_int.l0 a b (k : Int) = some (if a.drop k = b.drop k then .inr () else .inl false)
  | 0, k, e => by
    rw [slices_Equal_int_int.l0, if_neg (by omega), List.drop_of_length_le (by omega), List.drop_of_length_le (by omega), if_pos rfl]
  | d + 1, k, e => by
    have hk : k < a.length := by omega
    have hk' : k < b.length := by omega
    have ih := equal_l0 h hl d (k + 1) (by omega)
    rw [slices_Equal_int_int.l0, if_pos (by omega), lAt_some hk, lAt_some hk', bsome, bsome, wS (by omega), ih, List.drop_eq_getElem_cons hk, List.drop_eq_getElem_cons hk']
    by_cases q : a[k] = b[k]
    · rw [if_pos q, q]
      simp only [List.cons.injEq, true_and]
    · rw [if_neg q, if_neg (fun h => q (List.cons.inj h).1)]
theorem equal_eq {a b : List Int} (hl : a.length ≤ 1000) : slices_Equal_int_int.f a b = some (decide (a = b)) := by
  unfold slices_Equal_int_int.f
  by_cases h : a.length = b.length
  · have := equal_l0 h hl a.length 0 (by omega)
    rw [show ((0 : Nat) : Int) = 0 from rfl, List.drop_zero, List.drop_zero] at this
    have h' : (a.length : Int) = (b.length : Int) := by omega
    rw [if_pos h', this]
    by_cases q : a = b
    · rw [if_pos q, decide_eq_true q]; rfl
    · rw [if_neg q, decide_eq_false q]; rfl
  · rw [if_neg (by omega), decide_eq_false (fun q => h (by rw [q]))]
end
section
open Classical
end
section
open Classical
end
section
theorem cut_min {α : Type} {xs : List α} {n : Nat} : lCut xs 0 (if (n : Int) < (xs.length : Int) then (n : Int) else (xs.length : Int)) = xs.take n := by
  unfold lCut
  split
  · simp
  · rw [show (0 : Int).toNat = 0 from rfl, Int.toNat_natCast, Nat.sub_zero, List.drop_zero, List.take_of_length_le (Nat.le_refl xs.length), List.take_of_length_le (by omega)]
theorem cut_ok {n m : Nat} : (0 : Int) ≤ (if (n : Int) < (m : Int) then (n : Int) else (m : Int)) ∧ (if (n : Int) < (m : Int) then (n : Int) else (m : Int)) ≤ (m : Int) := by split <;> omega
structure Few (R : List api_Row) : Prop where
  len : R.length ≤ 15
  may : ∀ r ∈ R, r.May.length ≤ 45
  res : ∀ r ∈ R, r.Res.length ≤ 45
  pc : ∀ r ∈ R, r.Pc.length ≤ 45
def fewR (R : List api_Row) : List api_Row := (R.take 15).map fun r => ⟨r.May.take 45, r.Res.take 45, r.Pc.take 45⟩
theorem few_l0 {R : List api_Row} : ∀ (d k : Nat) (acc : List api_Row), (R.take 15).length = k + d → acc.length = k → reticentlaw06_few.l0 ⟨R⟩ acc (k : Int) = some (acc ++ ((R.take 15).drop k).map fun r => ⟨r.May.take 45, r.Res.take 45, r.Pc.take 45⟩)
  | 0, k, acc, e, ha => by
    rw [reticentlaw06_few.l0, show (15 : Int) = ((15 : Nat) : Int) from rfl, cut_min, if_neg (show ¬ (k : Int) < ((R.take 15).length : Int) by omega), List.drop_of_length_le (by omega)]; simp
  | d + 1, k, acc, e, ha => by
    have hk : k < (R.take 15).length := by omega
    have h15 : (R.take 15).length ≤ 15 := by simp; omega
    have hB : 200000 ≤ big := by decide
    rw [reticentlaw06_few.l0, show (15 : Int) = ((15 : Nat) : Int) from rfl, show (45 : Int) = ((45 : Nat) : Int) from rfl, cut_min, if_pos (show (k : Int) < ((R.take 15).length : Int) by omega)]
    show (lAt (R.take 15) (k : Int) >>= _) = _
    rw [lAt_some hk, bsome, if_pos cut_ok, if_pos cut_ok, if_pos cut_ok, cut_min, cut_min, cut_min]
    rw [if_pos (by simp; omega), wS (by omega), few_l0 d (k + 1) _ (by omega) (by simp [ha]), List.drop_eq_getElem_cons hk]
    simp
theorem few_eq {R : List api_Row} : reticentlaw06_few.f ⟨R⟩ = some ⟨fewR R⟩ := by
  unfold reticentlaw06_few.f
  have h := few_l0 (R := R) (R.take 15).length 0 [] (by omega) rfl
  rw [show ((0 : Nat) : Int) = 0 from rfl] at h
  rw [show (15 : Int) = ((15 : Nat) : Int) from rfl, if_pos cut_ok, h]
  simp [fewR]
theorem few_ok {R : List api_Row} : Few (fewR R) := by
  refine ⟨by simp [fewR]; omega, fun r hr => ?_, fun r hr => ?_, fun r hr => ?_⟩ <;>
    (obtain ⟨x, _, rfl⟩ := List.mem_map.1 hr; simp; omega)
end
section
open Classical in
open Classical in
end
end Go.Proofs.YtjkijjhjffodcaaDoor.Tn
