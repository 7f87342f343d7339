/- States: which two are the same; an atom's text. -/
import Derived.Test.YtkcpghpglhamfaaGreatDoorSub1
set_option linter.unusedVariables false
set_option linter.unusedSimpArgs false
set_option linter.unusedSectionVars false
namespace Go.Proofs.YtkcpghpglhamfaaGreatDoor.Su
open Go Go.Proofs.YtkcpghpglhamfaaGreatDoor.Ab Go.Proofs.YtkcpghpglhamfaaGreatDoor.ST
theorem asame_l0 {a b : List api_Atom} (h : a.length = b.length) (hl : a.length ≤ 1000) : ∀ (d k : Nat), a.length = k + d →
    reticentref09_AtomsSame.l0 a b (k : Int) = some (if a.drop k = b.drop k then .inr () else .inl false) ∧ slices_Equal_api_Atom_api_Atom.l0 a b (k : Int) = some (if a.drop k = b.drop k then .inr () else .inl false)
  | 0, k, e => by
    have hn : ¬ (k : Int) < (a.length : Int) := by omega
    rw [reticentref09_AtomsSame.l0, if_neg hn, slices_Equal_api_Atom_api_Atom.l0, if_neg hn, List.drop_of_length_le (by omega), List.drop_of_length_le (by omega), if_pos rfl]; exact ⟨rfl, rfl⟩
  | d + 1, k, e => by
    have hk : k < a.length := by omega
    have hk' : k < b.length := by omega
    obtain ⟨i1, i2⟩ := asame_l0 h hl d (k + 1) (by omega)
    have hp : (k : Int) < (a.length : Int) := by omega
    rw [reticentref09_AtomsSame.l0, if_pos hp, slices_Equal_api_Atom_api_Atom.l0, if_pos hp, lAt_some hk, lAt_some hk', bsome, bsome, bsome, bsome, wS (by omega), i1, i2, List.drop_eq_getElem_cons hk, List.drop_eq_getElem_cons hk']
    by_cases q : a[k] = b[k]
    · rw [if_pos q, q]
      simp only [List.cons.injEq, true_and, and_self]
    · rw [if_neg q, if_neg (fun h => q (List.cons.inj h).1)]; exact ⟨rfl, rfl⟩
theorem asame {a b : List api_Atom} (hl : a.length ≤ 1000) : reticentref09_AtomsSame.f a b = some (decide (a = b)) ∧ slices_Equal_api_Atom_api_Atom.f a b = some (decide (a = b)) := by
  unfold reticentref09_AtomsSame.f slices_Equal_api_Atom_api_Atom.f
  by_cases h : a.length = b.length
  · obtain ⟨h1, h2⟩ := asame_l0 h hl a.length 0 (by omega)
    rw [show ((0 : Nat) : Int) = 0 from rfl, List.drop_zero, List.drop_zero] at h1 h2
    have h' : (a.length : Int) = (b.length : Int) := by omega
    rw [if_pos h', if_pos h', h1, h2]
    by_cases q : a = b
    · rw [if_pos q, decide_eq_true q]; exact ⟨rfl, rfl⟩
    · rw [if_neg q, decide_eq_false q]; exact ⟨rfl, rfl⟩
  · have h' : ¬ (a.length : Int) = (b.length : Int) := by omega
    rw [if_neg h', if_neg h', decide_eq_false (fun q => h (by rw [q]))]; exact ⟨rfl, rfl⟩
theorem ssame_l0 {x y : api_State} (h : x.Stack.length = y.Stack.length) (hl : x.Stack.length ≤ 1000) : ∀ (d k : Nat), x.Stack.length = k + d →
    reticentref09_Same.l0 x y (k : Int) = some (if x.Stack.drop k = y.Stack.drop k then .inr () else .inl false) ∧ slices_Equal_api_Slot_api_Slot.l0 x.Stack y.Stack (k : Int) = some (if x.Stack.drop k = y.Stack.drop k then .inr () else .inl false)
  | 0, k, e => by
    have hn : ¬ (k : Int) < (x.Stack.length : Int) := by omega
    rw [reticentref09_Same.l0, if_neg hn, slices_Equal_api_Slot_api_Slot.l0, if_neg hn, List.drop_of_length_le (by omega), List.drop_of_length_le (by omega), if_pos rfl]; exact ⟨rfl, rfl⟩
  | d + 1, k, e => by
    have hk : k < x.Stack.length := by omega
    have hk' : k < y.Stack.length := by omega
    obtain ⟨i1, i2⟩ := ssame_l0 h hl d (k + 1) (by omega)
    have hp : (k : Int) < (x.Stack.length : Int) := by omega
    rw [reticentref09_Same.l0, if_pos hp, slices_Equal_api_Slot_api_Slot.l0, if_pos hp, lAt_some hk, lAt_some hk', bsome, bsome, bsome, bsome, wS (by omega), i1, i2, List.drop_eq_getElem_cons hk, List.drop_eq_getElem_cons hk']
    by_cases q : x.Stack[k] = y.Stack[k]
    · rw [if_pos q, q]
      simp only [List.cons.injEq, true_and, and_self]
    · rw [if_neg q, if_neg (fun h => q (List.cons.inj h).1)]; exact ⟨rfl, rfl⟩
def sameB (x y : api_State) : Bool := decide (x.Pc = y.Pc) && decide (x.Code = y.Code) && decide (x.Mem = y.Mem) && decide (x.Stack = y.Stack) && decide (x.Out = y.Out)
theorem like {x y : api_State} (z : Sz x) : state_Like.f x y = some (sameB x y) ∧ reticentref09_Same.f x y = some (sameB x y) := by
  have hs : slices_Equal_api_Slot_api_Slot.f x.Stack y.Stack = some (decide (x.Stack = y.Stack)) ∧ (x.Stack.length = y.Stack.length → reticentref09_Same.l0 x y 0 = some (if x.Stack = y.Stack then .inr () else .inl false)) := by
    unfold slices_Equal_api_Slot_api_Slot.f
    by_cases h : x.Stack.length = y.Stack.length
    · obtain ⟨h1, h2⟩ := ssame_l0 h z.stack x.Stack.length 0 (by omega)
      rw [show ((0 : Nat) : Int) = 0 from rfl, List.drop_zero, List.drop_zero] at h1 h2
      have h' : (x.Stack.length : Int) = (y.Stack.length : Int) := by omega
      rw [if_pos h', h1, h2]
      by_cases q : x.Stack = y.Stack
      · rw [if_pos q, decide_eq_true q]; exact ⟨rfl, fun _ => rfl⟩
      · rw [if_neg q, decide_eq_false q]; exact ⟨rfl, fun _ => rfl⟩
    · have h' : ¬ (x.Stack.length : Int) = (y.Stack.length : Int) := by omega
      rw [if_neg h', decide_eq_false (fun q => h (by rw [q]))]; exact ⟨rfl, fun k => absurd k h⟩
  unfold state_Like.f reticentref09_Same.f sameB
  rw [(isame z.code).1, (isame z.code).2, (asame z.mem).1, (asame z.mem).2, (asame z.out).1, (asame z.out).2, hs.1]
  by_cases hp : x.Pc = y.Pc
  · rw [if_pos hp, if_pos hp, decide_eq_true hp, bsome, bsome, bsome, bsome]
    by_cases h : x.Stack.length = y.Stack.length
    · rw [hs.2 h, decide_eq_true (show (x.Stack.length : Int) = (y.Stack.length : Int) by omega)]
      by_cases q : x.Stack = y.Stack
      · rw [if_pos q, decide_eq_true q]
        cases decide (x.Code = y.Code) <;> cases decide (x.Mem = y.Mem) <;> cases decide (x.Out = y.Out) <;> exact ⟨rfl, rfl⟩
      · rw [if_neg q, decide_eq_false q]
        cases decide (x.Code = y.Code) <;> cases decide (x.Mem = y.Mem) <;> cases decide (x.Out = y.Out) <;> exact ⟨rfl, rfl⟩
    · rw [decide_eq_false (show ¬ (x.Stack.length : Int) = (y.Stack.length : Int) by omega), decide_eq_false (show ¬ x.Stack = y.Stack from fun q => h (by rw [q]))]
      cases decide (x.Code = y.Code) <;> cases decide (x.Mem = y.Mem) <;> cases decide (x.Out = y.Out) <;> exact ⟨rfl, rfl⟩
  · rw [if_neg hp, if_neg hp, decide_eq_false hp]; exact ⟨rfl, rfl⟩
/-! An atom's text. -/
def wr (l : api_Lattice) (v a : Int) : Str := (sg v ++ [32, 64, 32]) ++ l.Names.getD a.toNat []
structure Aok (l : api_Lattice) (v a : Int) : Prop where
  v0 : -20 ≤ v
  v1 : v ≤ 20
  a0 : 0 ≤ a
  a1 : a < (l.Names.length : Int)
section
variable {l : api_Lattice} (hN : ∀ s ∈ l.Names, s.length ≤ 1000)
include hN
theorem wr_len {v a : Int} (h : Aok l v a) : (wr l v a).length ≤ 1007 := by
  have b := sg_len h.v0 h.v1
  have c := nm_len hN (k := a.toNat)
  unfold wr
  simp only [List.length_append, List.length_cons, List.length_nil]; omega
theorem nameA {v a : Int} (h : Aok l v a) : lAt l.Names a = some (l.Names.getD a.toNat []) := by
  have h0 := h.a0
  have h1 := h.a1
  obtain ⟨k, rfl⟩ : ∃ k : Nat, a = (k : Int) := ⟨a.toNat, by omega⟩
  rw [Int.toNat_natCast, lAt_some (by omega)]
  simp [show k < l.Names.length by omega]
theorem one_r {v a : Int} (h : Aok l v a) : reticentref09_one.f l v a = some (wr l v a) := by
  have b := sg_len h.v0 h.v1
  have c := nm_len hN (k := a.toNat)
  unfold reticentref09_one.f wr
  rw [sg_r h.v0 h.v1, bsome, if_pos (by simp only [List.length_cons, List.length_nil]; omega), nameA hN h, bsome, if_pos (by simp only [List.length_append, List.length_cons, List.length_nil]; omega)]
theorem written_p {v a : Int} (h : Aok l v a) : state_written.f l v a = some (wr l v a) := by
  have c := nm_len hN (k := a.toNat)
  have hv0 := h.v0
  have hv1 := h.v1
  unfold state_written.f wr sg
  rw [nameA hN h]
  by_cases hv : v < 0
  · have hi : ∃ t, lib_ItoaA v = some t := by
      have hd := decDigits_len v.natAbs (by omega)
      refine ⟨Lib.itoa v, ?_⟩
      unfold lib_ItoaA
      rw [if_neg (by omega), if_pos (by omega), if_pos (show (Lib.itoa v).length ≤ 100 by unfold Lib.itoa; rw [if_pos hv, List.length_cons]; omega)]
    obtain ⟨t, ht⟩ := hi
    obtain ⟨e1, e2⟩ := itoaS (n := 0 - v) (by omega) (by omega)
    rw [ht, bsome, if_pos hv, if_pos hv, wrapZ (by omega) (by omega), e1, bsome, if_pos (by simp only [List.length_cons, List.length_nil]; omega), if_pos (by simp only [List.length_append, List.length_cons, List.length_nil]; omega), bsome, if_pos (by simp only [List.length_append, List.length_cons, List.length_nil]; omega)]
  · obtain ⟨e1, e2⟩ := itoaS (n := v) (by omega) (by omega)
    rw [e1, bsome, if_neg hv, if_neg hv, if_pos (by simp only [List.length_cons, List.length_nil]; omega), bsome, if_pos (by simp only [List.length_append, List.length_cons, List.length_nil]; omega)]
end
end Go.Proofs.YtkcpghpglhamfaaGreatDoor.Su
