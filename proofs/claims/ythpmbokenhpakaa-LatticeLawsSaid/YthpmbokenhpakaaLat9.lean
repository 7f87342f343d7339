/- What may be a lattice: names, and no bits beyond. -/
import Derived.Test.YthpmbokenhpakaaLat8
set_option linter.unusedVariables false
namespace Go.Proofs.Ythpmbokenhpakaa.Lat
open Go Go.Proofs.Ythpmbokenhpakaa.Ab Go.Proofs.Ythpmbokenhpakaa.LA
open Classical
def far (s : Str) (k : Nat) : Bool := decide (sAt s (k : Int) < 97) || decide (sAt s (k : Int) > 122)
theorem name_l0 {s : Str} (hs : s.length ≤ 1000) : lattice_name.l0 s 0 = some (out (fstOf s.length fun k => if far s k then some false else none)) := by
  refine search (fun k => lattice_name.l0 s k) s.length _ ?_ ?_
  · show lattice_name.l0 s (s.length : Int) = _
    rw [lattice_name.l0, if_neg (by omega)]
  · intro k hk
    show lattice_name.l0 s (k : Int) = _
    rw [lattice_name.l0, if_pos (by omega), step1 hs hk]
    have hb : (0 : Int) ≤ (k : Int) ∧ (k : Int) < (s.length : Int) := ⟨by omega, by omega⟩
    simp only [if_pos hb]
    unfold far
    by_cases h1 : sAt s (k : Int) < 97 <;> by_cases h2 : sAt s (k : Int) > 122 <;> simp [h1, h2]
theorem refName_l0 {s : Str} (hs : s.length ≤ 1000) : reticentref01_Name.l0 s 0 = some (out (fstOf s.length fun k => if far s k then some false else none)) := by
  refine search (fun k => reticentref01_Name.l0 s k) s.length _ ?_ ?_
  · show reticentref01_Name.l0 s (s.length : Int) = _
    rw [reticentref01_Name.l0, if_neg (by omega)]
  · intro k hk
    show reticentref01_Name.l0 s (k : Int) = _
    rw [reticentref01_Name.l0, if_pos (by omega), step1 hs hk]
    have hb : (0 : Int) ≤ (k : Int) ∧ (k : Int) < (s.length : Int) := ⟨by omega, by omega⟩
    simp only [if_pos hb]
    unfold far
    by_cases h1 : sAt s (k : Int) < 97 <;> by_cases h2 : sAt s (k : Int) > 122 <;> simp [h1, h2]
noncomputable def nameOk (s : Str) : Bool := !decide (∃ k, k < s.length ∧ far s k = true) && (!decide (s = []) && decide (s.length ≤ 12))
theorem name_eq {s : Str} (hs : s.length ≤ 1000) : lattice_name.f s = some (nameOk s) ∧ reticentref01_Name.f s = some (nameOk s) := by
  unfold lattice_name.f reticentref01_Name.f nameOk
  rw [name_l0 hs, refName_l0 hs, fst_bool]
  generalize decide (∃ k, k < s.length ∧ far s k = true) = P
  by_cases h1 : s = []
  · subst h1; cases P <;> simp [out]
  · have : 0 < s.length := List.length_pos_iff.2 h1
    cases P <;> by_cases h2 : s.length ≤ 12 <;> simp [out, h1, h2, this] <;> omega
theorem contains_eq {xs : List Str} {a : Str} (hx : xs.length ≤ 1000) : slices_Contains_string_string.f xs a = some (decide (a ∈ xs)) := by
  unfold slices_Contains_string_string.f slices_Index_string_string.f
  have key : slices_Index_string_string.l0 xs a 0 = some (out (fstOf xs.length fun k => if xs[k]? = some a then some (k : Int) else none)) := by
    refine search (fun k => slices_Index_string_string.l0 xs a k) xs.length _ ?_ ?_
    · show slices_Index_string_string.l0 xs a (xs.length : Int) = _
      rw [slices_Index_string_string.l0, if_neg (by omega)]
    · intro k hk
      show slices_Index_string_string.l0 xs a (k : Int) = _
      rw [slices_Index_string_string.l0, if_pos (by omega), lAt_some hk, step1 hx hk, List.getElem?_eq_getElem hk]
      by_cases e : a = xs[k]
      · simp [← e]
      · have : ¬ xs[k] = a := fun q => e q.symm
        simp [e, this]
  rw [key]
  cases hf : fstOf xs.length (fun k => if xs[k]? = some a then some (k : Int) else none) with
  | none =>
    have hno : ¬ a ∈ xs := by
      intro hm
      obtain ⟨k, hk, e⟩ := List.getElem_of_mem hm
      have := fst_none.1 hf k hk
      rw [if_pos (by rw [List.getElem?_eq_getElem hk, e])] at this; cases this
    simp [out, hno]
  | some r =>
    unfold fstOf at hf
    obtain ⟨k, hk0, hk⟩ := List.exists_of_findSome?_eq_some hf
    have hm : a ∈ xs := by
      by_cases e : xs[k]? = some a
      · exact List.mem_of_getElem? e
      · rw [if_neg e] at hk; cases hk
    have hr : r ≥ 0 := by
      by_cases e : xs[k]? = some a
      · rw [if_pos e] at hk; cases hk; omega
      · rw [if_neg e] at hk; cases hk
    simp [out, hm, hr]
theorem high_l0 (n : Nat) (hn : n ≤ 31) : ∀ (d k u : Nat), n = k + d → u < 4294967296 → reticentref01_high.l0 (n : Int) (u : Int) (k : Int) = some ((u >>> d : Nat) : Int)
  | 0, k, u, e, hu => by
    rw [reticentref01_high.l0, if_neg (by omega)]; simp
  | d + 1, k, u, e, hu => by
    rw [reticentref01_high.l0, if_pos (by omega), half hu, wrap64 (by omega) (by omega)]
    have h2 : u >>> 1 < 4294967296 := Nat.lt_of_le_of_lt (by rw [Nat.shiftRight_eq_div_pow]; exact Nat.div_le_self ..) hu
    have := high_l0 n hn d (k + 1) (u >>> 1) (by omega) h2
    rw [show ((k : Int) + 1) = ((k + 1 : Nat) : Int) by omega, this, ← Nat.shiftRight_add, Nat.add_comm 1 d]
theorem high_eq {u n : Nat} (hn : n ≤ 31) (hu : u < 4294967296) : reticentref01_high.f (u : Int) (n : Int) = some (decide (2 ^ n ≤ u)) := by
  unfold reticentref01_high.f
  have := high_l0 n hn n 0 u (by omega) hu
  rw [show ((0 : Nat) : Int) = 0 from rfl] at this
  rw [this]
  show some (decide (((u >>> n : Nat) : Int) > 0)) = _
  congr 1
  rw [decide_eq_decide, Nat.shiftRight_eq_div_pow]
  have := Nat.div_pos_iff (a := u) (b := 2 ^ n)
  have hp : 0 < 2 ^ n := Nat.pow_pos (by omega)
  constructor
  · intro q; exact (this.1 (by omega)).2
  · intro q; have := this.2 ⟨hp, q⟩; omega
theorem high_shr {u n : Nat} (hn : n ≤ 31) : decide (bShr .u32 (u : Int) (n : Int) = 0) = !decide (2 ^ n ≤ u) := by
  rw [bShr_nat (by omega), ← decide_not, decide_eq_decide, Nat.shiftRight_eq_div_pow]
  rw [show (((u / 2 ^ n : Nat) : Int) = 0 ↔ u / 2 ^ n = 0) by omega]
  rw [Nat.div_eq_zero_iff]
  have hp : 0 < 2 ^ n := Nat.pow_pos (by omega)
  omega
structure Nm (l : api_Lattice) (U : List Nat) : Prop extends Is l U where
  nl : l.Names.length ≤ 10
  sl : ∀ s ∈ l.Names, s.length ≤ 15
noncomputable def badM (N : List Str) (U : List Nat) (i : Nat) : Bool := !nameOk (N.getD i []) || (decide (N.getD i [] ∈ N.take i) || decide (2 ^ U.length ≤ U.getD i 0))
theorem lCut0 {α : Type} {xs : List α} {i : Nat} : lCut xs 0 (i : Int) = xs.take i := by simp [lCut]
theorem may_l0 {l : api_Lattice} {U : List Nat} (h : Nm l U) (he : l.Names.length = U.length) :
    lattice_may.l0 l 0 = some (out (fstOf U.length fun i => if badM l.Names U i then some false else none)) := by
  have hl := h.len
  refine search (fun k => lattice_may.l0 l k) U.length _ ?_ ?_
  · show lattice_may.l0 l (U.length : Int) = _
    rw [lattice_may.l0, if_neg (by omega)]
  · intro k hk
    show lattice_may.l0 l (k : Int) = _
    have hkn : k < l.Names.length := by omega
    have h15 : l.Names[k].length ≤ 1000 := Nat.le_trans (h.sl _ (List.getElem_mem hkn)) (by omega)
    rw [lattice_may.l0, if_pos (by omega), lAt_some hkn]
    simp only [Option.bind_eq_bind, Option.bind_some]
    rw [(name_eq h15).1]
    simp only [Option.bind_eq_bind, Option.bind_some]
    have hb : (0 : Int) ≤ (k : Int) ∧ (k : Int) ≤ (l.Names.length : Int) := ⟨by omega, by omega⟩
    simp only [if_pos hb]
    rw [lCut0, contains_eq (by simp; omega)]
    simp only [Option.bind_eq_bind, Option.bind_some]
    rw [h.at_ hk, h.n]
    simp only [Option.bind_eq_bind, Option.bind_some]
    have hb' : ¬ (U.length : Int) < 0 := by omega
    simp only [if_pos hb']
    rw [high_shr (by omega), step1 (by omega) hk]
    unfold badM
    have e1 : l.Names.getD k [] = l.Names[k] := by simp [hkn]
    have e2 : U.getD k 0 = U[k] := by simp [hk]
    rw [e1, e2]
    generalize decide (l.Names[k] ∈ l.Names.take k) = P
    generalize decide (2 ^ U.length ≤ U[k]) = Q
    cases nameOk l.Names[k] <;> cases P <;> cases Q <;> simp
theorem refMay_l3 {N : List Str} {i : Nat} (a : Str) (hN : N.length ≤ 1000) (l : api_Lattice) (e : l.Names = N) :
    reticentref01_may.l3 l (i : Int) a 0 = some (out (if decide (a ∈ N.take i) = true then some false else none)) := by
  have hi : (N.take i).length ≤ 1000 := by simp; omega
  have key : reticentref01_may.l3 l (i : Int) a 0 = some (out (fstOf (N.take i).length fun k => if decide ((N.take i)[k]? = some a) then some false else none)) := by
    refine search (fun k => reticentref01_may.l3 l (i : Int) a k) (N.take i).length _ ?_ ?_
    · show reticentref01_may.l3 l (i : Int) a ((N.take i).length : Int) = _
      rw [reticentref01_may.l3, e, lCut0, if_neg (by omega)]
    · intro k hk
      show reticentref01_may.l3 l (i : Int) a (k : Int) = _
      rw [reticentref01_may.l3, e, lCut0, if_pos (by omega), lAt_some hk, step1 hi hk, List.getElem?_eq_getElem hk]
      generalize (N.take i)[k] = b
      by_cases e : b = a <;> simp [e]
  rw [key, fst_bool]
  have e : (∃ k, k < (N.take i).length ∧ decide ((N.take i)[k]? = some a) = true) ↔ a ∈ N.take i := by
    constructor
    · rintro ⟨k, hk, q⟩; exact List.mem_of_getElem? (of_decide_eq_true q)
    · intro hm
      obtain ⟨k, hk, q⟩ := List.getElem_of_mem hm
      exact ⟨k, hk, decide_eq_true (by rw [List.getElem?_eq_getElem hk, q])⟩
  simp only [e]
theorem refMay_l2 {l : api_Lattice} {U : List Nat} (h : Nm l U) (he : l.Names.length = U.length) :
    reticentref01_may.l2 l 0 = some (out (fstOf U.length fun i => if badM l.Names U i then some false else none)) := by
  have hl := h.len
  refine search (fun k => reticentref01_may.l2 l k) U.length _ ?_ ?_
  · show reticentref01_may.l2 l (U.length : Int) = _
    rw [reticentref01_may.l2, if_neg (by omega)]
  · intro k hk
    show reticentref01_may.l2 l (k : Int) = _
    have hkn : k < l.Names.length := by omega
    have h15 : l.Names[k].length ≤ 1000 := Nat.le_trans (h.sl _ (List.getElem_mem hkn)) (by omega)
    rw [reticentref01_may.l2, if_pos (by omega), lAt_some hkn]
    simp only [Option.bind_eq_bind, Option.bind_some]
    rw [(name_eq h15).2, h.at_ hk, h.n]
    simp only [Option.bind_eq_bind, Option.bind_some]
    have hb : (0 : Int) ≤ (k : Int) ∧ (k : Int) ≤ (l.Names.length : Int) := ⟨by omega, by omega⟩
    simp only [if_pos hb]
    rw [high_eq (by omega) (h.u hk), refMay_l3 (N := l.Names) _ (by omega) l rfl, step1 (by omega) hk]
    unfold badM
    have e1 : l.Names.getD k [] = l.Names[k] := by simp [hkn]
    have e2 : U.getD k 0 = U[k] := by simp [hk]
    rw [e1, e2]
    generalize decide (l.Names[k] ∈ l.Names.take k) = P
    generalize decide (2 ^ U.length ≤ U[k]) = Q
    cases nameOk l.Names[k] <;> cases P <;> cases Q <;> simp [out]
structure May (l : api_Lattice) (U : List Nat) : Prop where
  pos : 1 ≤ U.length
  le8 : U.length ≤ 8
  nm : l.Names.length = U.length
  ok : ¬ ∃ i, i < U.length ∧ badM l.Names U i = true
theorem may_same {l : api_Lattice} {U : List Nat} (h : Nm l U) : lattice_may.f l = some (decide (May l U)) ∧ reticentref01_may.f l = some (decide (May l U)) := by
  unfold lattice_may.f reticentref01_may.f
  rw [h.n]
  by_cases h1 : (U.length : Int) < 1
  · have : ¬ May l U := fun q => by have := q.pos; omega
    simp [h1, this]
  · by_cases h2 : (U.length : Int) > 8
    · have : ¬ May l U := fun q => by have := q.le8; omega
      simp [h1, h2, this]
    · by_cases he : l.Names.length = U.length
      · have e : (l.Names.length : Int) = (U.length : Int) := by omega
        rw [may_l0 h he, refMay_l2 h he, fst_bool]
        have hm : decide (May l U) = !decide (∃ i, i < U.length ∧ badM l.Names U i = true) := by
          rw [← decide_not, decide_eq_decide]
          exact ⟨fun q => q.ok, fun q => ⟨by omega, by omega, he, q⟩⟩
        rw [hm]
        generalize decide (∃ i, i < U.length ∧ badM l.Names U i = true) = P
        cases P <;> simp [h1, h2, e, out]
      · have : ¬ May l U := fun q => he q.nm
        have e : ¬ (l.Names.length : Int) = (U.length : Int) := by omega
        simp [h1, h2, this, e]
theorem May.bits {l : api_Lattice} {U : List Nat} (q : May l U) : ∀ x ∈ U, x < 2 ^ U.length := by
  intro x hx
  obtain ⟨i, hi, e⟩ := List.getElem_of_mem hx
  apply Classical.byContradiction
  intro hn
  refine q.ok ⟨i, hi, ?_⟩
  have e2 : U.getD i 0 = x := by simp [hi, e]
  unfold badM
  rw [e2]
  simp [show 2 ^ U.length ≤ x by omega]
end Go.Proofs.Ythpmbokenhpakaa.Lat
