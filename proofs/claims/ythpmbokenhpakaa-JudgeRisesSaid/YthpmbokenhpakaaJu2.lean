/- Lattices: joins, meets, why one is none. -/
import Derived.Test.YthpmbokenhpakaaJu1
set_option linter.unusedVariables false
set_option linter.unusedSimpArgs false
namespace Go.Proofs.Ythpmbokenhpakaa.Jdg
open Go Go.Proofs.Ythpmbokenhpakaa.Ab Go.Proofs.Ythpmbokenhpakaa.LE
open Go.Proofs.Ythpmbokenhpakaa.Lat (lAt_some wrap64 wrapU32 ofInt_nat bAnd_nat bOr_nat bShr_nat)
open Classical
def far (s : Str) (k : Nat) : Bool := decide (sAt s (k : Int) < 97) || decide (sAt s (k : Int) > 122)
theorem name_l0 {s : Str} (hs : s.length ≤ 1000) : lattice_name.l0 s 0 = some (out (fstOf s.length fun k => if far s k then some false else none)) := by
  refine search (fun k => lattice_name.l0 s k) s.length _ ?_ ?_
  · show lattice_name.l0 s (s.length : Int) = _
    rw [lattice_name.l0, if_neg (by omega)]
  · intro k hk
    show lattice_name.l0 s (k : Int) = _
    rw [lattice_name.l0, if_pos (by omega), step1 hs hk]
    have hb : (0 : Int) ≤ (k : Int) ∧ (k : Int) < (s.length : Int) := ⟨by omega, by omega⟩
    simp only [if_pos hb]
    unfold far
    by_cases h1 : sAt s (k : Int) < 97 <;> by_cases h2 : sAt s (k : Int) > 122 <;> simp [h1, h2]
theorem refName_l0 {s : Str} (hs : s.length ≤ 1000) : reticentref01_Name.l0 s 0 = some (out (fstOf s.length fun k => if far s k then some false else none)) := by
  refine search (fun k => reticentref01_Name.l0 s k) s.length _ ?_ ?_
  · show reticentref01_Name.l0 s (s.length : Int) = _
    rw [reticentref01_Name.l0, if_neg (by omega)]
  · intro k hk
    show reticentref01_Name.l0 s (k : Int) = _
    rw [reticentref01_Name.l0, if_pos (by omega), step1 hs hk]
    have hb : (0 : Int) ≤ (k : Int) ∧ (k : Int) < (s.length : Int) := ⟨by omega, by omega⟩
    simp only [if_pos hb]
    unfold far
    by_cases h1 : sAt s (k : Int) < 97 <;> by_cases h2 : sAt s (k : Int) > 122 <;> simp [h1, h2]
noncomputable def nameOk (s : Str) : Bool := !decide (∃ k, k < s.length ∧ far s k = true) && (!decide (s = []) && decide (s.length ≤ 12))
theorem name_eq {s : Str} (hs : s.length ≤ 1000) : lattice_name.f s = some (nameOk s) ∧ reticentref01_Name.f s = some (nameOk s) := by
  unfold lattice_name.f reticentref01_Name.f nameOk
  rw [name_l0 hs, refName_l0 hs, fst_bool]
  generalize decide (∃ k, k < s.length ∧ far s k = true) = P
  by_cases h1 : s = []
  · subst h1; cases P <;> simp [out]
  · have : 0 < s.length := List.length_pos_iff.2 h1
    cases P <;> by_cases h2 : s.length ≤ 12 <;> simp [out, h1, h2, this] <;> omega
theorem contains_eq {xs : List Str} {a : Str} (hx : xs.length ≤ 1000) : slices_Contains_string_string.f xs a = some (decide (a ∈ xs)) := by
  unfold slices_Contains_string_string.f slices_Index_string_string.f
  have key : slices_Index_string_string.l0 xs a 0 = some (out (fstOf xs.length fun k => if xs[k]? = some a then some (k : Int) else none)) := by
    refine search (fun k => slices_Index_string_string.l0 xs a k) xs.length _ ?_ ?_
    · show slices_Index_string_string.l0 xs a (xs.length : Int) = _
      rw [slices_Index_string_string.l0, if_neg (by omega)]
    · intro k hk
      show slices_Index_string_string.l0 xs a (k : Int) = _
      rw [slices_Index_string_string.l0, if_pos (by omega), lAt_some hk, step1 hx hk, List.getElem?_eq_getElem hk]
      by_cases e : a = xs[k]
      · simp [← e]
      · have : ¬ xs[k] = a := fun q => e q.symm
        simp [e, this]
  rw [key]
  cases hf : fstOf xs.length (fun k => if xs[k]? = some a then some (k : Int) else none) with
  | none =>
    have hno : ¬ a ∈ xs := by
      intro hm
      obtain ⟨k, hk, e⟩ := List.getElem_of_mem hm
      have := fst_none.1 hf k hk
      rw [if_pos (by rw [List.getElem?_eq_getElem hk, e])] at this; cases this
    simp [out, hno]
  | some r =>
    unfold fstOf at hf
    obtain ⟨k, hk0, hk⟩ := List.exists_of_findSome?_eq_some hf
    have hm : a ∈ xs := by
      by_cases e : xs[k]? = some a
      · exact List.mem_of_getElem? e
      · rw [if_neg e] at hk; cases hk
    have hr : r ≥ 0 := by
      by_cases e : xs[k]? = some a
      · rw [if_pos e] at hk; cases hk; omega
      · rw [if_neg e] at hk; cases hk
    simp [out, hm, hr]
theorem high_l0 (n : Nat) (hn : n ≤ 31) : ∀ (d k u : Nat), n = k + d → u < 4294967296 → reticentref01_high.l0 (n : Int) (u : Int) (k : Int) = some ((u >>> d : Nat) : Int)
  | 0, k, u, e, hu => by
    rw [reticentref01_high.l0, if_neg (by omega)]; simp
  | d + 1, k, u, e, hu => by
    rw [reticentref01_high.l0, if_pos (by omega), half hu, wrap64 (by omega) (by omega)]
    have h2 : u >>> 1 < 4294967296 := Nat.lt_of_le_of_lt (by rw [Nat.shiftRight_eq_div_pow]; exact Nat.div_le_self ..) hu
    have := high_l0 n hn d (k + 1) (u >>> 1) (by omega) h2
    rw [show ((k : Int) + 1) = ((k + 1 : Nat) : Int) by omega, this, ← Nat.shiftRight_add, Nat.add_comm 1 d]
theorem high_eq {u n : Nat} (hn : n ≤ 31) (hu : u < 4294967296) : reticentref01_high.f (u : Int) (n : Int) = some (decide (2 ^ n ≤ u)) := by
  unfold reticentref01_high.f
  have := high_l0 n hn n 0 u (by omega) hu
  rw [show ((0 : Nat) : Int) = 0 from rfl] at this
  rw [this]
  show some (decide (((u >>> n : Nat) : Int) > 0)) = _
  congr 1
  rw [decide_eq_decide, Nat.shiftRight_eq_div_pow]
  have := Nat.div_pos_iff (a := u) (b := 2 ^ n)
  have hp : 0 < 2 ^ n := Nat.pow_pos (by omega)
  constructor
  · intro q; exact (this.1 (by omega)).2
  · intro q; have := this.2 ⟨hp, q⟩; omega
theorem high_shr {u n : Nat} (hn : n ≤ 31) : decide (bShr .u32 (u : Int) (n : Int) = 0) = !decide (2 ^ n ≤ u) := by
  rw [bShr_nat (by omega), ← decide_not, decide_eq_decide, Nat.shiftRight_eq_div_pow]
  rw [show (((u / 2 ^ n : Nat) : Int) = 0 ↔ u / 2 ^ n = 0) by omega]
  rw [Nat.div_eq_zero_iff]
  have hp : 0 < 2 ^ n := Nat.pow_pos (by omega)
  omega
structure Nm (l : api_Lattice) (U : List Nat) : Prop extends Is l U where
  nl : l.Names.length ≤ 10
  sl : ∀ s ∈ l.Names, s.length ≤ 15
noncomputable def badM (N : List Str) (U : List Nat) (i : Nat) : Bool := !nameOk (N.getD i []) || (decide (N.getD i [] ∈ N.take i) || decide (2 ^ U.length ≤ U.getD i 0))
theorem lCut0 {α : Type} {xs : List α} {i : Nat} : lCut xs 0 (i : Int) = xs.take i := by simp [lCut]
theorem may_l0 {l : api_Lattice} {U : List Nat} (h : Nm l U) (he : l.Names.length = U.length) :
    lattice_may.l0 l 0 = some (out (fstOf U.length fun i => if badM l.Names U i then some false else none)) := by
  have hl := h.len
  refine search (fun k => lattice_may.l0 l k) U.length _ ?_ ?_
  · show lattice_may.l0 l (U.length : Int) = _
    rw [lattice_may.l0, if_neg (by omega)]
  · intro k hk
    show lattice_may.l0 l (k : Int) = _
    have hkn : k < l.Names.length := by omega
    have h15 : l.Names[k].length ≤ 1000 := Nat.le_trans (h.sl _ (List.getElem_mem hkn)) (by omega)
    rw [lattice_may.l0, if_pos (by omega), lAt_some hkn]
    simp only [Option.bind_eq_bind, Option.bind_some]
    rw [(name_eq h15).1]
    simp only [Option.bind_eq_bind, Option.bind_some]
    have hb : (0 : Int) ≤ (k : Int) ∧ (k : Int) ≤ (l.Names.length : Int) := ⟨by omega, by omega⟩
    simp only [if_pos hb]
    rw [lCut0, contains_eq (by simp; omega)]
    simp only [Option.bind_eq_bind, Option.bind_some]
    rw [h.at_ hk, h.n]
    simp only [Option.bind_eq_bind, Option.bind_some]
    have hb' : ¬ (U.length : Int) < 0 := by omega
    simp only [if_pos hb']
    rw [high_shr (by omega), step1 (by omega) hk]
    unfold badM
    have e1 : l.Names.getD k [] = l.Names[k] := by simp [hkn]
    have e2 : U.getD k 0 = U[k] := by simp [hk]
    rw [e1, e2]
    generalize decide (l.Names[k] ∈ l.Names.take k) = P
    generalize decide (2 ^ U.length ≤ U[k]) = Q
    cases nameOk l.Names[k] <;> cases P <;> cases Q <;> simp
theorem refMay_l3 {N : List Str} {i : Nat} (a : Str) (hN : N.length ≤ 1000) (l : api_Lattice) (e : l.Names = N) :
    reticentref01_may.l3 l (i : Int) a 0 = some (out (if decide (a ∈ N.take i) = true then some false else none)) := by
  have hi : (N.take i).length ≤ 1000 := by simp; omega
  have key : reticentref01_may.l3 l (i : Int) a 0 = some (out (fstOf (N.take i).length fun k => if decide ((N.take i)[k]? = some a) then some false else none)) := by
    refine search (fun k => reticentref01_may.l3 l (i : Int) a k) (N.take i).length _ ?_ ?_
    · show reticentref01_may.l3 l (i : Int) a ((N.take i).length : Int) = _
      rw [reticentref01_may.l3, e, lCut0, if_neg (by omega)]
    · intro k hk
      show reticentref01_may.l3 l (i : Int) a (k : Int) = _
      rw [reticentref01_may.l3, e, lCut0, if_pos (by omega), lAt_some hk, step1 hi hk, List.getElem?_eq_getElem hk]
      generalize (N.take i)[k] = b
      by_cases e : b = a <;> simp [e]
  rw [key, fst_bool]
  have e : (∃ k, k < (N.take i).length ∧ decide ((N.take i)[k]? = some a) = true) ↔ a ∈ N.take i := by
    constructor
    · rintro ⟨k, hk, q⟩; exact List.mem_of_getElem? (of_decide_eq_true q)
    · intro hm
      obtain ⟨k, hk, q⟩ := List.getElem_of_mem hm
      exact ⟨k, hk, decide_eq_true (by rw [List.getElem?_eq_getElem hk, q])⟩
  simp only [e]
theorem refMay_l2 {l : api_Lattice} {U : List Nat} (h : Nm l U) (he : l.Names.length = U.length) :
    reticentref01_may.l2 l 0 = some (out (fstOf U.length fun i => if badM l.Names U i then some false else none)) := by
  have hl := h.len
  refine search (fun k => reticentref01_may.l2 l k) U.length _ ?_ ?_
  · show reticentref01_may.l2 l (U.length : Int) = _
    rw [reticentref01_may.l2, if_neg (by omega)]
  · intro k hk
    show reticentref01_may.l2 l (k : Int) = _
    have hkn : k < l.Names.length := by omega
    have h15 : l.Names[k].length ≤ 1000 := Nat.le_trans (h.sl _ (List.getElem_mem hkn)) (by omega)
    rw [reticentref01_may.l2, if_pos (by omega), lAt_some hkn]
    simp only [Option.bind_eq_bind, Option.bind_some]
    rw [(name_eq h15).2, h.at_ hk, h.n]
    simp only [Option.bind_eq_bind, Option.bind_some]
    have hb : (0 : Int) ≤ (k : Int) ∧ (k : Int) ≤ (l.Names.length : Int) := ⟨by omega, by omega⟩
    simp only [if_pos hb]
    rw [high_eq (by omega) (h.u hk), refMay_l3 (N := l.Names) _ (by omega) l rfl, step1 (by omega) hk]
    unfold badM
    have e1 : l.Names.getD k [] = l.Names[k] := by simp [hkn]
    have e2 : U.getD k 0 = U[k] := by simp [hk]
    rw [e1, e2]
    generalize decide (l.Names[k] ∈ l.Names.take k) = P
    generalize decide (2 ^ U.length ≤ U[k]) = Q
    cases nameOk l.Names[k] <;> cases P <;> cases Q <;> simp [out]
structure May (l : api_Lattice) (U : List Nat) : Prop where
  pos : 1 ≤ U.length
  le8 : U.length ≤ 8
  nm : l.Names.length = U.length
  ok : ¬ ∃ i, i < U.length ∧ badM l.Names U i = true
theorem may_same {l : api_Lattice} {U : List Nat} (h : Nm l U) : lattice_may.f l = some (decide (May l U)) ∧ reticentref01_may.f l = some (decide (May l U)) := by
  unfold lattice_may.f reticentref01_may.f
  rw [h.n]
  by_cases h1 : (U.length : Int) < 1
  · have : ¬ May l U := fun q => by have := q.pos; omega
    simp [h1, this]
  · by_cases h2 : (U.length : Int) > 8
    · have : ¬ May l U := fun q => by have := q.le8; omega
      simp [h1, h2, this]
    · by_cases he : l.Names.length = U.length
      · have e : (l.Names.length : Int) = (U.length : Int) := by omega
        rw [may_l0 h he, refMay_l2 h he, fst_bool]
        have hm : decide (May l U) = !decide (∃ i, i < U.length ∧ badM l.Names U i = true) := by
          rw [← decide_not, decide_eq_decide]
          exact ⟨fun q => q.ok, fun q => ⟨by omega, by omega, he, q⟩⟩
        rw [hm]
        generalize decide (∃ i, i < U.length ∧ badM l.Names U i = true) = P
        cases P <;> simp [h1, h2, e, out]
      · have : ¬ May l U := fun q => he q.nm
        have e : ¬ (l.Names.length : Int) = (U.length : Int) := by omega
        simp [h1, h2, this, e]
theorem May.bits {l : api_Lattice} {U : List Nat} (q : May l U) : ∀ x ∈ U, x < 2 ^ U.length := by
  intro x hx
  obtain ⟨i, hi, e⟩ := List.getElem_of_mem hx
  apply Classical.byContradiction
  intro hn
  refine q.ok ⟨i, hi, ?_⟩
  have e2 : U.getD i 0 = x := by simp [hi, e]
  unfold badM
  rw [e2]
  simp [show 2 ^ U.length ≤ x by omega]

noncomputable def fi (n : Nat) (p : Nat → Bool) : Int := match fstOf n (fun k => if p k then some (k : Int) else none) with | some r => r | none => -1
theorem fi_out {n : Nat} {p : Nat → Bool} : (match (out (fstOf n (fun k => if p k then some (k : Int) else none)) : Int ⊕ Unit) with | .inl r => some r | .inr () => some (-1 : Int)) = some (fi n p) := by
  unfold fi
  cases fstOf n (fun k => if p k then some (k : Int) else none) <;> rfl
theorem fi_congr {n : Nat} {p q : Nat → Bool} (h : ∀ k, k < n → p k = q k) : fi n p = fi n q := by
  unfold fi
  rw [fst_congr (fun k hk => by rw [h k hk])]
theorem fi_neg {n : Nat} {p : Nat → Bool} : fi n p < 0 ↔ ∀ k, k < n → p k = false := by
  unfold fi
  cases hf : fstOf n (fun k => if p k then some (k : Int) else none) with
  | none =>
    refine ⟨fun _ k hk => ?_, fun _ => by simp⟩
    have := fst_none.1 hf k hk
    cases hp : p k with
    | false => rfl
    | true => rw [hp] at this; simp at this
  | some r =>
    unfold fstOf at hf
    obtain ⟨k, hk0, hk⟩ := List.exists_of_findSome?_eq_some hf
    cases hp : p k with
    | false => rw [hp] at hk; simp at hk
    | true =>
      rw [hp] at hk
      simp at hk
      refine ⟨fun q => by simp at q; omega, fun q => ?_⟩
      rw [q k (by simpa using hk0)] at hp; cases hp
theorem fi_pos {n : Nat} {p : Nat → Bool} (h : 0 ≤ fi n p) : ∃ k, k < n ∧ p k = true ∧ fi n p = (k : Int) := by
  unfold fi at h ⊢
  cases hf : fstOf n (fun k => if p k then some (k : Int) else none) with
  | none => rw [hf] at h; simp at h
  | some r =>
    unfold fstOf at hf
    obtain ⟨k, hk0, hk⟩ := List.exists_of_findSome?_eq_some hf
    cases hp : p k with
    | false => rw [hp] at hk; simp at hk
    | true => rw [hp] at hk; simp at hk; exact ⟨k, by simpa using hk0, hp, by simp [← hk]⟩
theorem fi_one {n k : Nat} {p : Nat → Bool} (hk : k < n) (hp : p k = true) (h1 : ∀ j, j < n → p j = true → j = k) : fi n p = (k : Int) := by
  have : 0 ≤ fi n p := by
    rcases (by omega : fi n p < 0 ∨ 0 ≤ fi n p) with q | q
    · rw [fi_neg.1 q k hk] at hp; cases hp
    · exact q
  obtain ⟨j, hj, hpj, e⟩ := fi_pos this
  rw [e, h1 j hj hpj]
noncomputable def lub (U : List Nat) (a b k : Nat) : Bool := decide (∀ c, c < U.length → (le U k c = true ↔ le U a c = true ∧ le U b c = true))
noncomputable def glb (U : List Nat) (a b k : Nat) : Bool := decide (∀ c, c < U.length → (le U c k = true ↔ le U c a = true ∧ le U c b = true))
noncomputable def jn (U : List Nat) (a b : Nat) : Int := fi U.length (lub U a b)
noncomputable def mt (U : List Nat) (a b : Nat) : Int := fi U.length (glb U a b)
theorem idxF_eq {xs : List Int} {p : Int → Bool} {g : Int → Option Bool} (hg : ∀ x, g x = some (p x)) (hx : xs.length ≤ 1000) :
    slices_IndexFunc_uint32_uint32.f xs g = some (fi xs.length (fun k => p (xs.getD k 0))) := by
  unfold slices_IndexFunc_uint32_uint32.f
  have key : slices_IndexFunc_uint32_uint32.l0 xs g 0 = some (out (fstOf xs.length fun k => if p (xs.getD k 0) then some (k : Int) else none)) := by
    refine search (fun k => slices_IndexFunc_uint32_uint32.l0 xs g k) xs.length _ ?_ ?_
    · show slices_IndexFunc_uint32_uint32.l0 xs g (xs.length : Int) = _
      rw [slices_IndexFunc_uint32_uint32.l0, if_neg (by omega)]
    · intro k hk
      show slices_IndexFunc_uint32_uint32.l0 xs g (k : Int) = _
      have e : xs.getD k 0 = xs[k] := by simp [hk]
      rw [slices_IndexFunc_uint32_uint32.l0, if_pos (by omega), lAt_some hk, step1 hx hk, e]
      simp only [Option.bind_eq_bind, Option.bind_some]
      rw [hg]
      cases p xs[k] <;> simp
  rw [key]
  exact fi_out
theorem bits_eq {U : List Nat} (hU : ∀ x ∈ U, x < 2 ^ U.length) {a b k : Nat} (ha : a < U.length) (hb : b < U.length) (hk : k < U.length) :
    (U[k] = U[a] &&& U[b]) ↔ (∀ c, c < U.length → (le U k c = true ↔ le U a c = true ∧ le U b c = true)) := by
  constructor
  · intro e c _
    rw [le_get hk, le_get ha, le_get hb, e, Nat.testBit_and, Bool.and_eq_true]
  · intro h
    apply Nat.eq_of_testBit_eq
    intro c
    rw [Nat.testBit_and, ← le_get hk, ← le_get ha, ← le_get hb]
    rcases Nat.lt_or_ge c U.length with q | q
    · rw [Bool.eq_iff_iff, Bool.and_eq_true]; exact h c q
    · have f : ∀ a, le U a c = false := by
        intro a
        cases e : le U a c with
        | false => rfl
        | true => have := le_far hU e; omega
      rw [f, f, f]; rfl
theorem join_eq {l : api_Lattice} {U : List Nat} (h : Is l U) (hU : ∀ x ∈ U, x < 2 ^ U.length) {a b : Nat} (ha : a < U.length) (hb : b < U.length) : lattice_join.f l (a : Int) (b : Int) = some (jn U a b) := by
  have hl := h.len
  unfold lattice_join.f
  rw [h.at_ ha, h.at_ hb]
  simp only [Option.bind_eq_bind, Option.bind_some]
  rw [bAnd_nat (h.u ha) (h.u hb), idxF_eq (g := fun z0 => lattice_join_1.f z0 ((U[a] &&& U[b] : Nat) : Int)) (p := fun x => decide (x = ((U[a] &&& U[b] : Nat) : Int))) (fun x => rfl) (by rw [h.n]; omega)]
  simp only [Option.bind_some]
  rw [h.n]
  congr 1
  refine fi_congr fun k hk => ?_
  unfold lub
  rw [decide_eq_decide, ← bits_eq hU ha hb hk]
  have : l.Up.getD k 0 = ((U[k] : Nat) : Int) := by rw [h.up]; simp [hk]
  rw [this]
  exact Int.natCast_inj
theorem fold {L : Int → Bool → Option Bool} {n : Nat} {viol : Nat → Bool} (hend : ∀ b, L (n : Int) b = some b) (hstep : ∀ k b, k < n → L (k : Int) b = L ((k + 1 : Nat) : Int) (if viol k then false else b)) (b : Bool) : L 0 b = some (b && !decide (∃ c, c < n ∧ viol c = true)) := by
  have key : ∀ d k b, n = k + d → L (k : Int) b = some (b && !decide (∃ c, k ≤ c ∧ c < n ∧ viol c = true)) := by
    intro d
    induction d with
    | zero =>
      intro k b e
      rw [show k = n by omega, hend]
      have : ¬ ∃ c, n ≤ c ∧ c < n ∧ viol c = true := by rintro ⟨c, h1, h2, _⟩; omega
      simp only [this, decide_false]; simp
    | succ d ih =>
      intro k b e
      rw [hstep k b (by omega), ih (k + 1) _ (by omega)]
      have : (∃ c, k ≤ c ∧ c < n ∧ viol c = true) ↔ (viol k = true ∨ ∃ c, k + 1 ≤ c ∧ c < n ∧ viol c = true) := by
        constructor
        · rintro ⟨c, h1, h2, h3⟩
          rcases Nat.lt_or_ge k c with q | q
          · exact .inr ⟨c, q, h2, h3⟩
          · exact .inl (by rw [show k = c by omega]; exact h3)
        · rintro (q | ⟨c, h1, h2, h3⟩)
          · exact ⟨k, Nat.le_refl _, by omega, q⟩
          · exact ⟨c, by omega, h2, h3⟩
      simp only [this, Bool.decide_or]
      generalize decide (∃ c, k + 1 ≤ c ∧ c < n ∧ viol c = true) = P
      cases viol k <;> cases P <;> cases b <;> rfl
  have := key n 0 b (by omega)
  simpa using this
theorem refJoin_l3 {l : api_Lattice} {U : List Nat} (h : Is l U) {a b k : Nat} (ha : a < U.length) (hb : b < U.length) (hk : k < U.length) (x : Bool) :
    reticentref01_Join.l3 l (a : Int) (b : Int) (k : Int) 0 x = some (x && !decide (∃ c, c < U.length ∧ (le U a c && le U b c && !le U k c) = true)) := by
  have hl := h.len
  refine fold (L := fun c x => reticentref01_Join.l3 l (a : Int) (b : Int) (k : Int) c x) (fun x => ?_) (fun c x hc => ?_) x
  · show reticentref01_Join.l3 l (a : Int) (b : Int) (k : Int) (U.length : Int) x = _
    rw [reticentref01_Join.l3, h.n, if_neg (by omega)]
  · show reticentref01_Join.l3 l (a : Int) (b : Int) (k : Int) (c : Int) x = _
    rw [reticentref01_Join.l3, h.n, if_pos (by omega), refFlows_eq h ha (by omega), refFlows_eq h hb (by omega), refFlows_eq h hk (by omega), ← le_get ha, ← le_get hb, ← le_get hk, step1 (by omega) hc]
    cases le U a c <;> cases le U b c <;> cases le U k c <;> simp
theorem lub_eq {U : List Nat} (hO : Ord U) {a b k : Nat} (ha : a < U.length) (hb : b < U.length) (hk : k < U.length) :
    (le U a k && le U b k && !decide (∃ c, c < U.length ∧ (le U a c && le U b c && !le U k c) = true)) = lub U a b k := by
  unfold lub
  rw [Bool.eq_iff_iff, Bool.and_eq_true, Bool.and_eq_true, ← decide_not, decide_eq_true_iff, decide_eq_true_iff]
  constructor
  · rintro ⟨⟨h1, h2⟩, h3⟩ c hc
    refine ⟨fun q => ⟨hO.trans a k c ha hk hc h1 q, hO.trans b k c hb hk hc h2 q⟩, fun ⟨q1, q2⟩ => ?_⟩
    cases e : le U k c with
    | true => rfl
    | false => exact absurd ⟨c, hc, by simp [q1, q2, e]⟩ h3
  · intro q
    obtain ⟨h1, h2⟩ := (q k hk).1 (hO.refl k hk)
    refine ⟨⟨h1, h2⟩, ?_⟩
    rintro ⟨c, hc, e⟩
    simp only [Bool.and_eq_true, Bool.not_eq_true'] at e
    rw [(q c hc).2 e.1] at e
    simp at e
theorem refJoin_eq {l : api_Lattice} {U : List Nat} (h : Is l U) (hO : Ord U) {a b : Nat} (ha : a < U.length) (hb : b < U.length) : reticentref01_Join.f l (a : Int) (b : Int) = some (jn U a b) := by
  have hl := h.len
  unfold reticentref01_Join.f
  have key : reticentref01_Join.l2 l (a : Int) (b : Int) 0 = some (out (fstOf U.length fun k => if lub U a b k then some (k : Int) else none)) := by
    refine search (fun k => reticentref01_Join.l2 l (a : Int) (b : Int) k) U.length _ ?_ ?_
    · show reticentref01_Join.l2 l (a : Int) (b : Int) (U.length : Int) = _
      rw [reticentref01_Join.l2, h.n, if_neg (by omega)]
    · intro k hk
      show reticentref01_Join.l2 l (a : Int) (b : Int) (k : Int) = _
      rw [reticentref01_Join.l2, h.n, if_pos (by omega), refFlows_eq h ha (by omega), refFlows_eq h hb (by omega), ← le_get ha, ← le_get hb, step1 (by omega) hk]
      simp only [refJoin_l3 h ha hb hk]
      rw [← lub_eq hO ha hb hk]
      generalize (!decide (∃ c, c < U.length ∧ (le U a c && le U b c && !le U k c) = true)) = P
      cases le U a k <;> cases le U b k <;> cases P <;> simp
  rw [key]
  exact fi_out

theorem bShl_nat {x k : Nat} (hk : k ≤ 20) (hx : x ≤ 1) : bShl .u32 (x : Int) (k : Int) = ((x <<< k : Nat) : Int) := by
  unfold bShl
  show IntKind.u32.wrap ((x : Int) * (2 ^ (min ((k : Int).toNat) 32) : Nat)) = _
  rw [Int.toNat_natCast, Nat.min_eq_left (by omega), ← Int.natCast_mul, Nat.shiftLeft_eq]
  refine wrapU32 ?_
  have : 2 ^ k ≤ 2 ^ 20 := Nat.pow_le_pow_right (by omega) hk
  have : x * 2 ^ k ≤ 1 * 2 ^ 20 := Nat.mul_le_mul hx this
  omega
theorem shr_and1 (u b : Nat) : (u >>> b) &&& 1 = (u.testBit b).toNat := by
  have := shr1 u b
  rcases (show (u >>> b) &&& 1 = 0 ∨ (u >>> b) &&& 1 = 1 by rw [Nat.and_comm, Nat.one_and_eq_mod_two]; omega) with q | q
  · cases e : u.testBit b with
    | false => rw [q]; rfl
    | true => rw [this.2 e] at q; cases q
  · rw [this.1 q, q]; rfl
theorem down_l0 {l : api_Lattice} {U : List Nat} (h : Is l U) {a : Nat} (ha : a ≤ 31) :
    ∀ (d k v : Nat), U.length = k + d → v < 2 ^ k → ∃ r : Nat, lattice_down.l0 l (a : Int) (k : Int) (v : Int) = some (r : Int) ∧ r < 2 ^ U.length ∧ ∀ c, r.testBit c = if c < k then v.testBit c else (decide (c < U.length) && le U c a)
  | 0, k, v, e, hv => by
    have hl := h.len
    refine ⟨v, ?_, by rw [e]; exact hv, fun c => ?_⟩
    · rw [lattice_down.l0, h.n, if_neg (by omega)]
    · by_cases hc : c < k
      · rw [if_pos hc]
      · rw [if_neg hc, Nat.testBit_lt_two_pow (Nat.lt_of_lt_of_le hv (Nat.pow_le_pow_right (n := 2) (by omega) (by omega)))]
        have : ¬ c < U.length := by omega
        simp [this]
  | d + 1, k, v, e, hv => by
    have hl := h.len
    have hk : k < U.length := by omega
    have hs : U[k] >>> a < 4294967296 := Nat.lt_of_le_of_lt (by rw [Nat.shiftRight_eq_div_pow]; exact Nat.div_le_self ..) (h.u hk)
    have hb1 : (U[k].testBit a).toNat ≤ 1 := by cases U[k].testBit a <;> decide
    have hsh : (U[k].testBit a).toNat <<< k < 2 ^ (k + 1) := by
      rw [Nat.shiftLeft_eq, Nat.pow_succ]
      have hp : 0 < 2 ^ k := Nat.pow_pos (by omega)
      cases U[k].testBit a <;> simp <;> omega
    have h10 : 2 ^ (k + 1) ≤ 2 ^ 20 := Nat.pow_le_pow_right (by omega) (by omega)
    have hv' : v < 2 ^ (k + 1) := Nat.lt_of_lt_of_le hv (Nat.pow_le_pow_right (by omega) (by omega))
    obtain ⟨r, hr1, hr2, hr3⟩ := down_l0 h ha d (k + 1) (v ||| ((U[k].testBit a).toNat <<< k)) (by omega) (Nat.or_lt_two_pow hv' hsh)
    refine ⟨r, ?_, hr2, fun c => ?_⟩
    · rw [lattice_down.l0, h.n, if_pos (by omega), h.at_ hk]
      simp only [Option.bind_eq_bind, Option.bind_some]
      rw [if_pos (by omega), if_pos (by omega), bShr_nat (by omega), show (1 : Int) = ((1 : Nat) : Int) from rfl, bAnd_nat hs (by omega), shr_and1, bShl_nat (by omega) hb1, bOr_nat (by omega) (by omega)]
      rw [show ((1 : Nat) : Int) = 1 from rfl, step1 (by omega) hk]
      exact hr1
    · rw [hr3 c, Nat.testBit_or, Nat.testBit_shiftLeft]
      rcases Nat.lt_trichotomy c k with q | q | q
      · rw [if_pos (by omega), if_pos q]
        have : decide (c ≥ k) = false := decide_eq_false (by omega)
        rw [this]; simp
      · subst q
        rw [if_pos (by omega), if_neg (by omega), Nat.testBit_lt_two_pow hv, le_get hk]
        have : decide (c < U.length) = true := decide_eq_true hk
        rw [this]
        cases U[c].testBit a <;> simp
      · rw [if_neg (by omega), if_neg (by omega)]
theorem down_eq {l : api_Lattice} {U : List Nat} (h : Is l U) {a : Nat} (ha : a ≤ 31) : ∃ r : Nat, lattice_down.f l (a : Int) = some (r : Int) ∧ r < 2 ^ U.length ∧ ∀ c, r.testBit c = (decide (c < U.length) && le U c a) := by
  obtain ⟨r, h1, h2, h3⟩ := down_l0 h ha U.length 0 0 (by omega) (by simp)
  refine ⟨r, ?_, h2, fun c => by rw [h3 c, if_neg (by omega)]⟩
  unfold lattice_down.f
  rw [show ((0 : Nat) : Int) = 0 from rfl] at h1
  rw [h1]; rfl
theorem meet_eq {l : api_Lattice} {U : List Nat} (h : Is l U) {a b : Nat} (ha : a < U.length) (hb : b < U.length) : lattice_meet.f l (a : Int) (b : Int) = some (mt U a b) := by
  have hl := h.len
  obtain ⟨ra, ea, la, ta⟩ := down_eq h (a := a) (by omega)
  obtain ⟨rb, eb, lb, tb⟩ := down_eq h (a := b) (by omega)
  have h10 : 2 ^ U.length ≤ 2 ^ 10 := Nat.pow_le_pow_right (by omega) hl
  unfold lattice_meet.f
  rw [ea, eb]
  simp only [Option.bind_eq_bind, Option.bind_some]
  have key : lattice_meet.l0 l (ra : Int) (rb : Int) 0 = some (out (fstOf U.length fun k => if glb U a b k then some (k : Int) else none)) := by
    refine search (fun k => lattice_meet.l0 l (ra : Int) (rb : Int) k) U.length _ ?_ ?_
    · show lattice_meet.l0 l (ra : Int) (rb : Int) (U.length : Int) = _
      rw [lattice_meet.l0, h.n, if_neg (by omega)]
    · intro k hk
      show lattice_meet.l0 l (ra : Int) (rb : Int) (k : Int) = _
      obtain ⟨rk, ek, lk, tk⟩ := down_eq h (a := k) (by omega)
      rw [lattice_meet.l0, h.n, if_pos (by omega), ek, bAnd_nat (by omega) (by omega), step1 (by omega) hk]
      simp only [Option.bind_eq_bind, Option.bind_some]
      have hg : ((rk : Int) = ((ra &&& rb : Nat) : Int)) ↔ glb U a b k = true := by
        rw [Int.natCast_inj]
        unfold glb
        rw [decide_eq_true_iff]
        constructor
        · intro e c hc
          have := congrArg (fun x => x.testBit c) e
          simp only [Nat.testBit_and, tk, ta, tb, decide_eq_true hc, Bool.true_and] at this
          rw [this, Bool.and_eq_true]
        · intro q
          apply Nat.eq_of_testBit_eq
          intro c
          rw [Nat.testBit_and, tk, ta, tb]
          rcases Nat.lt_or_ge c U.length with hc | hc
          · rw [decide_eq_true hc, Bool.true_and, Bool.true_and, Bool.true_and, Bool.eq_iff_iff, Bool.and_eq_true]; exact q c hc
          · rw [decide_eq_false (by omega)]; rfl
      cases e : glb U a b k with
      | true => rw [if_pos (hg.2 e)]; rfl
      | false => rw [if_neg (fun q => by rw [hg.1 q] at e; cases e)]; rfl
  rw [key]
  exact fi_out
theorem refMeet_l3 {l : api_Lattice} {U : List Nat} (h : Is l U) {a b k : Nat} (ha : a < U.length) (hb : b < U.length) (hk : k < U.length) (x : Bool) :
    reticentref01_Meet.l3 l (a : Int) (b : Int) (k : Int) 0 x = some (x && !decide (∃ c, c < U.length ∧ (le U c a && le U c b && !le U c k) = true)) := by
  have hl := h.len
  refine fold (L := fun c x => reticentref01_Meet.l3 l (a : Int) (b : Int) (k : Int) c x) (fun x => ?_) (fun c x hc => ?_) x
  · show reticentref01_Meet.l3 l (a : Int) (b : Int) (k : Int) (U.length : Int) x = _
    rw [reticentref01_Meet.l3, h.n, if_neg (by omega)]
  · show reticentref01_Meet.l3 l (a : Int) (b : Int) (k : Int) (c : Int) x = _
    rw [reticentref01_Meet.l3, h.n, if_pos (by omega), refFlows_eq h hc (by omega), refFlows_eq h hc (by omega), refFlows_eq h hc (by omega), ← le_get hc, ← le_get hc, ← le_get hc, step1 (by omega) hc]
    cases le U c a <;> cases le U c b <;> cases le U c k <;> simp
theorem glb_eq {U : List Nat} (hO : Ord U) {a b k : Nat} (ha : a < U.length) (hb : b < U.length) (hk : k < U.length) :
    (le U k a && le U k b && !decide (∃ c, c < U.length ∧ (le U c a && le U c b && !le U c k) = true)) = glb U a b k := by
  unfold glb
  rw [Bool.eq_iff_iff, Bool.and_eq_true, Bool.and_eq_true, ← decide_not, decide_eq_true_iff, decide_eq_true_iff]
  constructor
  · rintro ⟨⟨h1, h2⟩, h3⟩ c hc
    refine ⟨fun q => ⟨hO.trans c k a hc hk ha q h1, hO.trans c k b hc hk hb q h2⟩, fun ⟨q1, q2⟩ => ?_⟩
    cases e : le U c k with
    | true => rfl
    | false => exact absurd ⟨c, hc, by simp [q1, q2, e]⟩ h3
  · intro q
    obtain ⟨h1, h2⟩ := (q k hk).1 (hO.refl k hk)
    refine ⟨⟨h1, h2⟩, ?_⟩
    rintro ⟨c, hc, e⟩
    simp only [Bool.and_eq_true, Bool.not_eq_true'] at e
    rw [(q c hc).2 e.1] at e
    simp at e
theorem refMeet_eq {l : api_Lattice} {U : List Nat} (h : Is l U) (hO : Ord U) {a b : Nat} (ha : a < U.length) (hb : b < U.length) : reticentref01_Meet.f l (a : Int) (b : Int) = some (mt U a b) := by
  have hl := h.len
  unfold reticentref01_Meet.f
  have key : reticentref01_Meet.l2 l (a : Int) (b : Int) 0 = some (out (fstOf U.length fun k => if glb U a b k then some (k : Int) else none)) := by
    refine search (fun k => reticentref01_Meet.l2 l (a : Int) (b : Int) k) U.length _ ?_ ?_
    · show reticentref01_Meet.l2 l (a : Int) (b : Int) (U.length : Int) = _
      rw [reticentref01_Meet.l2, h.n, if_neg (by omega)]
    · intro k hk
      show reticentref01_Meet.l2 l (a : Int) (b : Int) (k : Int) = _
      rw [reticentref01_Meet.l2, h.n, if_pos (by omega), refFlows_eq h hk (by omega), refFlows_eq h hk (by omega), ← le_get hk, ← le_get hk, step1 (by omega) hk]
      simp only [refMeet_l3 h ha hb hk]
      rw [← glb_eq hO ha hb hk]
      generalize (!decide (∃ c, c < U.length ∧ (le U c a && le U c b && !le U c k) = true)) = P
      cases le U k a <;> cases le U k b <;> cases P <;> simp
  rw [key]
  exact fi_out

noncomputable def bad3 (U : List Nat) (a b : Nat) : Bool := decide (jn U a b < 0) || decide (mt U a b < 0)
noncomputable def chk (l : api_Lattice) (U : List Nat) : Int := if ¬ May l U then 1 else if ¬ Ord U then 2 else if ∃ a b, a < U.length ∧ b < U.length ∧ bad3 U a b = true then 3 else 0
theorem check_eq {l : api_Lattice} {U : List Nat} (h : Nm l U) : lattice_Check.f l = some (chk l U) := by
  have hl := h.len
  unfold lattice_Check.f chk
  rw [(may_same h).1]
  by_cases hm : May l U
  · rw [(order_same h.toIs hm.bits).1]
    by_cases hO : Ord U
    · unfold lattice_pairs.f
      have := pairs_eq (t := (0 : Int)) (t' := 3) (n := U.length) (yb := lattice_Check.y0 l) (bad := bad3 U) (by omega) (fun a b ha hb => by
        unfold lattice_Check.y0 bad3
        rw [join_eq h.toIs hm.bits ha hb, meet_eq h.toIs ha hb]
        by_cases h1 : jn U a b < 0 <;> by_cases h2 : mt U a b < 0 <;> simp [h1, h2])
      rw [h.n]
      simp only [Option.bind_eq_bind, Option.bind_some]
      rw [this]
      by_cases hb : ∃ a b, a < U.length ∧ b < U.length ∧ bad3 U a b = true
      · simp only [if_pos hb, hm, hO]; simp
      · simp only [if_neg hb, hm, hO]; simp
    · simp [hm, hO]
  · simp [hm]
theorem refCheck_l3 {l : api_Lattice} {U : List Nat} (h : Is l U) (hO : Ord U) {a : Nat} (ha : a < U.length) :
    reticentref01_Check.l3 l (a : Int) 0 = some (out (fstOf U.length fun b => if bad3 U a b then some (3 : Int) else none)) := by
  have hl := h.len
  refine search (fun k => reticentref01_Check.l3 l (a : Int) k) U.length _ ?_ ?_
  · show reticentref01_Check.l3 l (a : Int) (U.length : Int) = _
    rw [reticentref01_Check.l3, h.n, if_neg (by omega)]
  · intro b hb
    show reticentref01_Check.l3 l (a : Int) (b : Int) = _
    rw [reticentref01_Check.l3, h.n, if_pos (by omega), refJoin_eq h hO ha hb, refMeet_eq h hO ha hb, step1 (by omega) hb]
    unfold bad3
    by_cases h1 : jn U a b < 0 <;> by_cases h2 : mt U a b < 0 <;> simp [h1, h2]
theorem refCheck_eq {l : api_Lattice} {U : List Nat} (h : Nm l U) : reticentref01_Check.f l = some (chk l U) := by
  have hl := h.len
  unfold reticentref01_Check.f chk
  rw [(may_same h).2]
  by_cases hm : May l U
  · rw [(order_same h.toIs hm.bits).2]
    by_cases hO : Ord U
    · have key : reticentref01_Check.l2 l 0 = some (out (fstOf U.length fun a => if decide (∃ b, b < U.length ∧ bad3 U a b = true) then some (3 : Int) else none)) := by
        refine search (fun k => reticentref01_Check.l2 l k) U.length _ ?_ ?_
        · show reticentref01_Check.l2 l (U.length : Int) = _
          rw [reticentref01_Check.l2, h.n, if_neg (by omega)]
        · intro a ha
          show reticentref01_Check.l2 l (a : Int) = _
          rw [reticentref01_Check.l2, h.n, if_pos (by omega), refCheck_l3 h.toIs hO ha, fst_bool, step1 (by omega) ha]
          generalize decide (∃ b, b < U.length ∧ bad3 U a b = true) = P
          cases P <;> simp [out]
      rw [key, fst_bool]
      have e : (∃ a, a < U.length ∧ decide (∃ b, b < U.length ∧ bad3 U a b = true) = true) ↔ ∃ a b, a < U.length ∧ b < U.length ∧ bad3 U a b = true := by
        constructor
        · rintro ⟨a, ha, q⟩; obtain ⟨b, hb, q⟩ := of_decide_eq_true q; exact ⟨a, b, ha, hb, q⟩
        · rintro ⟨a, b, ha, hb, q⟩; exact ⟨a, ha, decide_eq_true ⟨b, hb, q⟩⟩
      simp only [e]
      by_cases hb : ∃ a b, a < U.length ∧ b < U.length ∧ bad3 U a b = true
      · simp only [if_pos hb, decide_eq_true hb, hm, hO]; simp [out]
      · simp only [if_neg hb, decide_eq_false hb, hm, hO]; simp [out]
    · simp [hm, hO]
  · simp [hm]
theorem chk_ne9 {l : api_Lattice} {U : List Nat} : chk l U ≠ 9 := by
  unfold chk
  split
  · decide
  · split
    · decide
    · split <;> decide
theorem chk_zero {l : api_Lattice} {U : List Nat} (h : chk l U = 0) : May l U ∧ Ord U ∧ ∀ a b, a < U.length → b < U.length → 0 ≤ jn U a b ∧ 0 ≤ mt U a b := by
  unfold chk at h
  by_cases hm : May l U
  · by_cases hO : Ord U
    · by_cases hb : ∃ a b, a < U.length ∧ b < U.length ∧ bad3 U a b = true
      · rw [if_neg (fun k => k hm), if_neg (fun k => k hO), if_pos hb] at h; cases h
      · refine ⟨hm, hO, fun a b ha hb' => ?_⟩
        have : ¬ bad3 U a b = true := fun q => hb ⟨a, b, ha, hb', q⟩
        simp [bad3] at this
        exact this
    · rw [if_neg (fun k => k hm), if_pos hO] at h; cases h
  · rw [if_pos hm] at h; cases h
theorem idxFI_eq {xs : List Int} {p : Int → Bool} {g : Int → Option Bool} (hg : ∀ x, g x = some (p x)) (hx : xs.length ≤ 1000) :
    slices_IndexFunc_int_int.f xs g = some (fi xs.length (fun k => p (xs.getD k 0))) := by
  unfold slices_IndexFunc_int_int.f
  have key : slices_IndexFunc_int_int.l0 xs g 0 = some (out (fstOf xs.length fun k => if p (xs.getD k 0) then some (k : Int) else none)) := by
    refine search (fun k => slices_IndexFunc_int_int.l0 xs g k) xs.length _ ?_ ?_
    · show slices_IndexFunc_int_int.l0 xs g (xs.length : Int) = _
      rw [slices_IndexFunc_int_int.l0, if_neg (by omega)]
    · intro k hk
      show slices_IndexFunc_int_int.l0 xs g (k : Int) = _
      have e : xs.getD k 0 = xs[k] := by simp [hk]
      rw [slices_IndexFunc_int_int.l0, if_pos (by omega), lAt_some hk, step1 hx hk, e]
      simp only [Option.bind_eq_bind, Option.bind_some]
      rw [hg]
      cases p xs[k] <;> simp
  rw [key]
  exact fi_out
def inn (n : Nat) (a : Int) : Bool := decide (0 ≤ a) && decide (a < (n : Int))
theorem containsF_eq {xs : List Int} {p : Int → Bool} {g : Int → Option Bool} (hg : ∀ x, g x = some (p x)) (hx : xs.length ≤ 1000) :
    slices_ContainsFunc_int_int.f xs g = some (xs.any p) := by
  unfold slices_ContainsFunc_int_int.f
  rw [idxFI_eq hg hx]
  show some (decide (fi xs.length (fun k => p (xs.getD k 0)) ≥ 0)) = _
  congr 1
  rw [Bool.eq_iff_iff, decide_eq_true_iff, List.any_eq_true]
  constructor
  · intro q
    obtain ⟨k, hk, hp, _⟩ := fi_pos q
    refine ⟨xs[k], List.getElem_mem hk, ?_⟩
    simpa [hk] using hp
  · rintro ⟨x, hx, hp⟩
    obtain ⟨k, hk, e⟩ := List.getElem_of_mem hx
    rcases (by omega : fi xs.length (fun k => p (xs.getD k 0)) < 0 ∨ fi xs.length (fun k => p (xs.getD k 0)) ≥ 0) with q | q
    · have := fi_neg.1 q k hk
      simp [hk, e, hp] at this
    · exact q
theorem there_eq {l : api_Lattice} {U : List Nat} (h : Nm l U) {xs : List Int} (hx : xs.length ≤ 1000) :
    lattice_there.f l xs = some (if chk l U = 0 then (if xs.all (inn U.length) = true then 0 else 9) else chk l U) := by
  unfold lattice_there.f
  rw [check_eq h, containsF_eq (g := fun z0 => lattice_there_1.f z0 l) (p := fun a => !inn U.length a) (fun x => by
    unfold lattice_there_1.f inn
    rw [h.n]
    by_cases h1 : x < 0
    · have h1' : ¬ 0 ≤ x := by omega
      simp [h1, h1']
    · have h1' : 0 ≤ x := by omega
      by_cases h2 : x < (U.length : Int)
      · have h2' : ¬ x ≥ (U.length : Int) := by omega
        simp [h1, h1', h2, h2']
      · have h2' : x ≥ (U.length : Int) := by omega
        simp [h1, h1', h2, h2']) hx]
  have : xs.any (fun a => !inn U.length a) = !xs.all (inn U.length) := by rw [List.not_all_eq_any_not]
  rw [this]
  by_cases h0 : chk l U = 0 <;> cases xs.all (inn U.length) <;> simp [h0]
theorem inn_nat {n : Nat} {a : Int} (h : inn n a = true) : ∃ k : Nat, a = (k : Int) ∧ k < n := by
  unfold inn at h
  simp at h
  exact ⟨a.toNat, by omega, by omega⟩
end Go.Proofs.Ythpmbokenhpakaa.Jdg
