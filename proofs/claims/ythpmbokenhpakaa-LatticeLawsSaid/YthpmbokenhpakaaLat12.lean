/- Why it is no lattice; whether a label is there; heights. -/
import Derived.Test.YthpmbokenhpakaaLat11
set_option linter.unusedVariables false
namespace Go.Proofs.Ythpmbokenhpakaa.Lat
open Go Go.Proofs.Ythpmbokenhpakaa.Ab Go.Proofs.Ythpmbokenhpakaa.LA
open Classical
noncomputable def bad3 (U : List Nat) (a b : Nat) : Bool := decide (jn U a b < 0) || decide (mt U a b < 0)
noncomputable def chk (l : api_Lattice) (U : List Nat) : Int := if ¬ May l U then 1 else if ¬ Ord U then 2 else if ∃ a b, a < U.length ∧ b < U.length ∧ bad3 U a b = true then 3 else 0
theorem check_eq {l : api_Lattice} {U : List Nat} (h : Nm l U) : lattice_Check.f l = some (chk l U) := by
  have hl := h.len
  unfold lattice_Check.f chk
  rw [(may_same h).1]
  by_cases hm : May l U
  · rw [(order_same h.toIs hm.bits).1]
    by_cases hO : Ord U
    · unfold lattice_pairs.f
      have := pairs_eq (t := (0 : Int)) (t' := 3) (n := U.length) (yb := lattice_Check.y0 l) (bad := bad3 U) (by omega) (fun a b ha hb => by
        unfold lattice_Check.y0 bad3
        rw [join_eq h.toIs hm.bits ha hb, meet_eq h.toIs ha hb]
        by_cases h1 : jn U a b < 0 <;> by_cases h2 : mt U a b < 0 <;> simp [h1, h2])
      rw [h.n]
      simp only [Option.bind_eq_bind, Option.bind_some]
      rw [this]
      by_cases hb : ∃ a b, a < U.length ∧ b < U.length ∧ bad3 U a b = true
      · simp only [if_pos hb, hm, hO]; simp
      · simp only [if_neg hb, hm, hO]; simp
    · simp [hm, hO]
  · simp [hm]
theorem refCheck_l3 {l : api_Lattice} {U : List Nat} (h : Is l U) (hO : Ord U) {a : Nat} (ha : a < U.length) :
    reticentref01_Check.l3 l (a : Int) 0 = some (out (fstOf U.length fun b => if bad3 U a b then some (3 : Int) else none)) := by
  have hl := h.len
  refine search (fun k => reticentref01_Check.l3 l (a : Int) k) U.length _ ?_ ?_
  · show reticentref01_Check.l3 l (a : Int) (U.length : Int) = _
    rw [reticentref01_Check.l3, h.n, if_neg (by omega)]
  · intro b hb
    show reticentref01_Check.l3 l (a : Int) (b : Int) = _
    rw [reticentref01_Check.l3, h.n, if_pos (by omega), refJoin_eq h hO ha hb, refMeet_eq h hO ha hb, step1 (by omega) hb]
    unfold bad3
    by_cases h1 : jn U a b < 0 <;> by_cases h2 : mt U a b < 0 <;> simp [h1, h2]
theorem refCheck_eq {l : api_Lattice} {U : List Nat} (h : Nm l U) : reticentref01_Check.f l = some (chk l U) := by
  have hl := h.len
  unfold reticentref01_Check.f chk
  rw [(may_same h).2]
  by_cases hm : May l U
  · rw [(order_same h.toIs hm.bits).2]
    by_cases hO : Ord U
    · have key : reticentref01_Check.l2 l 0 = some (out (fstOf U.length fun a => if decide (∃ b, b < U.length ∧ bad3 U a b = true) then some (3 : Int) else none)) := by
        refine search (fun k => reticentref01_Check.l2 l k) U.length _ ?_ ?_
        · show reticentref01_Check.l2 l (U.length : Int) = _
          rw [reticentref01_Check.l2, h.n, if_neg (by omega)]
        · intro a ha
          show reticentref01_Check.l2 l (a : Int) = _
          rw [reticentref01_Check.l2, h.n, if_pos (by omega), refCheck_l3 h.toIs hO ha, fst_bool, step1 (by omega) ha]
          generalize decide (∃ b, b < U.length ∧ bad3 U a b = true) = P
          cases P <;> simp [out]
      rw [key, fst_bool]
      have e : (∃ a, a < U.length ∧ decide (∃ b, b < U.length ∧ bad3 U a b = true) = true) ↔ ∃ a b, a < U.length ∧ b < U.length ∧ bad3 U a b = true := by
        constructor
        · rintro ⟨a, ha, q⟩; obtain ⟨b, hb, q⟩ := of_decide_eq_true q; exact ⟨a, b, ha, hb, q⟩
        · rintro ⟨a, b, ha, hb, q⟩; exact ⟨a, ha, decide_eq_true ⟨b, hb, q⟩⟩
      simp only [e]
      by_cases hb : ∃ a b, a < U.length ∧ b < U.length ∧ bad3 U a b = true
      · simp only [if_pos hb, decide_eq_true hb, hm, hO]; simp [out]
      · simp only [if_neg hb, decide_eq_false hb, hm, hO]; simp [out]
    · simp [hm, hO]
  · simp [hm]
theorem chk_ne9 {l : api_Lattice} {U : List Nat} : chk l U ≠ 9 := by
  unfold chk
  split
  · decide
  · split
    · decide
    · split <;> decide
theorem chk_zero {l : api_Lattice} {U : List Nat} (h : chk l U = 0) : May l U ∧ Ord U ∧ ∀ a b, a < U.length → b < U.length → 0 ≤ jn U a b ∧ 0 ≤ mt U a b := by
  unfold chk at h
  by_cases hm : May l U
  · by_cases hO : Ord U
    · by_cases hb : ∃ a b, a < U.length ∧ b < U.length ∧ bad3 U a b = true
      · rw [if_neg (fun k => k hm), if_neg (fun k => k hO), if_pos hb] at h; cases h
      · refine ⟨hm, hO, fun a b ha hb' => ?_⟩
        have : ¬ bad3 U a b = true := fun q => hb ⟨a, b, ha, hb', q⟩
        simp [bad3] at this
        exact this
    · rw [if_neg (fun k => k hm), if_pos hO] at h; cases h
  · rw [if_pos hm] at h; cases h
theorem idxFI_eq {xs : List Int} {p : Int → Bool} {g : Int → Option Bool} (hg : ∀ x, g x = some (p x)) (hx : xs.length ≤ 1000) :
    slices_IndexFunc_int_int.f xs g = some (fi xs.length (fun k => p (xs.getD k 0))) := by
  unfold slices_IndexFunc_int_int.f
  have key : slices_IndexFunc_int_int.l0 xs g 0 = some (out (fstOf xs.length fun k => if p (xs.getD k 0) then some (k : Int) else none)) := by
    refine search (fun k => slices_IndexFunc_int_int.l0 xs g k) xs.length _ ?_ ?_
    · show slices_IndexFunc_int_int.l0 xs g (xs.length : Int) = _
      rw [slices_IndexFunc_int_int.l0, if_neg (by omega)]
    · intro k hk
      show slices_IndexFunc_int_int.l0 xs g (k : Int) = _
      have e : xs.getD k 0 = xs[k] := by simp [hk]
      rw [slices_IndexFunc_int_int.l0, if_pos (by omega), lAt_some hk, step1 hx hk, e]
      simp only [Option.bind_eq_bind, Option.bind_some]
      rw [hg]
      cases p xs[k] <;> simp
  rw [key]
  exact fi_out
def inn (n : Nat) (a : Int) : Bool := decide (0 ≤ a) && decide (a < (n : Int))
theorem containsF_eq {xs : List Int} {p : Int → Bool} {g : Int → Option Bool} (hg : ∀ x, g x = some (p x)) (hx : xs.length ≤ 1000) :
    slices_ContainsFunc_int_int.f xs g = some (xs.any p) := by
  unfold slices_ContainsFunc_int_int.f
  rw [idxFI_eq hg hx]
  show some (decide (fi xs.length (fun k => p (xs.getD k 0)) ≥ 0)) = _
  congr 1
  rw [Bool.eq_iff_iff, decide_eq_true_iff, List.any_eq_true]
  constructor
  · intro q
    obtain ⟨k, hk, hp, _⟩ := fi_pos q
    refine ⟨xs[k], List.getElem_mem hk, ?_⟩
    simpa [hk] using hp
  · rintro ⟨x, hx, hp⟩
    obtain ⟨k, hk, e⟩ := List.getElem_of_mem hx
    rcases (by omega : fi xs.length (fun k => p (xs.getD k 0)) < 0 ∨ fi xs.length (fun k => p (xs.getD k 0)) ≥ 0) with q | q
    · have := fi_neg.1 q k hk
      simp [hk, e, hp] at this
    · exact q
theorem there_eq {l : api_Lattice} {U : List Nat} (h : Nm l U) {xs : List Int} (hx : xs.length ≤ 1000) :
    lattice_there.f l xs = some (if chk l U = 0 then (if xs.all (inn U.length) = true then 0 else 9) else chk l U) := by
  unfold lattice_there.f
  rw [check_eq h, containsF_eq (g := fun z0 => lattice_there_1.f z0 l) (p := fun a => !inn U.length a) (fun x => by
    unfold lattice_there_1.f inn
    rw [h.n]
    by_cases h1 : x < 0
    · have h1' : ¬ 0 ≤ x := by omega
      simp [h1, h1']
    · have h1' : 0 ≤ x := by omega
      by_cases h2 : x < (U.length : Int)
      · have h2' : ¬ x ≥ (U.length : Int) := by omega
        simp [h1, h1', h2, h2']
      · have h2' : x ≥ (U.length : Int) := by omega
        simp [h1, h1', h2, h2']) hx]
  have : xs.any (fun a => !inn U.length a) = !xs.all (inn U.length) := by rw [List.not_all_eq_any_not]
  rw [this]
  by_cases h0 : chk l U = 0 <;> cases xs.all (inn U.length) <;> simp [h0]
theorem inn_nat {n : Nat} {a : Int} (h : inn n a = true) : ∃ k : Nat, a = (k : Int) ∧ k < n := by
  unfold inn at h
  simp at h
  exact ⟨a.toNat, by omega, by omega⟩
/-- How many labels flow to a. -/
def bel (U : List Nat) (a : Nat) : Nat := ((List.range U.length).filter fun c => le U c a).length
theorem filter_lt {α : Type} {p q : α → Bool} {x : α} (hpq : ∀ y, p y = true → q y = true) (hp : p x = false) (hq : q x = true) : ∀ {xs : List α}, x ∈ xs → (xs.filter p).length < (xs.filter q).length
  | [], h => by cases h
  | y :: ys, h => by
    have hle : ∀ zs : List α, (zs.filter p).length ≤ (zs.filter q).length := by
      intro zs
      induction zs with
      | nil => exact Nat.le_refl _
      | cons z zs ih =>
        rw [List.filter_cons, List.filter_cons]
        cases e1 : p z with
        | true => rw [hpq z e1]; simpa using ih
        | false => cases q z <;> simp <;> omega
    rw [List.filter_cons, List.filter_cons]
    by_cases e : x = y
    · subst e
      rw [hp, hq]
      have := hle ys
      simp; omega
    · have := filter_lt hpq hp hq (xs := ys) (by simpa [e] using h)
      cases e1 : p y with
      | true => rw [hpq y e1]; simpa using this
      | false => cases q y <;> simp <;> omega
theorem bel_lt {U : List Nat} (hO : Ord U) {a c : Nat} (ha : a < U.length) (hc : c < U.length) (hne : c ≠ a) (h : le U c a = true) : bel U c < bel U a := by
  unfold bel
  have key : ∀ y, y ∈ List.range U.length → le U y c = true → le U y a = true := fun y hy q => hO.trans y c a (by simpa using hy) hc ha q h
  have e : (List.range U.length).filter (fun y => le U y c) = (List.range U.length).filter (fun y => le U y c && decide (y < U.length)) := by
    apply List.filter_congr
    intro y hy
    have : y < U.length := by simpa using hy
    simp [this]
  rw [e]
  refine filter_lt (p := fun y => le U y c && decide (y < U.length)) (q := fun c => le U c a) (x := a) (fun y hy => ?_) ?_ (hO.refl a ha) (List.mem_range.2 ha)
  · simp at hy
    exact hO.trans y c a hy.2 hc ha hy.1 h
  · cases q : le U a c with
    | false => rfl
    | true => exact absurd (hO.anti c a hc ha h q) hne
theorem height_l0 {l : api_Lattice} {U : List Nat} (h : Is l U) (hO : Ord U) {rc rc' : api_Lattice → Int → Option Int} {a : Nat} (ha : a < U.length)
    (hr : ∀ c, c < U.length → c ≠ a → le U c a = true → ∃ y, rc l (c : Int) = some y ∧ rc' l (c : Int) = some y) :
    ∀ (d k : Nat) (v : Int), U.length = k + d → ∃ y, lattice_height.l0 l (a : Int) rc (k : Int) v = some y ∧ reticentref01_Height.l0 l (a : Int) rc' (k : Int) v = some y
  | 0, k, v, e => by
    refine ⟨v, ?_, ?_⟩
    · rw [lattice_height.l0, h.n, if_neg (by omega)]
    · rw [reticentref01_Height.l0, h.n, if_neg (by omega)]
  | d + 1, k, v, e => by
    have hl := h.len
    have hk : k < U.length := by omega
    have hlt : (k : Int) < (U.length : Int) := by omega
    rw [lattice_height.l0, reticentref01_Height.l0, h.n, if_pos hlt, if_pos hlt, flows_eq h hk (by omega), refFlows_eq h hk (by omega), ← le_get hk, step1 (by omega) hk]
    have e1 : ((k : Int) = (a : Int)) ↔ k = a := Int.natCast_inj
    have e2 : ((a : Int) = (k : Int)) ↔ k = a := by rw [Int.natCast_inj]; exact eq_comm
    simp only [e1, e2]
    by_cases hka : k = a
    · simp only [if_pos hka, Option.bind_eq_bind, Option.bind_some]
      exact height_l0 h hO ha hr d (k + 1) v (by omega)
    · simp only [if_neg hka, Option.bind_eq_bind, Option.bind_some]
      cases hle : le U k a with
      | false => exact height_l0 h hO ha hr d (k + 1) v (by omega)
      | true =>
        obtain ⟨y, hy, hy'⟩ := hr k hk hka hle
        rw [hy, hy']
        simp only [if_true, Option.bind_some]
        have : (if IntKind.i64.wrap (1 + y) > v then some (IntKind.i64.wrap (1 + y)) else some v : Option Int) = some (if v < IntKind.i64.wrap (1 + y) then IntKind.i64.wrap (1 + y) else v) := by
          by_cases q : v < IntKind.i64.wrap (1 + y) <;> simp [q]
        rw [this]
        exact height_l0 h hO ha hr d (k + 1) _ (by omega)
theorem height_F {l : api_Lattice} {U : List Nat} (h : Is l U) (hO : Ord U) : ∀ (k a : Nat), a < U.length → bel U a < k → ∃ y, lattice_height.F k l (a : Int) = some y ∧ reticentref01_Height.F k l (a : Int) = some y
  | 0, a, ha, hb => by omega
  | k + 1, a, ha, hb => by
    obtain ⟨y, h1, h2⟩ := height_l0 h hO (rc := lattice_height.F k) (rc' := reticentref01_Height.F k) ha (fun c hc hne hle => height_F h hO k c hc (by have := bel_lt hO ha hc hne hle; omega)) U.length 0 0 (by omega)
    rw [show ((0 : Nat) : Int) = 0 from rfl] at h1 h2
    refine ⟨y, ?_, ?_⟩
    · show lattice_height.B (lattice_height.F k) l (a : Int) = _
      unfold lattice_height.B; rw [h1]; rfl
    · show reticentref01_Height.B (reticentref01_Height.F k) l (a : Int) = _
      unfold reticentref01_Height.B; rw [h2]; rfl
theorem height_same {l : api_Lattice} {U : List Nat} (h : Is l U) (hO : Ord U) {a : Nat} (ha : a < U.length) : ∃ y, lattice_height.f l (a : Int) = some y ∧ reticentref01_Height.f l (a : Int) = some y := by
  refine height_F h hO 1000 a ha ?_
  have hl := h.len
  have : bel U a ≤ U.length := by
    unfold bel
    exact Nat.le_trans (List.length_filter_le ..) (by simp)
  omega
end Go.Proofs.Ythpmbokenhpakaa.Lat
