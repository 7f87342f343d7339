/- The ends of a lattice. -/
import Derived.Test.YthpmbokenhpakaaLat14
set_option linter.unusedVariables false
namespace Go.Proofs.Ythpmbokenhpakaa.Lat
open Go Go.Proofs.Ythpmbokenhpakaa.Ab Go.Proofs.Ythpmbokenhpakaa.LA
open Classical
theorem idxU_eq {xs : List Int} {a : Int} (hx : xs.length ≤ 1000) :
    slices_Index_uint32_uint32.f xs a = some (fi xs.length (fun k => decide (a = xs.getD k 0))) := by
  unfold slices_Index_uint32_uint32.f
  have key : slices_Index_uint32_uint32.l0 xs a 0 = some (out (fstOf xs.length fun k => if decide (a = xs.getD k 0) then some (k : Int) else none)) := by
    refine search (fun k => slices_Index_uint32_uint32.l0 xs a k) xs.length _ ?_ ?_
    · show slices_Index_uint32_uint32.l0 xs a (xs.length : Int) = _
      rw [slices_Index_uint32_uint32.l0, if_neg (by omega)]
    · intro k hk
      show slices_Index_uint32_uint32.l0 xs a (k : Int) = _
      have e : xs.getD k 0 = xs[k] := by simp [hk]
      rw [slices_Index_uint32_uint32.l0, if_pos (by omega), lAt_some hk, step1 hx hk, e]
      by_cases q : a = xs[k] <;> simp [q]
  rw [key]
  exact fi_out
theorem count8 : ∀ x : Nat, x < 256 → bits_OnesCount32.f (x : Int) = some (sAt ks0 (x : Int)) := by decide +kernel
theorem count1 : ∀ x : Nat, x < 256 → ∀ k : Nat, k < 8 → x.testBit k = true → ((sAt ks0 (x : Int) = 1) ↔ x = 2 ^ k) := by decide +kernel
theorem all1s : ∀ n : Nat, n < 9 → IntKind.u32.wrap ((bShl .u32 1 (n : Int)) - 1) = ((2 ^ n - 1 : Nat) : Int) := by decide +kernel
section
variable {l : api_Lattice} {U : List Nat}
theorem getU (h : Is l U) {k : Nat} (hk : k < U.length) : l.Up.getD k 0 = ((U[k] : Nat) : Int) := by rw [h.up]; simp [hk]
theorem Up_len (h : Is l U) : l.Up.length ≤ 1000 := by rw [h.n]; have := h.len; omega
theorem bot_unique (hO : Ord U) {j k : Nat} (hj : j < U.length) (hk : k < U.length) (h1 : ∀ c, c < U.length → le U j c = true) (h2 : ∀ c, c < U.length → le U k c = true) : j = k :=
  hO.anti j k hj hk (h1 k hk) (h2 j hj)
theorem top_unique (hO : Ord U) {j k : Nat} (hj : j < U.length) (hk : k < U.length) (h1 : ∀ c, c < U.length → le U c j = true) (h2 : ∀ c, c < U.length → le U c k = true) : j = k :=
  hO.anti j k hj hk (h2 j hj) (h1 k hk)
theorem mt_is (hO : Ord U) {a b : Nat} (ha : a < U.length) (hb : b < U.length) (h : 0 ≤ mt U a b) : ∃ k : Nat, mt U a b = (k : Int) ∧ k < U.length ∧ le U k a = true ∧ le U k b = true := by
  obtain ⟨k, hk, hp, e⟩ := fi_pos h
  unfold glb at hp
  have hp := of_decide_eq_true hp
  have := (hp k hk).1 (hO.refl k hk)
  exact ⟨k, e, hk, this.1, this.2⟩
theorem jn_is (hO : Ord U) {a b : Nat} (ha : a < U.length) (hb : b < U.length) (h : 0 ≤ jn U a b) : ∃ k : Nat, jn U a b = (k : Int) ∧ k < U.length ∧ le U a k = true ∧ le U b k = true := by
  obtain ⟨k, hk, hp, e⟩ := fi_pos h
  unfold lub at hp
  have hp := of_decide_eq_true hp
  have := (hp k hk).1 (hO.refl k hk)
  exact ⟨k, e, hk, this.1, this.2⟩
theorem refBot_l0 (h : Nm l U) (hc : chk l U = 0) : ∀ (d k r : Nat), U.length = k + d → r < U.length → (∀ c, c < k → le U r c = true) → ∃ r' : Nat, reticentref01_Bottom.l0 l (r : Int) (k : Int) = some (r' : Int) ∧ r' < U.length ∧ ∀ c, c < U.length → le U r' c = true
  | 0, k, r, e, hr, hb => ⟨r, by rw [reticentref01_Bottom.l0, h.n, if_neg (by omega)], hr, fun c hc => hb c (by omega)⟩
  | d + 1, k, r, e, hr, hb => by
    obtain ⟨hm, hO, hj⟩ := chk_zero hc
    have hl := h.len
    have hk : k < U.length := by omega
    obtain ⟨m, em, hm', m1, m2⟩ := mt_is hO hr hk (hj r k hr hk).2
    rw [reticentref01_Bottom.l0, h.n, if_pos (by omega), refMeet_eq h.toIs hO hr hk, em, step1 (by omega) hk]
    refine refBot_l0 h hc d (k + 1) m (by omega) hm' (fun c hc => ?_)
    rcases (by omega : c < k ∨ c = k) with q | rfl
    · exact hO.trans m r c hm' hr (by omega) m1 (hb c q)
    · exact m2
theorem refTop_l0 (h : Nm l U) (hc : chk l U = 0) : ∀ (d k r : Nat), U.length = k + d → r < U.length → (∀ c, c < k → le U c r = true) → ∃ r' : Nat, reticentref01_Top.l0 l (r : Int) (k : Int) = some (r' : Int) ∧ r' < U.length ∧ ∀ c, c < U.length → le U c r' = true
  | 0, k, r, e, hr, hb => ⟨r, by rw [reticentref01_Top.l0, h.n, if_neg (by omega)], hr, fun c hc => hb c (by omega)⟩
  | d + 1, k, r, e, hr, hb => by
    obtain ⟨hm, hO, hj⟩ := chk_zero hc
    have hl := h.len
    have hk : k < U.length := by omega
    obtain ⟨m, em, hm', m1, m2⟩ := jn_is hO hr hk (hj r k hr hk).1
    rw [reticentref01_Top.l0, h.n, if_pos (by omega), refJoin_eq h.toIs hO hr hk, em, step1 (by omega) hk]
    refine refTop_l0 h hc d (k + 1) m (by omega) hm' (fun c hc => ?_)
    rcases (by omega : c < k ∨ c = k) with q | rfl
    · exact hO.trans c r m (by omega) hr hm' (hb c q) m1
    · exact m2
theorem bot_same (h : Nm l U) (hc : chk l U = 0) : ∃ y : Nat, (y < U.length ∧ ∀ c, c < U.length → le U y c = true) ∧ lattice_Bottom.f l = some ((y : Int), 0) ∧ reticentref01_Bottom.f l = some (y : Int) := by
  obtain ⟨hm, hO, _⟩ := chk_zero hc
  have hl := h.len
  have hp := hm.pos
  have h8 := hm.le8
  obtain ⟨r, h1, hr, hb⟩ := refBot_l0 h hc U.length 0 0 (by omega) (by omega) (fun c hc => by omega)
  rw [show ((0 : Nat) : Int) = 0 from rfl] at h1
  refine ⟨r, ⟨hr, hb⟩, ?_, ?_⟩
  · unfold lattice_Bottom.f
    rw [there_eq h (by simp), hc, h.n]
    have e0 : ((if (0 : Int) = 0 then if (([] : List Int).all (inn U.length)) = true then (0 : Int) else 9 else 0)) = 0 := by simp
    rw [e0]
    have eb : ∀ f : Int → Option (Int × Int), (some (0 : Int) >>= f) = f 0 := fun _ => rfl
    rw [eb]
    rw [if_pos rfl, if_pos (by omega), all1s U.length (by omega), idxU_eq (Up_len h.toIs)]
    have : fi l.Up.length (fun k => decide (((2 ^ U.length - 1 : Nat) : Int) = l.Up.getD k 0)) = (r : Int) := by
      rw [h.n]
      have key : ∀ k, k < U.length → (decide (((2 ^ U.length - 1 : Nat) : Int) = l.Up.getD k 0) = true ↔ ∀ c, c < U.length → le U k c = true) := by
        intro k hk
        rw [decide_eq_true_iff, getU h.toIs hk, Int.natCast_inj]
        constructor
        · intro e c hcl
          rw [le_get hk, ← e, Nat.testBit_two_pow_sub_one]; exact decide_eq_true hcl
        · intro q
          apply Nat.eq_of_testBit_eq
          intro c
          rw [Nat.testBit_two_pow_sub_one, ← le_get hk]
          rcases Nat.lt_or_ge c U.length with hcl | hcl
          · rw [q c hcl, decide_eq_true hcl]
          · rw [decide_eq_false (by omega)]
            cases e : le U k c with
            | false => rfl
            | true => have := le_far hm.bits e; omega
      exact fi_one hr ((key r hr).2 hb) (fun j hj q => bot_unique hO hj hr ((key j hj).1 q) hb)
    rw [this]; rfl
  · unfold reticentref01_Bottom.f
    rw [h1]; rfl
theorem top_one (hO : Ord U) (h8 : U.length ≤ 8) (hU : ∀ x ∈ U, x < 2 ^ U.length) {k r : Nat} (hk : k < U.length) (hr : r < U.length) (hb : ∀ c, c < U.length → le U c r = true) : (lattice_Top_1.f ((U[k] : Nat) : Int)) = some (decide (k = r)) := by
  have hx : U[k] < 256 := Nat.lt_of_lt_of_le (hU _ (List.getElem_mem hk)) (Nat.pow_le_pow_right (n := 2) (by omega) h8)
  unfold lattice_Top_1.f
  rw [count8 _ hx]
  show some (decide (sAt ks0 ((U[k] : Nat) : Int) = 1)) = _
  congr 1
  have hkk : U[k].testBit k = true := by rw [← le_get hk]; exact hO.refl k hk
  rw [decide_eq_decide, count1 _ hx k (by omega) hkk]
  constructor
  · intro e
    have := hb k hk
    rw [le_get hk, e, Nat.testBit_two_pow] at this
    exact of_decide_eq_true this
  · intro e
    subst e
    apply Nat.eq_of_testBit_eq
    intro c
    rw [Nat.testBit_two_pow, ← le_get hk, Bool.eq_iff_iff, decide_eq_true_iff]
    constructor
    · intro q
      have hcl := le_far hU q
      exact hO.anti k c hk hcl q (hb c hcl)
    · intro e; rw [← e]; exact hO.refl k hk
theorem top_same (h : Nm l U) (hc : chk l U = 0) : ∃ y : Nat, (y < U.length ∧ ∀ c, c < U.length → le U c y = true) ∧ lattice_Top.f l = some ((y : Int), 0) ∧ reticentref01_Top.f l = some (y : Int) := by
  obtain ⟨hm, hO, _⟩ := chk_zero hc
  have hl := h.len
  have hp := hm.pos
  have h8 := hm.le8
  obtain ⟨r, h1, hr, hb⟩ := refTop_l0 h hc U.length 0 0 (by omega) (by omega) (fun c hc => by omega)
  rw [show ((0 : Nat) : Int) = 0 from rfl] at h1
  refine ⟨r, ⟨hr, hb⟩, ?_, ?_⟩
  · unfold lattice_Top.f
    rw [there_eq h (by simp), hc]
    have e0 : ((if (0 : Int) = 0 then if (([] : List Int).all (inn U.length)) = true then (0 : Int) else 9 else 0)) = 0 := by simp
    rw [e0]
    have eb : ∀ f : Int → Option (Int × Int), (some (0 : Int) >>= f) = f 0 := fun _ => rfl
    rw [eb]
    rw [if_pos rfl]
    obtain ⟨p, hp2⟩ : ∃ p : Nat → Bool, ∀ k, p k = true ↔ k = r := ⟨fun k => Nat.beq k r, fun k => ⟨fun e => Nat.eq_of_beq_eq_true e, fun e => by rw [e]; exact Nat.beq_refl r⟩⟩
    have key : slices_IndexFunc_uint32_uint32.l0 l.Up lattice_Top_1.f 0 = some (out (fstOf U.length fun k => if p k then some (k : Int) else none)) := by
      refine search (fun k => slices_IndexFunc_uint32_uint32.l0 l.Up lattice_Top_1.f k) U.length _ ?_ ?_
      · show slices_IndexFunc_uint32_uint32.l0 l.Up lattice_Top_1.f (U.length : Int) = _
        rw [slices_IndexFunc_uint32_uint32.l0, h.n, if_neg (by omega)]
      · intro k hk
        show slices_IndexFunc_uint32_uint32.l0 l.Up lattice_Top_1.f (k : Int) = _
        rw [slices_IndexFunc_uint32_uint32.l0, h.n, if_pos (by omega), h.at_ hk, step1 (by omega) hk]
        simp only [Option.bind_eq_bind, Option.bind_some]
        rw [top_one hO h8 hm.bits hk hr hb]
        by_cases e : k = r
        · rw [(hp2 k).2 e, decide_eq_true e]; rfl
        · have : p k = false := by
            cases q : p k with
            | false => rfl
            | true => exact absurd ((hp2 k).1 q) e
          rw [this, decide_eq_false e]; rfl
    unfold slices_IndexFunc_uint32_uint32.f
    rw [key]
    have hfi : fi U.length p = (r : Int) := fi_one hr ((hp2 r).2 rfl) (fun j hj q => (hp2 j).1 q)
    unfold fi at hfi
    cases hv : fstOf U.length (fun k => if p k then some (k : Int) else none) with
    | none => rw [hv] at hfi; simp at hfi
    | some v => rw [hv] at hfi; simp at hfi; subst hfi; rfl
  · unfold reticentref01_Top.f
    rw [h1]; rfl
theorem ends_no (h : Nm l U) (hc : chk l U ≠ 0) : lattice_Bottom.f l = some (0, chk l U) ∧ lattice_Top.f l = some (0, chk l U) := by
  unfold lattice_Bottom.f lattice_Top.f
  rw [there_eq h (by simp), if_neg hc]
  constructor
  · show (if chk l U = 0 then _ else _) = _
    rw [if_neg hc]
  · show (if chk l U = 0 then _ else _) = _
    rw [if_neg hc]
end
/-- LatticeChecks, of plain lists. -/
theorem checks {l : api_Lattice} (hl : ∃ H cs, (kR f_api_Lattice).reps H cs l) : reticentlaw01_LatticeChecks.f l = some true := by
  obtain ⟨l', U, hf, h⟩ := few_eq hl
  unfold reticentlaw01_LatticeChecks.f
  rw [show (⟨l.Names, l.Up⟩ : api_Lattice) = l from rfl, hf]
  simp only [Option.bind_eq_bind, Option.bind_some]
  rw [refCheck_eq h, check_eq h, alive]
  by_cases hc : chk l' U = 0
  · obtain ⟨y, _, h1, h2⟩ := bot_same h hc
    obtain ⟨z, _, h3, h4⟩ := top_same h hc
    rw [h1, h2, h3, h4]
    simp [hc]
  · obtain ⟨h1, h2⟩ := ends_no h hc
    rw [h1, h2]
    simp [hc]
end Go.Proofs.Ythpmbokenhpakaa.Lat
