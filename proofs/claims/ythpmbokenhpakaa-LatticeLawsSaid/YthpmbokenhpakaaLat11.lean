/- The meet. -/
import Derived.Test.YthpmbokenhpakaaLat10
set_option linter.unusedVariables false
namespace Go.Proofs.Ythpmbokenhpakaa.Lat
open Go Go.Proofs.Ythpmbokenhpakaa.Ab Go.Proofs.Ythpmbokenhpakaa.LA
open Classical
theorem bShl_nat {x k : Nat} (hk : k ≤ 20) (hx : x ≤ 1) : bShl .u32 (x : Int) (k : Int) = ((x <<< k : Nat) : Int) := by
  unfold bShl
  show IntKind.u32.wrap ((x : Int) * (2 ^ (min ((k : Int).toNat) 32) : Nat)) = _
  rw [Int.toNat_natCast, Nat.min_eq_left (by omega), ← Int.natCast_mul, Nat.shiftLeft_eq]
  refine wrapU32 ?_
  have : 2 ^ k ≤ 2 ^ 20 := Nat.pow_le_pow_right (by omega) hk
  have : x * 2 ^ k ≤ 1 * 2 ^ 20 := Nat.mul_le_mul hx this
  omega
theorem shr_and1 (u b : Nat) : (u >>> b) &&& 1 = (u.testBit b).toNat := by
  have := shr1 u b
  rcases (show (u >>> b) &&& 1 = 0 ∨ (u >>> b) &&& 1 = 1 by rw [Nat.and_comm, Nat.one_and_eq_mod_two]; omega) with q | q
  · cases e : u.testBit b with
    | false => rw [q]; rfl
    | true => rw [this.2 e] at q; cases q
  · rw [this.1 q, q]; rfl
theorem down_l0 {l : api_Lattice} {U : List Nat} (h : Is l U) {a : Nat} (ha : a ≤ 31) :
    ∀ (d k v : Nat), U.length = k + d → v < 2 ^ k → ∃ r : Nat, lattice_down.l0 l (a : Int) (k : Int) (v : Int) = some (r : Int) ∧ r < 2 ^ U.length ∧ ∀ c, r.testBit c = if c < k then v.testBit c else (decide (c < U.length) && le U c a)
  | 0, k, v, e, hv => by
    have hl := h.len
    refine ⟨v, ?_, by rw [e]; exact hv, fun c => ?_⟩
    · rw [lattice_down.l0, h.n, if_neg (by omega)]
    · by_cases hc : c < k
      · rw [if_pos hc]
      · rw [if_neg hc, Nat.testBit_lt_two_pow (Nat.lt_of_lt_of_le hv (Nat.pow_le_pow_right (n := 2) (by omega) (by omega)))]
        have : ¬ c < U.length := by omega
        simp [this]
  | d + 1, k, v, e, hv => by
    have hl := h.len
    have hk : k < U.length := by omega
    have hs : U[k] >>> a < 4294967296 := Nat.lt_of_le_of_lt (by rw [Nat.shiftRight_eq_div_pow]; exact Nat.div_le_self ..) (h.u hk)
    have hb1 : (U[k].testBit a).toNat ≤ 1 := by cases U[k].testBit a <;> decide
    have hsh : (U[k].testBit a).toNat <<< k < 2 ^ (k + 1) := by
      rw [Nat.shiftLeft_eq, Nat.pow_succ]
      have hp : 0 < 2 ^ k := Nat.pow_pos (by omega)
      cases U[k].testBit a <;> simp <;> omega
    have h10 : 2 ^ (k + 1) ≤ 2 ^ 20 := Nat.pow_le_pow_right (by omega) (by omega)
    have hv' : v < 2 ^ (k + 1) := Nat.lt_of_lt_of_le hv (Nat.pow_le_pow_right (by omega) (by omega))
    obtain ⟨r, hr1, hr2, hr3⟩ := down_l0 h ha d (k + 1) (v ||| ((U[k].testBit a).toNat <<< k)) (by omega) (Nat.or_lt_two_pow hv' hsh)
    refine ⟨r, ?_, hr2, fun c => ?_⟩
    · rw [lattice_down.l0, h.n, if_pos (by omega), h.at_ hk]
      simp only [Option.bind_eq_bind, Option.bind_some]
      rw [if_pos (by omega), if_pos (by omega), bShr_nat (by omega), show (1 : Int) = ((1 : Nat) : Int) from rfl, bAnd_nat hs (by omega), shr_and1, bShl_nat (by omega) hb1, bOr_nat (by omega) (by omega)]
      rw [show ((1 : Nat) : Int) = 1 from rfl, step1 (by omega) hk]
      exact hr1
    · rw [hr3 c, Nat.testBit_or, Nat.testBit_shiftLeft]
      rcases Nat.lt_trichotomy c k with q | q | q
      · rw [if_pos (by omega), if_pos q]
        have : decide (c ≥ k) = false := decide_eq_false (by omega)
        rw [this]; simp
      · subst q
        rw [if_pos (by omega), if_neg (by omega), Nat.testBit_lt_two_pow hv, le_get hk]
        have : decide (c < U.length) = true := decide_eq_true hk
        rw [this]
        cases U[c].testBit a <;> simp
      · rw [if_neg (by omega), if_neg (by omega)]
theorem down_eq {l : api_Lattice} {U : List Nat} (h : Is l U) {a : Nat} (ha : a ≤ 31) : ∃ r : Nat, lattice_down.f l (a : Int) = some (r : Int) ∧ r < 2 ^ U.length ∧ ∀ c, r.testBit c = (decide (c < U.length) && le U c a) := by
  obtain ⟨r, h1, h2, h3⟩ := down_l0 h ha U.length 0 0 (by omega) (by simp)
  refine ⟨r, ?_, h2, fun c => by rw [h3 c, if_neg (by omega)]⟩
  unfold lattice_down.f
  rw [show ((0 : Nat) : Int) = 0 from rfl] at h1
  rw [h1]; rfl
theorem meet_eq {l : api_Lattice} {U : List Nat} (h : Is l U) {a b : Nat} (ha : a < U.length) (hb : b < U.length) : lattice_meet.f l (a : Int) (b : Int) = some (mt U a b) := by
  have hl := h.len
  obtain ⟨ra, ea, la, ta⟩ := down_eq h (a := a) (by omega)
  obtain ⟨rb, eb, lb, tb⟩ := down_eq h (a := b) (by omega)
  have h10 : 2 ^ U.length ≤ 2 ^ 10 := Nat.pow_le_pow_right (by omega) hl
  unfold lattice_meet.f
  rw [ea, eb]
  simp only [Option.bind_eq_bind, Option.bind_some]
  have key : lattice_meet.l0 l (ra : Int) (rb : Int) 0 = some (out (fstOf U.length fun k => if glb U a b k then some (k : Int) else none)) := by
    refine search (fun k => lattice_meet.l0 l (ra : Int) (rb : Int) k) U.length _ ?_ ?_
    · show lattice_meet.l0 l (ra : Int) (rb : Int) (U.length : Int) = _
      rw [lattice_meet.l0, h.n, if_neg (by omega)]
    · intro k hk
      show lattice_meet.l0 l (ra : Int) (rb : Int) (k : Int) = _
      obtain ⟨rk, ek, lk, tk⟩ := down_eq h (a := k) (by omega)
      rw [lattice_meet.l0, h.n, if_pos (by omega), ek, bAnd_nat (by omega) (by omega), step1 (by omega) hk]
      simp only [Option.bind_eq_bind, Option.bind_some]
      have hg : ((rk : Int) = ((ra &&& rb : Nat) : Int)) ↔ glb U a b k = true := by
        rw [Int.natCast_inj]
        unfold glb
        rw [decide_eq_true_iff]
        constructor
        · intro e c hc
          have := congrArg (fun x => x.testBit c) e
          simp only [Nat.testBit_and, tk, ta, tb, decide_eq_true hc, Bool.true_and] at this
          rw [this, Bool.and_eq_true]
        · intro q
          apply Nat.eq_of_testBit_eq
          intro c
          rw [Nat.testBit_and, tk, ta, tb]
          rcases Nat.lt_or_ge c U.length with hc | hc
          · rw [decide_eq_true hc, Bool.true_and, Bool.true_and, Bool.true_and, Bool.eq_iff_iff, Bool.and_eq_true]; exact q c hc
          · rw [decide_eq_false (by omega)]; rfl
      cases e : glb U a b k with
      | true => rw [if_pos (hg.2 e)]; rfl
      | false => rw [if_neg (fun q => by rw [hg.1 q] at e; cases e)]; rfl
  rw [key]
  exact fi_out
theorem refMeet_l3 {l : api_Lattice} {U : List Nat} (h : Is l U) {a b k : Nat} (ha : a < U.length) (hb : b < U.length) (hk : k < U.length) (x : Bool) :
    reticentref01_Meet.l3 l (a : Int) (b : Int) (k : Int) 0 x = some (x && !decide (∃ c, c < U.length ∧ (le U c a && le U c b && !le U c k) = true)) := by
  have hl := h.len
  refine fold (L := fun c x => reticentref01_Meet.l3 l (a : Int) (b : Int) (k : Int) c x) (fun x => ?_) (fun c x hc => ?_) x
  · show reticentref01_Meet.l3 l (a : Int) (b : Int) (k : Int) (U.length : Int) x = _
    rw [reticentref01_Meet.l3, h.n, if_neg (by omega)]
  · show reticentref01_Meet.l3 l (a : Int) (b : Int) (k : Int) (c : Int) x = _
    rw [reticentref01_Meet.l3, h.n, if_pos (by omega), refFlows_eq h hc (by omega), refFlows_eq h hc (by omega), refFlows_eq h hc (by omega), ← le_get hc, ← le_get hc, ← le_get hc, step1 (by omega) hc]
    cases le U c a <;> cases le U c b <;> cases le U c k <;> simp
theorem glb_eq {U : List Nat} (hO : Ord U) {a b k : Nat} (ha : a < U.length) (hb : b < U.length) (hk : k < U.length) :
    (le U k a && le U k b && !decide (∃ c, c < U.length ∧ (le U c a && le U c b && !le U c k) = true)) = glb U a b k := by
  unfold glb
  rw [Bool.eq_iff_iff, Bool.and_eq_true, Bool.and_eq_true, ← decide_not, decide_eq_true_iff, decide_eq_true_iff]
  constructor
  · rintro ⟨⟨h1, h2⟩, h3⟩ c hc
    refine ⟨fun q => ⟨hO.trans c k a hc hk ha q h1, hO.trans c k b hc hk hb q h2⟩, fun ⟨q1, q2⟩ => ?_⟩
    cases e : le U c k with
    | true => rfl
    | false => exact absurd ⟨c, hc, by simp [q1, q2, e]⟩ h3
  · intro q
    obtain ⟨h1, h2⟩ := (q k hk).1 (hO.refl k hk)
    refine ⟨⟨h1, h2⟩, ?_⟩
    rintro ⟨c, hc, e⟩
    simp only [Bool.and_eq_true, Bool.not_eq_true'] at e
    rw [(q c hc).2 e.1] at e
    simp at e
theorem refMeet_eq {l : api_Lattice} {U : List Nat} (h : Is l U) (hO : Ord U) {a b : Nat} (ha : a < U.length) (hb : b < U.length) : reticentref01_Meet.f l (a : Int) (b : Int) = some (mt U a b) := by
  have hl := h.len
  unfold reticentref01_Meet.f
  have key : reticentref01_Meet.l2 l (a : Int) (b : Int) 0 = some (out (fstOf U.length fun k => if glb U a b k then some (k : Int) else none)) := by
    refine search (fun k => reticentref01_Meet.l2 l (a : Int) (b : Int) k) U.length _ ?_ ?_
    · show reticentref01_Meet.l2 l (a : Int) (b : Int) (U.length : Int) = _
      rw [reticentref01_Meet.l2, h.n, if_neg (by omega)]
    · intro k hk
      show reticentref01_Meet.l2 l (a : Int) (b : Int) (k : Int) = _
      rw [reticentref01_Meet.l2, h.n, if_pos (by omega), refFlows_eq h hk (by omega), refFlows_eq h hk (by omega), ← le_get hk, ← le_get hk, step1 (by omega) hk]
      simp only [refMeet_l3 h ha hb hk]
      rw [← glb_eq hO ha hb hk]
      generalize (!decide (∃ c, c < U.length ∧ (le U c a && le U c b && !le U c k) = true)) = P
      cases le U k a <;> cases le U k b <;> cases P <;> simp
  rw [key]
  exact fi_out
end Go.Proofs.Ythpmbokenhpakaa.Lat
