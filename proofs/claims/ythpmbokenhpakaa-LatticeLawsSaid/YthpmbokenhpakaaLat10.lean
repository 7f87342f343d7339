/- The join and the meet. -/
import Derived.Test.YthpmbokenhpakaaLat9
set_option linter.unusedVariables false
namespace Go.Proofs.Ythpmbokenhpakaa.Lat
open Go Go.Proofs.Ythpmbokenhpakaa.Ab Go.Proofs.Ythpmbokenhpakaa.LA
open Classical
noncomputable def fi (n : Nat) (p : Nat → Bool) : Int := match fstOf n (fun k => if p k then some (k : Int) else none) with | some r => r | none => -1
theorem fi_out {n : Nat} {p : Nat → Bool} : (match (out (fstOf n (fun k => if p k then some (k : Int) else none)) : Int ⊕ Unit) with | .inl r => some r | .inr () => some (-1 : Int)) = some (fi n p) := by
  unfold fi
  cases fstOf n (fun k => if p k then some (k : Int) else none) <;> rfl
theorem fi_congr {n : Nat} {p q : Nat → Bool} (h : ∀ k, k < n → p k = q k) : fi n p = fi n q := by
  unfold fi
  rw [fst_congr (fun k hk => by rw [h k hk])]
theorem fi_neg {n : Nat} {p : Nat → Bool} : fi n p < 0 ↔ ∀ k, k < n → p k = false := by
  unfold fi
  cases hf : fstOf n (fun k => if p k then some (k : Int) else none) with
  | none =>
    refine ⟨fun _ k hk => ?_, fun _ => by simp⟩
    have := fst_none.1 hf k hk
    cases hp : p k with
    | false => rfl
    | true => rw [hp] at this; simp at this
  | some r =>
    unfold fstOf at hf
    obtain ⟨k, hk0, hk⟩ := List.exists_of_findSome?_eq_some hf
    cases hp : p k with
    | false => rw [hp] at hk; simp at hk
    | true =>
      rw [hp] at hk
      simp at hk
      refine ⟨fun q => by simp at q; omega, fun q => ?_⟩
      rw [q k (by simpa using hk0)] at hp; cases hp
theorem fi_pos {n : Nat} {p : Nat → Bool} (h : 0 ≤ fi n p) : ∃ k, k < n ∧ p k = true ∧ fi n p = (k : Int) := by
  unfold fi at h ⊢
  cases hf : fstOf n (fun k => if p k then some (k : Int) else none) with
  | none => rw [hf] at h; simp at h
  | some r =>
    unfold fstOf at hf
    obtain ⟨k, hk0, hk⟩ := List.exists_of_findSome?_eq_some hf
    cases hp : p k with
    | false => rw [hp] at hk; simp at hk
    | true => rw [hp] at hk; simp at hk; exact ⟨k, by simpa using hk0, hp, by simp [← hk]⟩
theorem fi_one {n k : Nat} {p : Nat → Bool} (hk : k < n) (hp : p k = true) (h1 : ∀ j, j < n → p j = true → j = k) : fi n p = (k : Int) := by
  have : 0 ≤ fi n p := by
    rcases (by omega : fi n p < 0 ∨ 0 ≤ fi n p) with q | q
    · rw [fi_neg.1 q k hk] at hp; cases hp
    · exact q
  obtain ⟨j, hj, hpj, e⟩ := fi_pos this
  rw [e, h1 j hj hpj]
noncomputable def lub (U : List Nat) (a b k : Nat) : Bool := decide (∀ c, c < U.length → (le U k c = true ↔ le U a c = true ∧ le U b c = true))
noncomputable def glb (U : List Nat) (a b k : Nat) : Bool := decide (∀ c, c < U.length → (le U c k = true ↔ le U c a = true ∧ le U c b = true))
noncomputable def jn (U : List Nat) (a b : Nat) : Int := fi U.length (lub U a b)
noncomputable def mt (U : List Nat) (a b : Nat) : Int := fi U.length (glb U a b)
theorem idxF_eq {xs : List Int} {p : Int → Bool} {g : Int → Option Bool} (hg : ∀ x, g x = some (p x)) (hx : xs.length ≤ 1000) :
    slices_IndexFunc_uint32_uint32.f xs g = some (fi xs.length (fun k => p (xs.getD k 0))) := by
  unfold slices_IndexFunc_uint32_uint32.f
  have key : slices_IndexFunc_uint32_uint32.l0 xs g 0 = some (out (fstOf xs.length fun k => if p (xs.getD k 0) then some (k : Int) else none)) := by
    refine search (fun k => slices_IndexFunc_uint32_uint32.l0 xs g k) xs.length _ ?_ ?_
    · show slices_IndexFunc_uint32_uint32.l0 xs g (xs.length : Int) = _
      rw [slices_IndexFunc_uint32_uint32.l0, if_neg (by omega)]
    · intro k hk
      show slices_IndexFunc_uint32_uint32.l0 xs g (k : Int) = _
      have e : xs.getD k 0 = xs[k] := by simp [hk]
      rw [slices_IndexFunc_uint32_uint32.l0, if_pos (by omega), lAt_some hk, step1 hx hk, e]
      simp only [Option.bind_eq_bind, Option.bind_some]
      rw [hg]
      cases p xs[k] <;> simp
  rw [key]
  exact fi_out
theorem bits_eq {U : List Nat} (hU : ∀ x ∈ U, x < 2 ^ U.length) {a b k : Nat} (ha : a < U.length) (hb : b < U.length) (hk : k < U.length) :
    (U[k] = U[a] &&& U[b]) ↔ (∀ c, c < U.length → (le U k c = true ↔ le U a c = true ∧ le U b c = true)) := by
  constructor
  · intro e c _
    rw [le_get hk, le_get ha, le_get hb, e, Nat.testBit_and, Bool.and_eq_true]
  · intro h
    apply Nat.eq_of_testBit_eq
    intro c
    rw [Nat.testBit_and, ← le_get hk, ← le_get ha, ← le_get hb]
    rcases Nat.lt_or_ge c U.length with q | q
    · rw [Bool.eq_iff_iff, Bool.and_eq_true]; exact h c q
    · have f : ∀ a, le U a c = false := by
        intro a
        cases e : le U a c with
        | false => rfl
        | true => have := le_far hU e; omega
      rw [f, f, f]; rfl
theorem join_eq {l : api_Lattice} {U : List Nat} (h : Is l U) (hU : ∀ x ∈ U, x < 2 ^ U.length) {a b : Nat} (ha : a < U.length) (hb : b < U.length) : lattice_join.f l (a : Int) (b : Int) = some (jn U a b) := by
  have hl := h.len
  unfold lattice_join.f
  rw [h.at_ ha, h.at_ hb]
  simp only [Option.bind_eq_bind, Option.bind_some]
  rw [bAnd_nat (h.u ha) (h.u hb), idxF_eq (g := fun z0 => lattice_join_1.f z0 ((U[a] &&& U[b] : Nat) : Int)) (p := fun x => decide (x = ((U[a] &&& U[b] : Nat) : Int))) (fun x => rfl) (by rw [h.n]; omega)]
  simp only [Option.bind_some]
  rw [h.n]
  congr 1
  refine fi_congr fun k hk => ?_
  unfold lub
  rw [decide_eq_decide, ← bits_eq hU ha hb hk]
  have : l.Up.getD k 0 = ((U[k] : Nat) : Int) := by rw [h.up]; simp [hk]
  rw [this]
  exact Int.natCast_inj
theorem fold {L : Int → Bool → Option Bool} {n : Nat} {viol : Nat → Bool} (hend : ∀ b, L (n : Int) b = some b) (hstep : ∀ k b, k < n → L (k : Int) b = L ((k + 1 : Nat) : Int) (if viol k then false else b)) (b : Bool) : L 0 b = some (b && !decide (∃ c, c < n ∧ viol c = true)) := by
  have key : ∀ d k b, n = k + d → L (k : Int) b = some (b && !decide (∃ c, k ≤ c ∧ c < n ∧ viol c = true)) := by
    intro d
    induction d with
    | zero =>
      intro k b e
      rw [show k = n by omega, hend]
      have : ¬ ∃ c, n ≤ c ∧ c < n ∧ viol c = true := by rintro ⟨c, h1, h2, _⟩; omega
      simp only [this, decide_false]; simp
    | succ d ih =>
      intro k b e
      rw [hstep k b (by omega), ih (k + 1) _ (by omega)]
      have : (∃ c, k ≤ c ∧ c < n ∧ viol c = true) ↔ (viol k = true ∨ ∃ c, k + 1 ≤ c ∧ c < n ∧ viol c = true) := by
        constructor
        · rintro ⟨c, h1, h2, h3⟩
          rcases Nat.lt_or_ge k c with q | q
          · exact .inr ⟨c, q, h2, h3⟩
          · exact .inl (by rw [show k = c by omega]; exact h3)
        · rintro (q | ⟨c, h1, h2, h3⟩)
          · exact ⟨k, Nat.le_refl _, by omega, q⟩
          · exact ⟨c, by omega, h2, h3⟩
      simp only [this, Bool.decide_or]
      generalize decide (∃ c, k + 1 ≤ c ∧ c < n ∧ viol c = true) = P
      cases viol k <;> cases P <;> cases b <;> rfl
  have := key n 0 b (by omega)
  simpa using this
theorem refJoin_l3 {l : api_Lattice} {U : List Nat} (h : Is l U) {a b k : Nat} (ha : a < U.length) (hb : b < U.length) (hk : k < U.length) (x : Bool) :
    reticentref01_Join.l3 l (a : Int) (b : Int) (k : Int) 0 x = some (x && !decide (∃ c, c < U.length ∧ (le U a c && le U b c && !le U k c) = true)) := by
  have hl := h.len
  refine fold (L := fun c x => reticentref01_Join.l3 l (a : Int) (b : Int) (k : Int) c x) (fun x => ?_) (fun c x hc => ?_) x
  · show reticentref01_Join.l3 l (a : Int) (b : Int) (k : Int) (U.length : Int) x = _
    rw [reticentref01_Join.l3, h.n, if_neg (by omega)]
  · show reticentref01_Join.l3 l (a : Int) (b : Int) (k : Int) (c : Int) x = _
    rw [reticentref01_Join.l3, h.n, if_pos (by omega), refFlows_eq h ha (by omega), refFlows_eq h hb (by omega), refFlows_eq h hk (by omega), ← le_get ha, ← le_get hb, ← le_get hk, step1 (by omega) hc]
    cases le U a c <;> cases le U b c <;> cases le U k c <;> simp
theorem lub_eq {U : List Nat} (hO : Ord U) {a b k : Nat} (ha : a < U.length) (hb : b < U.length) (hk : k < U.length) :
    (le U a k && le U b k && !decide (∃ c, c < U.length ∧ (le U a c && le U b c && !le U k c) = true)) = lub U a b k := by
  unfold lub
  rw [Bool.eq_iff_iff, Bool.and_eq_true, Bool.and_eq_true, ← decide_not, decide_eq_true_iff, decide_eq_true_iff]
  constructor
  · rintro ⟨⟨h1, h2⟩, h3⟩ c hc
    refine ⟨fun q => ⟨hO.trans a k c ha hk hc h1 q, hO.trans b k c hb hk hc h2 q⟩, fun ⟨q1, q2⟩ => ?_⟩
    cases e : le U k c with
    | true => rfl
    | false => exact absurd ⟨c, hc, by simp [q1, q2, e]⟩ h3
  · intro q
    obtain ⟨h1, h2⟩ := (q k hk).1 (hO.refl k hk)
    refine ⟨⟨h1, h2⟩, ?_⟩
    rintro ⟨c, hc, e⟩
    simp only [Bool.and_eq_true, Bool.not_eq_true'] at e
    rw [(q c hc).2 e.1] at e
    simp at e
theorem refJoin_eq {l : api_Lattice} {U : List Nat} (h : Is l U) (hO : Ord U) {a b : Nat} (ha : a < U.length) (hb : b < U.length) : reticentref01_Join.f l (a : Int) (b : Int) = some (jn U a b) := by
  have hl := h.len
  unfold reticentref01_Join.f
  have key : reticentref01_Join.l2 l (a : Int) (b : Int) 0 = some (out (fstOf U.length fun k => if lub U a b k then some (k : Int) else none)) := by
    refine search (fun k => reticentref01_Join.l2 l (a : Int) (b : Int) k) U.length _ ?_ ?_
    · show reticentref01_Join.l2 l (a : Int) (b : Int) (U.length : Int) = _
      rw [reticentref01_Join.l2, h.n, if_neg (by omega)]
    · intro k hk
      show reticentref01_Join.l2 l (a : Int) (b : Int) (k : Int) = _
      rw [reticentref01_Join.l2, h.n, if_pos (by omega), refFlows_eq h ha (by omega), refFlows_eq h hb (by omega), ← le_get ha, ← le_get hb, step1 (by omega) hk]
      simp only [refJoin_l3 h ha hb hk]
      rw [← lub_eq hO ha hb hk]
      generalize (!decide (∃ c, c < U.length ∧ (le U a c && le U b c && !le U k c) = true)) = P
      cases le U a k <;> cases le U b k <;> cases P <;> simp
  rw [key]
  exact fi_out
end Go.Proofs.Ythpmbokenhpakaa.Lat
