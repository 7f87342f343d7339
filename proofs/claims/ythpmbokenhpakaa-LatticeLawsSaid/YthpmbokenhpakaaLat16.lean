/- Heights: what they are. -/
import Derived.Test.YthpmbokenhpakaaLat15
set_option linter.unusedVariables false
namespace Go.Proofs.Ythpmbokenhpakaa.Lat
open Go Go.Proofs.Ythpmbokenhpakaa.Ab Go.Proofs.Ythpmbokenhpakaa.LA
open Classical
def Hg (l : api_Lattice) (a : Nat) : Int := (lattice_height.F 1000 l (a : Int)).getD 0
theorem hl0 {l : api_Lattice} {U : List Nat} (h : Is l U) {f : Nat → Int} {a : Nat} (ha : a < U.length) (hf : ∀ c, c < U.length → c ≠ a → le U c a = true → 0 ≤ f c ∧ f c ≤ 100) :
    ∀ (d k : Nat) (v : Int), U.length = k + d → ∃ w : Int, (∀ rc : api_Lattice → Int → Option Int, (∀ c, c < U.length → c ≠ a → le U c a = true → rc l (c : Int) = some (f c)) → lattice_height.l0 l (a : Int) rc (k : Int) v = some w) ∧ v ≤ w ∧ (∀ c, k ≤ c → c < U.length → c ≠ a → le U c a = true → 1 + f c ≤ w) ∧ (w = v ∨ ∃ c, c < U.length ∧ c ≠ a ∧ le U c a = true ∧ w = 1 + f c)
  | 0, k, v, e => ⟨v, fun rc _ => by rw [lattice_height.l0, h.n, if_neg (by omega)], Int.le_refl _, fun c h1 h2 => by omega, .inl rfl⟩
  | d + 1, k, v, e => by
    have hl := h.len
    have hk : k < U.length := by omega
    have hlt : (k : Int) < (U.length : Int) := by omega
    have e1 : ((k : Int) = (a : Int)) ↔ k = a := Int.natCast_inj
    by_cases hv : k ≠ a ∧ le U k a = true
    · obtain ⟨g1, g2⟩ := hf k hk hv.1 hv.2
      obtain ⟨w, w1, w2, w3, w4⟩ := hl0 h ha hf d (k + 1) (if v < 1 + f k then 1 + f k else v) (by omega)
      refine ⟨w, fun rc hrc => ?_, by split at w2 <;> omega, fun c q1 q2 q3 q4 => ?_, ?_⟩
      · rw [lattice_height.l0, h.n, if_pos hlt, flows_eq h hk (by omega), ← le_get hk, step1 (by omega) hk]
        simp only [e1, if_neg hv.1, Option.bind_eq_bind, Option.bind_some, hv.2, if_true, hrc k hk hv.1 hv.2]
        rw [wrap64 (by omega) (by omega)]
        exact w1 rc hrc
      · rcases Nat.lt_or_ge k c with q | q
        · exact w3 c q q2 q3 q4
        · have : c = k := by omega
          subst this
          split at w2 <;> omega
      · rcases w4 with q | q
        · by_cases q2 : v < 1 + f k
          · rw [if_pos q2] at q; exact .inr ⟨k, hk, hv.1, hv.2, q⟩
          · rw [if_neg q2] at q; exact .inl q
        · exact .inr q
    · obtain ⟨w, w1, w2, w3, w4⟩ := hl0 h ha hf d (k + 1) v (by omega)
      refine ⟨w, fun rc hrc => ?_, w2, fun c q1 q2 q3 q4 => ?_, w4⟩
      · rw [lattice_height.l0, h.n, if_pos hlt, flows_eq h hk (by omega), ← le_get hk, step1 (by omega) hk]
        by_cases hka : k = a
        · simp only [e1, if_pos hka, Option.bind_eq_bind, Option.bind_some]
          exact w1 rc hrc
        · have : le U k a = false := by
            cases q : le U k a with
            | false => rfl
            | true => exact absurd ⟨hka, q⟩ hv
          simp only [e1, if_neg hka, Option.bind_eq_bind, Option.bind_some, this]
          exact w1 rc hrc
      · rcases Nat.lt_or_ge k c with q | q
        · exact w3 c q q2 q3 q4
        · have : c = k := by omega
          subst this
          exact absurd ⟨q3, q4⟩ hv
theorem bel_le {U : List Nat} {a : Nat} : bel U a ≤ U.length := by
  unfold bel
  exact Nat.le_trans (List.length_filter_le ..) (by simp)
structure HgI (l : api_Lattice) (U : List Nat) (a : Nat) : Prop where
  eq : ∀ k, bel U a < k → lattice_height.F k l (a : Int) = some (Hg l a)
  nn : 0 ≤ Hg l a
  le : Hg l a ≤ bel U a
  lt : ∀ c, c < U.length → c ≠ a → Lat.le U c a = true → Hg l c < Hg l a
  bot : (∀ c, c < U.length → Lat.le U c a = true → c = a) → Hg l a = 0
theorem hgI {l : api_Lattice} {U : List Nat} (h : Is l U) (hO : Ord U) : ∀ (m a : Nat), a < U.length → bel U a ≤ m → HgI l U a := by
  intro m
  induction m with
  | zero =>
    intro a ha hm
    have hb : ∀ c, c < U.length → Lat.le U c a = true → c = a := fun c hc q => Classical.byContradiction fun hne => by have := bel_lt hO ha hc hne q; omega
    obtain ⟨w, w1, w2, w3, w4⟩ := hl0 h (f := fun _ => 0) ha (fun c hc hne q => absurd (hb c hc q) hne) U.length 0 0 (by omega)
    have hw : w = 0 := by
      rcases w4 with q | ⟨c, hc, hne, q, _⟩
      · exact q
      · exact absurd (hb c hc q) hne
    have hF : ∀ k, bel U a < k → lattice_height.F k l (a : Int) = some 0 := by
      intro k hk
      match k, hk with
      | k + 1, _ =>
        show lattice_height.B (lattice_height.F k) l (a : Int) = _
        unfold lattice_height.B
        have := w1 (lattice_height.F k) (fun c hc hne q => absurd (hb c hc q) hne)
        rw [show ((0 : Nat) : Int) = 0 from rfl] at this
        rw [this, hw]; rfl
    have hH : Hg l a = 0 := by unfold Hg; rw [hF 1000 (by have := bel_le (U := U) (a := a); have := h.len; omega)]; rfl
    exact ⟨fun k hk => by rw [hH]; exact hF k hk, by omega, by omega, fun c hc hne q => absurd (hb c hc q) hne, fun _ => hH⟩
  | succ m ih =>
    intro a ha hm
    have hIH : ∀ c, c < U.length → c ≠ a → Lat.le U c a = true → HgI l U c := fun c hc hne q => ih c hc (by have := bel_lt hO ha hc hne q; omega)
    have hl := h.len
    obtain ⟨w, w1, w2, w3, w4⟩ := hl0 h (f := Hg l) ha (fun c hc hne q => ⟨(hIH c hc hne q).nn, by have := (hIH c hc hne q).le; have := bel_le (U := U) (a := c); omega⟩) U.length 0 0 (by omega)
    have hF : ∀ k, bel U a < k → lattice_height.F k l (a : Int) = some w := by
      intro k hk
      match k, hk with
      | k + 1, hk =>
        show lattice_height.B (lattice_height.F k) l (a : Int) = _
        unfold lattice_height.B
        have := w1 (lattice_height.F k) (fun c hc hne q => (hIH c hc hne q).eq k (by have := bel_lt hO ha hc hne q; omega))
        rw [show ((0 : Nat) : Int) = 0 from rfl] at this
        rw [this]; rfl
    have hH : Hg l a = w := by unfold Hg; rw [hF 1000 (by have := bel_le (U := U) (a := a); omega)]; rfl
    refine ⟨fun k hk => by rw [hH]; exact hF k hk, by omega, ?_, fun c hc hne q => by have := w3 c (by omega) hc hne q; omega, fun hb => ?_⟩
    · rcases w4 with q | ⟨c, hc, hne, q, e⟩
      · omega
      · have h1 := bel_lt hO ha hc hne q
        have h2 := (hIH c hc hne q).le
        omega
    · rcases w4 with q | ⟨c, hc, hne, q, e⟩
      · omega
      · exact absurd (hb c hc q) hne
theorem hg {l : api_Lattice} {U : List Nat} (h : Is l U) (hO : Ord U) {a : Nat} (ha : a < U.length) : HgI l U a := hgI h hO (bel U a) a ha (Nat.le_refl _)
theorem height_hg {l : api_Lattice} {U : List Nat} (h : Nm l U) (hc : chk l U = 0) {a : Nat} (ha : a < U.length) : lattice_Height.f l (a : Int) = some (Hg l a, 0) := by
  obtain ⟨_, hO, _⟩ := chk_zero hc
  have hl := h.len
  unfold lattice_Height.f lattice_height.f
  rw [there_eq h (by simp), all1, inn_of ha, hc, (hg h.toIs hO ha).eq 1000 (by have := bel_le (U := U) (a := a); omega)]; rfl
end Go.Proofs.Ythpmbokenhpakaa.Lat
