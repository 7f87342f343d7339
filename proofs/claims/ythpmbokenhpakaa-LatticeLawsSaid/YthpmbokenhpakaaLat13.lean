/- What an argument is; few. -/
import Derived.Test.YthpmbokenhpakaaLat12
set_option linter.unusedVariables false
namespace Go.Proofs.Ythpmbokenhpakaa.Lat
open Go Go.Proofs.Ythpmbokenhpakaa.Ab Go.Proofs.Ythpmbokenhpakaa.LA
open Classical
theorem inRow {α : Type} {d : Kd α} {H : FH} {cs : List Value} {xs : List α} (h : (kL d).reps H cs xs) : ∀ x ∈ xs, ∃ c, d.reps H c x := by
  obtain ⟨A, c, _, _, _, _, hs⟩ := h
  intro x hx
  rcases hs with e | ⟨b, off, cells, t, fr, _, _, hr⟩
  · rw [e] at hx; cases hx
  · obtain ⟨k, hk, e⟩ := List.getElem_of_mem hx
    exact ⟨_, hr.2 k x (by rw [List.getElem?_eq_getElem hk, e])⟩
theorem inLen {α : Type} {d : Kd α} {H : FH} {cs : List Value} {xs : List α} (h : (kL d).reps H cs xs) : xs.length ≤ big := by
  obtain ⟨A, c, _, _, _, hb, hs⟩ := h
  exact hb
theorem lat_in {l : api_Lattice} (h : ∃ H cs, (kR f_api_Lattice).reps H cs l) : (∀ x ∈ l.Up, 0 ≤ x ∧ x < 4294967296) ∧ l.Up.length ≤ big ∧ l.Names.length ≤ big := by
  obtain ⟨H, cs, c1, c2, e, h1, c3, c4, e2, h2, _⟩ := h
  have h1' : (kL kS).reps H c1 l.Names := h1
  have h2' : (kL (kI .u32)).reps H c3 l.Up := h2
  refine ⟨fun x hx => ?_, inLen h2', inLen h1'⟩
  obtain ⟨c, hc⟩ := inRow h2' x hx
  have : InR .u32 x := hc.2
  unfold InR IntKind.min IntKind.max at this
  simp [IntKind.signed, IntKind.bits] at this
  omega
theorem few_l0 {l : api_Lattice} (hm : (if 10 < (l.Names.length : Int) then (10 : Int) else (l.Names.length : Int)) = ((min 10 l.Names.length : Nat) : Int)) :
    ∀ (d k : Nat) (acc : List Str), min 10 l.Names.length = k + d → acc.length = k → (∀ s ∈ acc, s.length ≤ 15) → ∃ r, reticentlaw01_few.l0 l acc (k : Int) = some r ∧ r.length = min 10 l.Names.length ∧ ∀ s ∈ r, s.length ≤ 15
  | 0, k, acc, e, ha, hs => by
    refine ⟨acc, ?_, by omega, hs⟩
    have hlen : ((lCut l.Names 0 ((min 10 l.Names.length : Nat) : Int)).length) = min 10 l.Names.length := by rw [lCut0, List.length_take]; omega
    rw [reticentlaw01_few.l0, hm, hlen, if_neg (by omega)]
  | d + 1, k, acc, e, ha, hs => by
    have hlen : ((lCut l.Names 0 ((min 10 l.Names.length : Nat) : Int)).length) = min 10 l.Names.length := by rw [lCut0, List.length_take]; omega
    have hk : k < (lCut l.Names 0 ((min 10 l.Names.length : Nat) : Int)).length := by omega
    rw [reticentlaw01_few.l0, hm, if_pos (by omega), lAt_some hk]
    simp only [Option.bind_eq_bind, Option.bind_some]
    generalize (lCut l.Names 0 ((min 10 l.Names.length : Nat) : Int))[k] = s
    have hm2 : (if 15 < (s.length : Int) then (15 : Int) else (s.length : Int)) = ((min 15 s.length : Nat) : Int) := by split <;> omega
    rw [hm2, if_pos ⟨by omega, by omega⟩, if_pos (by unfold big; simp; omega), wrap64 (by omega) (by omega)]
    have := few_l0 hm d (k + 1) (acc ++ [sCut s 0 ((min 15 s.length : Nat) : Int)]) (by omega) (by simp [ha]) (by
      intro t ht
      rw [List.mem_append] at ht
      rcases ht with ht | ht
      · exact hs t ht
      · simp at ht; subst ht
        simp [sCut]; omega)
    rw [show ((k : Int) + 1) = ((k + 1 : Nat) : Int) by omega]
    exact this
theorem few_eq {l : api_Lattice} (h : ∃ H cs, (kR f_api_Lattice).reps H cs l) : ∃ l' U, reticentlaw01_few.f l = some l' ∧ Nm l' U := by
  obtain ⟨h1, h2, h3⟩ := lat_in h
  have hu : (if 10 < (l.Up.length : Int) then (10 : Int) else (l.Up.length : Int)) = ((min 10 l.Up.length : Nat) : Int) := by split <;> omega
  have hm : (if 10 < (l.Names.length : Int) then (10 : Int) else (l.Names.length : Int)) = ((min 10 l.Names.length : Nat) : Int) := by split <;> omega
  obtain ⟨r, hr, hl, hs⟩ := few_l0 hm (min 10 l.Names.length) 0 [] (by omega) rfl (fun s hs => by cases hs)
  refine ⟨⟨r, lCut l.Up 0 ((min 10 l.Up.length : Nat) : Int)⟩, (l.Up.take 10).map Int.toNat, ?_, ⟨⟨?_, ?_, ?_⟩, ?_, hs⟩⟩
  · unfold reticentlaw01_few.f
    rw [show ((0 : Nat) : Int) = 0 from rfl] at hr
    rw [hu, hm, if_pos ⟨by omega, by omega⟩, if_pos ⟨by omega, by omega⟩, hr]
    rfl
  · show lCut l.Up 0 ((min 10 l.Up.length : Nat) : Int) = _
    rw [lCut0, List.map_map]
    have : l.Up.take (min 10 l.Up.length) = l.Up.take 10 := by
      rcases Nat.le_total 10 l.Up.length with q | q
      · rw [Nat.min_eq_left q]
      · rw [Nat.min_eq_right q, List.take_of_length_le (Nat.le_refl _), List.take_of_length_le q]
    rw [this]
    have e2 : (l.Up.take 10).map ((fun x : Nat => (x : Int)) ∘ Int.toNat) = (l.Up.take 10).map id := List.map_congr_left (fun x hx => by
      have := h1 x (List.mem_of_mem_take hx)
      simp; omega)
    rw [e2, List.map_id]
  · intro x hx
    rw [List.mem_map] at hx
    obtain ⟨y, hy, e⟩ := hx
    have := h1 y (List.mem_of_mem_take hy)
    omega
  · simp; omega
  · show r.length ≤ 10
    omega
end Go.Proofs.Ythpmbokenhpakaa.Lat
