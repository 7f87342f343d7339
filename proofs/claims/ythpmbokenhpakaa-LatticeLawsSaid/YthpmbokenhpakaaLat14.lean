/- What the calls tell. -/
import Derived.Test.YthpmbokenhpakaaLat13
set_option linter.unusedVariables false
namespace Go.Proofs.Ythpmbokenhpakaa.Lat
open Go Go.Proofs.Ythpmbokenhpakaa.Ab Go.Proofs.Ythpmbokenhpakaa.LA
open Classical
section
variable {l : api_Lattice} {U : List Nat}
theorem all2 {n : Nat} {a b : Int} : ([a, b] : List Int).all (inn n) = (inn n a && inn n b) := by simp
theorem all1 {n : Nat} {a : Int} : ([a] : List Int).all (inn n) = inn n a := by simp
/-- What all three refuse with. -/
noncomputable def er (l : api_Lattice) (U : List Nat) (ok : Bool) : Int := if chk l U = 0 then (if ok then 0 else 9) else chk l U
theorem Flows_no (h : Nm l U) {a b : Int} (hn : er l U (inn U.length a && inn U.length b) ≠ 0) : lattice_Flows.f l a b = some (false, er l U (inn U.length a && inn U.length b)) := by
  unfold lattice_Flows.f
  rw [there_eq h (by simp), all2]
  show (if er l U (inn U.length a && inn U.length b) = 0 then _ else _) = _
  rw [if_neg hn]; rfl
theorem Join_no (h : Nm l U) {a b : Int} (hn : er l U (inn U.length a && inn U.length b) ≠ 0) : lattice_Join.f l a b = some (0, er l U (inn U.length a && inn U.length b)) := by
  unfold lattice_Join.f
  rw [there_eq h (by simp), all2]
  show (if er l U (inn U.length a && inn U.length b) = 0 then _ else _) = _
  rw [if_neg hn]; rfl
theorem Meet_no (h : Nm l U) {a b : Int} (hn : er l U (inn U.length a && inn U.length b) ≠ 0) : lattice_Meet.f l a b = some (0, er l U (inn U.length a && inn U.length b)) := by
  unfold lattice_Meet.f
  rw [there_eq h (by simp), all2]
  show (if er l U (inn U.length a && inn U.length b) = 0 then _ else _) = _
  rw [if_neg hn]; rfl
theorem Height_no (h : Nm l U) {a : Int} (hn : er l U (inn U.length a) ≠ 0) : lattice_Height.f l a = some (0, er l U (inn U.length a)) := by
  unfold lattice_Height.f
  rw [there_eq h (by simp), all1]
  show (if er l U (inn U.length a) = 0 then _ else _) = _
  rw [if_neg hn]; rfl
theorem inn_of {n k : Nat} (h : k < n) : inn n (k : Int) = true := by unfold inn; simp; omega
theorem yes2 (h : Nm l U) (hc : chk l U = 0) {a b : Nat} (ha : a < U.length) (hb : b < U.length) :
    lattice_Flows.f l (a : Int) (b : Int) = some (le U a b, 0) ∧ lattice_Join.f l (a : Int) (b : Int) = some (jn U a b, 0) ∧ lattice_Meet.f l (a : Int) (b : Int) = some (mt U a b, 0)
      ∧ reticentref01_Flows.f l (a : Int) (b : Int) = some (le U a b) ∧ reticentref01_Join.f l (a : Int) (b : Int) = some (jn U a b) ∧ reticentref01_Meet.f l (a : Int) (b : Int) = some (mt U a b) := by
  obtain ⟨hm, hO, _⟩ := chk_zero hc
  have hl := h.len
  refine ⟨?_, ?_, ?_, ?_, refJoin_eq h.toIs hO ha hb, refMeet_eq h.toIs hO ha hb⟩
  · unfold lattice_Flows.f
    rw [there_eq h (by simp), all2, inn_of ha, inn_of hb, hc, flows_eq h.toIs ha (by omega), le_get ha]; rfl
  · unfold lattice_Join.f
    rw [there_eq h (by simp), all2, inn_of ha, inn_of hb, hc, join_eq h.toIs hm.bits ha hb]; rfl
  · unfold lattice_Meet.f
    rw [there_eq h (by simp), all2, inn_of ha, inn_of hb, hc, meet_eq h.toIs ha hb]; rfl
  · rw [refFlows_eq h.toIs ha (by omega), le_get ha]
theorem yes1 (h : Nm l U) (hc : chk l U = 0) {a : Nat} (ha : a < U.length) : ∃ y, lattice_Height.f l (a : Int) = some (y, 0) ∧ reticentref01_Height.f l (a : Int) = some y := by
  obtain ⟨hm, hO, _⟩ := chk_zero hc
  obtain ⟨y, h1, h2⟩ := height_same h.toIs hO ha
  refine ⟨y, ?_, h2⟩
  unfold lattice_Height.f
  rw [there_eq h (by simp), all1, inn_of ha, hc, h1]; rfl
theorem lawThere (h : Nm l U) {a : Int} : reticentlaw01_there.f l a = some (inn U.length a) := by
  unfold reticentlaw01_there.f inn
  rw [h.n]
  by_cases h1 : a ≥ 0 <;> simp [h1]
end
/-! The lattice that must answer. -/
def four : api_Lattice := ⟨[[97], [98], [99], [100]], [15, 10, 12, 8]⟩
theorem four_nm : Nm four [15, 10, 12, 8] := ⟨⟨rfl, by decide, by decide⟩, by decide, by decide⟩
theorem four_name {s : Str} (h : s ∈ four.Names) : nameOk s = true := by
  have : s = [97] ∨ s = [98] ∨ s = [99] ∨ s = [100] := by simpa [four] using h
  unfold nameOk
  have e : ¬ ∃ k, k < s.length ∧ far s k = true := by
    rintro ⟨k, hk, q⟩
    rcases this with rfl | rfl | rfl | rfl <;> (simp at hk; subst hk; revert q; decide)
  rw [decide_eq_false e]
  rcases this with rfl | rfl | rfl | rfl <;> simp
theorem four_may : May four [15, 10, 12, 8] := by
  refine ⟨by decide, by decide, rfl, ?_⟩
  rintro ⟨i, hi, q⟩
  have hi4 : i < 4 := hi
  have hn : nameOk (four.Names.getD i []) = true := by
    refine four_name ?_
    rcases (by omega : i = 0 ∨ i = 1 ∨ i = 2 ∨ i = 3) with rfl | rfl | rfl | rfl <;> decide
  have hd : ¬ four.Names.getD i [] ∈ four.Names.take i := by
    rcases (by omega : i = 0 ∨ i = 1 ∨ i = 2 ∨ i = 3) with rfl | rfl | rfl | rfl <;> decide
  have hp : ¬ 2 ^ ([15, 10, 12, 8] : List Nat).length ≤ ([15, 10, 12, 8] : List Nat).getD i 0 := by
    rcases (by omega : i = 0 ∨ i = 1 ∨ i = 2 ∨ i = 3) with rfl | rfl | rfl | rfl <;> decide
  unfold badM at q
  rw [hn, decide_eq_false hd, decide_eq_false hp] at q
  cases q
theorem four_ord : Ord [15, 10, 12, 8] where
  refl := by decide
  anti := fun a b ha hb => by
    have : ∀ a, a < 4 → ∀ b, b < 4 → le [15, 10, 12, 8] a b = true → le [15, 10, 12, 8] b a = true → a = b := by decide
    exact this a ha b hb
  trans := fun a b c ha hb hc => by
    have : ∀ a, a < 4 → ∀ b, b < 4 → ∀ c, c < 4 → le [15, 10, 12, 8] a b = true → le [15, 10, 12, 8] b c = true → le [15, 10, 12, 8] a c = true := by decide
    exact this a ha b hb c hc
theorem four_jn : ∀ a b, a < 4 → b < 4 → 0 ≤ jn [15, 10, 12, 8] a b ∧ 0 ≤ mt [15, 10, 12, 8] a b := by
  have hj : ∀ a, a < 4 → ∀ b, b < 4 → ∃ k, k < 4 ∧ ∀ c, c < 4 → (le [15, 10, 12, 8] k c = true ↔ le [15, 10, 12, 8] a c = true ∧ le [15, 10, 12, 8] b c = true) := by decide
  have hm : ∀ a, a < 4 → ∀ b, b < 4 → ∃ k, k < 4 ∧ ∀ c, c < 4 → (le [15, 10, 12, 8] c k = true ↔ le [15, 10, 12, 8] c a = true ∧ le [15, 10, 12, 8] c b = true) := by decide
  intro a b ha hb
  constructor
  · rcases (by omega : jn [15, 10, 12, 8] a b < 0 ∨ 0 ≤ jn [15, 10, 12, 8] a b) with q | q
    · obtain ⟨k, hk, e⟩ := hj a ha b hb
      have := fi_neg.1 q k hk
      unfold lub at this
      exact absurd e (of_decide_eq_false this)
    · exact q
  · rcases (by omega : mt [15, 10, 12, 8] a b < 0 ∨ 0 ≤ mt [15, 10, 12, 8] a b) with q | q
    · obtain ⟨k, hk, e⟩ := hm a ha b hb
      have := fi_neg.1 q k hk
      unfold glb at this
      exact absurd e (of_decide_eq_false this)
    · exact q
theorem four_chk : chk four [15, 10, 12, 8] = 0 := by
  unfold chk
  rw [if_neg (fun k => k four_may), if_neg (fun k => k four_ord), if_neg]
  rintro ⟨a, b, ha, hb, q⟩
  obtain ⟨h1, h2⟩ := four_jn a b ha hb
  unfold bad3 at q
  rw [decide_eq_false (by omega), decide_eq_false (by omega)] at q
  cases q
theorem four_12 : jn [15, 10, 12, 8] 1 2 = 3 := by
  refine fi_one (k := 3) (by decide) ?_ ?_
  · unfold lub
    exact decide_eq_true (by decide)
  · intro j hj q
    unfold lub at q
    have q := of_decide_eq_true q
    have hj4 : j < 4 := hj
    revert q
    rcases (by omega : j = 0 ∨ j = 1 ∨ j = 2 ∨ j = 3) with rfl | rfl | rfl | rfl <;> decide
theorem four_st (rc : api_Lattice → Int → Option Int) (a : Nat) (ha : a < 4) : ∀ (k : Nat) v, k < 4 → lattice_height.l0 four (a : Int) rc (k : Int) v = (if k = a ∨ le [15, 10, 12, 8] k a = false then lattice_height.l0 four (a : Int) rc ((k + 1 : Nat) : Int) v else (rc four (k : Int) >>= fun y => lattice_height.l0 four (a : Int) rc ((k + 1 : Nat) : Int) (if v < IntKind.i64.wrap (1 + y) then IntKind.i64.wrap (1 + y) else v))) := by
  have fl : ∀ i j : Nat, i < 4 → j < 4 → lattice_flows.f four (i : Int) (j : Int) = some (le [15, 10, 12, 8] i j) := fun i j hi hj => by
    rw [flows_eq four_nm.toIs (by exact hi) (by omega), le_get]
  intro k v hk
  rw [lattice_height.l0, four_nm.n, if_pos (by simp; omega), fl k a hk ha, wrap64 (by omega) (by omega), show ((k : Int) + 1) = ((k + 1 : Nat) : Int) by omega]
  have e1 : ((k : Int) = (a : Int)) ↔ k = a := Int.natCast_inj
  simp only [e1]
  by_cases hka : k = a
  · simp [hka]
  · cases le [15, 10, 12, 8] k a <;> simp [hka]
    cases rc four (k : Int) <;> rfl
theorem four_end (rc : api_Lattice → Int → Option Int) (a v : Int) : lattice_height.l0 four a rc ((4 : Nat) : Int) v = some v := by
  rw [lattice_height.l0, four_nm.n, if_neg (by simp)]
theorem four_0 (rc : api_Lattice → Int → Option Int) : lattice_height.B rc four ((0 : Nat) : Int) = some 0 := by
  unfold lattice_height.B
  have := four_st rc 0 (by omega)
  rw [show (0 : Int) = ((0 : Nat) : Int) from rfl, this 0 _ (by omega), if_pos (by decide), this 1 _ (by omega), if_pos (by decide), this 2 _ (by omega), if_pos (by decide), this 3 _ (by omega), if_pos (by decide), four_end]; rfl
theorem four_1 (rc : api_Lattice → Int → Option Int) (h0 : rc four ((0 : Nat) : Int) = some 0) : lattice_height.B rc four ((1 : Nat) : Int) = some 1 := by
  unfold lattice_height.B
  have := four_st rc 1 (by omega)
  rw [show (0 : Int) = ((0 : Nat) : Int) from rfl, this 0 _ (by omega), if_neg (by decide), h0]
  simp only [Option.bind_eq_bind, Option.bind_some]
  rw [this 1 _ (by omega), if_pos (by decide), this 2 _ (by omega), if_pos (by decide), this 3 _ (by omega), if_pos (by decide), four_end]; rfl
theorem four_2 (rc : api_Lattice → Int → Option Int) (h0 : rc four ((0 : Nat) : Int) = some 0) : lattice_height.B rc four ((2 : Nat) : Int) = some 1 := by
  unfold lattice_height.B
  have := four_st rc 2 (by omega)
  rw [show (0 : Int) = ((0 : Nat) : Int) from rfl, this 0 _ (by omega), if_neg (by decide), h0]
  simp only [Option.bind_eq_bind, Option.bind_some]
  rw [this 1 _ (by omega), if_pos (by decide), this 2 _ (by omega), if_pos (by decide), this 3 _ (by omega), if_pos (by decide), four_end]; rfl
theorem four_3 (rc : api_Lattice → Int → Option Int) (h0 : rc four ((0 : Nat) : Int) = some 0) (h1 : rc four ((1 : Nat) : Int) = some 1) (h2 : rc four ((2 : Nat) : Int) = some 1) : lattice_height.B rc four ((3 : Nat) : Int) = some 2 := by
  unfold lattice_height.B
  have := four_st rc 3 (by omega)
  rw [show (0 : Int) = ((0 : Nat) : Int) from rfl, this 0 _ (by omega), if_neg (by decide), h0]
  simp only [Option.bind_eq_bind, Option.bind_some]
  rw [this 1 _ (by omega), if_neg (by decide), h1]
  simp only [Option.bind_eq_bind, Option.bind_some]
  rw [this 2 _ (by omega), if_neg (by decide), h2]
  simp only [Option.bind_eq_bind, Option.bind_some]
  rw [this 3 _ (by omega), if_pos (by decide), four_end]; rfl
theorem four_height : lattice_height.f four 3 = some 2 :=
  four_3 _ (four_0 _) (four_1 _ (four_0 _)) (four_2 _ (four_0 _))
theorem alive : reticentlaw01_alive.f = some true := by
  have h := four_nm
  have hJ := (yes2 h four_chk (a := 1) (b := 2) (by decide) (by decide)).2.1
  have hH : lattice_Height.f four ((3 : Nat) : Int) = some (2, 0) := by
    unfold lattice_Height.f
    rw [there_eq h (by simp), all1, inn_of (by decide), four_chk, show ((3 : Nat) : Int) = 3 from rfl, four_height]; rfl
  rw [four_12] at hJ
  show (lattice_Join.f four ((1 : Nat) : Int) ((2 : Nat) : Int) >>= fun y1 => lattice_Height.f four ((3 : Nat) : Int) >>= fun y2 => _) = _
  rw [hJ, hH]
  rfl
/-- LatticeTells, of plain lists. -/
theorem tells {l : api_Lattice} {a b : Int} (hl : ∃ H cs, (kR f_api_Lattice).reps H cs l) : reticentlaw01_LatticeTells.f l a b = some true := by
  obtain ⟨l', U, hf, h⟩ := few_eq hl
  unfold reticentlaw01_LatticeTells.f
  rw [show (⟨l.Names, l.Up⟩ : api_Lattice) = l from rfl, hf]
  simp only [Option.bind_eq_bind, Option.bind_some]
  rw [refCheck_eq h, lawThere h, lawThere h, alive]
  by_cases hc : chk l' U = 0
  · by_cases ha : inn U.length a = true
    · obtain ⟨i, rfl, hi⟩ := inn_nat ha
      obtain ⟨y, hy, hy'⟩ := yes1 h hc hi
      rw [hy, hy']
      by_cases hb : inn U.length b = true
      · obtain ⟨j, rfl, hj⟩ := inn_nat hb
        obtain ⟨e1, e2, e3, e4, e5, e6⟩ := yes2 h hc hi hj
        rw [e1, e2, e3, e4, e5, e6]
        simp [hc, ha, hb]
      · have hb' : inn U.length b = false := by simpa using hb
        have he : er l' U (inn U.length (i : Int) && inn U.length b) = 9 := by rw [ha, hb']; simp [er, hc]
        rw [Flows_no h (by rw [he]; decide), Join_no h (by rw [he]; decide), Meet_no h (by rw [he]; decide), he]
        simp [hc, ha, hb']
    · have ha' : inn U.length a = false := by simpa using ha
      have he : er l' U (inn U.length a && inn U.length b) = 9 := by rw [ha']; simp [er, hc]
      have he1 : er l' U (inn U.length a) = 9 := by rw [ha']; simp [er, hc]
      rw [Flows_no h (by rw [he]; decide), Join_no h (by rw [he]; decide), Meet_no h (by rw [he]; decide), Height_no h (by rw [he1]; decide), he, he1]
      simp [hc, ha']
  · have he : ∀ x, er l' U x = chk l' U := fun x => by unfold er; rw [if_neg hc]
    rw [Flows_no h (by rw [he]; exact hc), Join_no h (by rw [he]; exact hc), Meet_no h (by rw [he]; exact hc), Height_no h (by rw [he]; exact hc), he, he]
    simp [hc]
end Go.Proofs.Ythpmbokenhpakaa.Lat
