/- Lattices: ends; few. -/
import Derived.Test.YthpmbokenhpakaaJu2
set_option linter.unusedVariables false
set_option linter.unusedSimpArgs false
namespace Go.Proofs.Ythpmbokenhpakaa.Jdg
open Go Go.Proofs.Ythpmbokenhpakaa.Ab Go.Proofs.Ythpmbokenhpakaa.LE
open Go.Proofs.Ythpmbokenhpakaa.Lat (lAt_some wrap64 wrapU32 ofInt_nat bAnd_nat bOr_nat bShr_nat)
open Classical
theorem inRow {α : Type} {d : Kd α} {H : FH} {cs : List Value} {xs : List α} (h : (kL d).reps H cs xs) : ∀ x ∈ xs, ∃ c, d.reps H c x := by
  obtain ⟨A, c, _, _, _, _, hs⟩ := h
  intro x hx
  rcases hs with e | ⟨b, off, cells, t, fr, _, _, hr⟩
  · rw [e] at hx; cases hx
  · obtain ⟨k, hk, e⟩ := List.getElem_of_mem hx
    exact ⟨_, hr.2 k x (by rw [List.getElem?_eq_getElem hk, e])⟩
theorem inLen {α : Type} {d : Kd α} {H : FH} {cs : List Value} {xs : List α} (h : (kL d).reps H cs xs) : xs.length ≤ big := by
  obtain ⟨A, c, _, _, _, hb, hs⟩ := h
  exact hb
theorem lat_in {l : api_Lattice} (h : ∃ H cs, (kR f_api_Lattice).reps H cs l) : (∀ x ∈ l.Up, 0 ≤ x ∧ x < 4294967296) ∧ l.Up.length ≤ big ∧ l.Names.length ≤ big := by
  obtain ⟨H, cs, c1, c2, e, h1, c3, c4, e2, h2, _⟩ := h
  have h1' : (kL kS).reps H c1 l.Names := h1
  have h2' : (kL (kI .u32)).reps H c3 l.Up := h2
  refine ⟨fun x hx => ?_, inLen h2', inLen h1'⟩
  obtain ⟨c, hc⟩ := inRow h2' x hx
  have : InR .u32 x := hc.2
  unfold InR IntKind.min IntKind.max at this
  simp [IntKind.signed, IntKind.bits] at this
  omega
theorem few_l0 {l : api_Lattice} (hm : (if 10 < (l.Names.length : Int) then (10 : Int) else (l.Names.length : Int)) = ((min 10 l.Names.length : Nat) : Int)) :
    ∀ (d k : Nat) (acc : List Str), min 10 l.Names.length = k + d → acc.length = k → (∀ s ∈ acc, s.length ≤ 15) → ∃ r, reticentlaw07_few.l0 l acc (k : Int) = some r ∧ r.length = min 10 l.Names.length ∧ ∀ s ∈ r, s.length ≤ 15
  | 0, k, acc, e, ha, hs => by
    refine ⟨acc, ?_, by omega, hs⟩
    have hlen : ((lCut l.Names 0 ((min 10 l.Names.length : Nat) : Int)).length) = min 10 l.Names.length := by rw [lCut0, List.length_take]; omega
    rw [reticentlaw07_few.l0, hm, hlen, if_neg (by omega)]
  | d + 1, k, acc, e, ha, hs => by
    have hlen : ((lCut l.Names 0 ((min 10 l.Names.length : Nat) : Int)).length) = min 10 l.Names.length := by rw [lCut0, List.length_take]; omega
    have hk : k < (lCut l.Names 0 ((min 10 l.Names.length : Nat) : Int)).length := by omega
    rw [reticentlaw07_few.l0, hm, if_pos (by omega), lAt_some hk]
    simp only [Option.bind_eq_bind, Option.bind_some]
    generalize (lCut l.Names 0 ((min 10 l.Names.length : Nat) : Int))[k] = s
    have hm2 : (if 15 < (s.length : Int) then (15 : Int) else (s.length : Int)) = ((min 15 s.length : Nat) : Int) := by split <;> omega
    rw [hm2, if_pos ⟨by omega, by omega⟩, if_pos (by unfold big; simp; omega), wrap64 (by omega) (by omega)]
    have := few_l0 hm d (k + 1) (acc ++ [sCut s 0 ((min 15 s.length : Nat) : Int)]) (by omega) (by simp [ha]) (by
      intro t ht
      rw [List.mem_append] at ht
      rcases ht with ht | ht
      · exact hs t ht
      · simp at ht; subst ht
        simp [sCut]; omega)
    rw [show ((k : Int) + 1) = ((k + 1 : Nat) : Int) by omega]
    exact this
theorem few_eq {l : api_Lattice} (h : ∃ H cs, (kR f_api_Lattice).reps H cs l) : ∃ l' U, reticentlaw07_few.f l = some l' ∧ Nm l' U := by
  obtain ⟨h1, h2, h3⟩ := lat_in h
  have hu : (if 10 < (l.Up.length : Int) then (10 : Int) else (l.Up.length : Int)) = ((min 10 l.Up.length : Nat) : Int) := by split <;> omega
  have hm : (if 10 < (l.Names.length : Int) then (10 : Int) else (l.Names.length : Int)) = ((min 10 l.Names.length : Nat) : Int) := by split <;> omega
  obtain ⟨r, hr, hl, hs⟩ := few_l0 hm (min 10 l.Names.length) 0 [] (by omega) rfl (fun s hs => by cases hs)
  refine ⟨⟨r, lCut l.Up 0 ((min 10 l.Up.length : Nat) : Int)⟩, (l.Up.take 10).map Int.toNat, ?_, ⟨⟨?_, ?_, ?_⟩, ?_, hs⟩⟩
  · unfold reticentlaw07_few.f
    rw [show ((0 : Nat) : Int) = 0 from rfl] at hr
    rw [hu, hm, if_pos ⟨by omega, by omega⟩, if_pos ⟨by omega, by omega⟩, hr]
    rfl
  · show lCut l.Up 0 ((min 10 l.Up.length : Nat) : Int) = _
    rw [lCut0, List.map_map]
    have : l.Up.take (min 10 l.Up.length) = l.Up.take 10 := by
      rcases Nat.le_total 10 l.Up.length with q | q
      · rw [Nat.min_eq_left q]
      · rw [Nat.min_eq_right q, List.take_of_length_le (Nat.le_refl _), List.take_of_length_le q]
    rw [this]
    have e2 : (l.Up.take 10).map ((fun x : Nat => (x : Int)) ∘ Int.toNat) = (l.Up.take 10).map id := List.map_congr_left (fun x hx => by
      have := h1 x (List.mem_of_mem_take hx)
      simp; omega)
    rw [e2, List.map_id]
  · intro x hx
    rw [List.mem_map] at hx
    obtain ⟨y, hy, e⟩ := hx
    have := h1 y (List.mem_of_mem_take hy)
    omega
  · simp; omega
  · show r.length ≤ 10
    omega

section
variable {l : api_Lattice} {U : List Nat}
theorem all2 {n : Nat} {a b : Int} : ([a, b] : List Int).all (inn n) = (inn n a && inn n b) := by simp
theorem all1 {n : Nat} {a : Int} : ([a] : List Int).all (inn n) = inn n a := by simp
/-- What all three refuse with. -/
noncomputable def er (l : api_Lattice) (U : List Nat) (ok : Bool) : Int := if chk l U = 0 then (if ok then 0 else 9) else chk l U
theorem Flows_no (h : Nm l U) {a b : Int} (hn : er l U (inn U.length a && inn U.length b) ≠ 0) : lattice_Flows.f l a b = some (false, er l U (inn U.length a && inn U.length b)) := by
  unfold lattice_Flows.f
  rw [there_eq h (by simp), all2]
  show (if er l U (inn U.length a && inn U.length b) = 0 then _ else _) = _
  rw [if_neg hn]; rfl
theorem Join_no (h : Nm l U) {a b : Int} (hn : er l U (inn U.length a && inn U.length b) ≠ 0) : lattice_Join.f l a b = some (0, er l U (inn U.length a && inn U.length b)) := by
  unfold lattice_Join.f
  rw [there_eq h (by simp), all2]
  show (if er l U (inn U.length a && inn U.length b) = 0 then _ else _) = _
  rw [if_neg hn]; rfl
theorem Meet_no (h : Nm l U) {a b : Int} (hn : er l U (inn U.length a && inn U.length b) ≠ 0) : lattice_Meet.f l a b = some (0, er l U (inn U.length a && inn U.length b)) := by
  unfold lattice_Meet.f
  rw [there_eq h (by simp), all2]
  show (if er l U (inn U.length a && inn U.length b) = 0 then _ else _) = _
  rw [if_neg hn]; rfl
theorem inn_of {n k : Nat} (h : k < n) : inn n (k : Int) = true := by unfold inn; simp; omega
theorem yes2 (h : Nm l U) (hc : chk l U = 0) {a b : Nat} (ha : a < U.length) (hb : b < U.length) :
    lattice_Flows.f l (a : Int) (b : Int) = some (le U a b, 0) ∧ lattice_Join.f l (a : Int) (b : Int) = some (jn U a b, 0) ∧ lattice_Meet.f l (a : Int) (b : Int) = some (mt U a b, 0)
      ∧ reticentref01_Flows.f l (a : Int) (b : Int) = some (le U a b) ∧ reticentref01_Join.f l (a : Int) (b : Int) = some (jn U a b) ∧ reticentref01_Meet.f l (a : Int) (b : Int) = some (mt U a b) := by
  obtain ⟨hm, hO, _⟩ := chk_zero hc
  have hl := h.len
  refine ⟨?_, ?_, ?_, ?_, refJoin_eq h.toIs hO ha hb, refMeet_eq h.toIs hO ha hb⟩
  · unfold lattice_Flows.f
    rw [there_eq h (by simp), all2, inn_of ha, inn_of hb, hc, flows_eq h.toIs ha (by omega), le_get ha]; rfl
  · unfold lattice_Join.f
    rw [there_eq h (by simp), all2, inn_of ha, inn_of hb, hc, join_eq h.toIs hm.bits ha hb]; rfl
  · unfold lattice_Meet.f
    rw [there_eq h (by simp), all2, inn_of ha, inn_of hb, hc, meet_eq h.toIs ha hb]; rfl
  · rw [refFlows_eq h.toIs ha (by omega), le_get ha]
end
/-! The lattice that must answer. -/
def four : api_Lattice := ⟨[[97], [98], [99], [100]], [15, 10, 12, 8]⟩
theorem four_nm : Nm four [15, 10, 12, 8] := ⟨⟨rfl, by decide, by decide⟩, by decide, by decide⟩
theorem four_name {s : Str} (h : s ∈ four.Names) : nameOk s = true := by
  have : s = [97] ∨ s = [98] ∨ s = [99] ∨ s = [100] := by simpa [four] using h
  unfold nameOk
  have e : ¬ ∃ k, k < s.length ∧ far s k = true := by
    rintro ⟨k, hk, q⟩
    rcases this with rfl | rfl | rfl | rfl <;> (simp at hk; subst hk; revert q; decide)
  rw [decide_eq_false e]
  rcases this with rfl | rfl | rfl | rfl <;> simp
theorem four_may : May four [15, 10, 12, 8] := by
  refine ⟨by decide, by decide, rfl, ?_⟩
  rintro ⟨i, hi, q⟩
  have hi4 : i < 4 := hi
  have hn : nameOk (four.Names.getD i []) = true := by
    refine four_name ?_
    rcases (by omega : i = 0 ∨ i = 1 ∨ i = 2 ∨ i = 3) with rfl | rfl | rfl | rfl <;> decide
  have hd : ¬ four.Names.getD i [] ∈ four.Names.take i := by
    rcases (by omega : i = 0 ∨ i = 1 ∨ i = 2 ∨ i = 3) with rfl | rfl | rfl | rfl <;> decide
  have hp : ¬ 2 ^ ([15, 10, 12, 8] : List Nat).length ≤ ([15, 10, 12, 8] : List Nat).getD i 0 := by
    rcases (by omega : i = 0 ∨ i = 1 ∨ i = 2 ∨ i = 3) with rfl | rfl | rfl | rfl <;> decide
  unfold badM at q
  rw [hn, decide_eq_false hd, decide_eq_false hp] at q
  cases q
theorem four_ord : Ord [15, 10, 12, 8] where
  refl := by decide
  anti := fun a b ha hb => by
    have : ∀ a, a < 4 → ∀ b, b < 4 → le [15, 10, 12, 8] a b = true → le [15, 10, 12, 8] b a = true → a = b := by decide
    exact this a ha b hb
  trans := fun a b c ha hb hc => by
    have : ∀ a, a < 4 → ∀ b, b < 4 → ∀ c, c < 4 → le [15, 10, 12, 8] a b = true → le [15, 10, 12, 8] b c = true → le [15, 10, 12, 8] a c = true := by decide
    exact this a ha b hb c hc
theorem four_jn : ∀ a b, a < 4 → b < 4 → 0 ≤ jn [15, 10, 12, 8] a b ∧ 0 ≤ mt [15, 10, 12, 8] a b := by
  have hj : ∀ a, a < 4 → ∀ b, b < 4 → ∃ k, k < 4 ∧ ∀ c, c < 4 → (le [15, 10, 12, 8] k c = true ↔ le [15, 10, 12, 8] a c = true ∧ le [15, 10, 12, 8] b c = true) := by decide
  have hm : ∀ a, a < 4 → ∀ b, b < 4 → ∃ k, k < 4 ∧ ∀ c, c < 4 → (le [15, 10, 12, 8] c k = true ↔ le [15, 10, 12, 8] c a = true ∧ le [15, 10, 12, 8] c b = true) := by decide
  intro a b ha hb
  constructor
  · rcases (by omega : jn [15, 10, 12, 8] a b < 0 ∨ 0 ≤ jn [15, 10, 12, 8] a b) with q | q
    · obtain ⟨k, hk, e⟩ := hj a ha b hb
      have := fi_neg.1 q k hk
      unfold lub at this
      exact absurd e (of_decide_eq_false this)
    · exact q
  · rcases (by omega : mt [15, 10, 12, 8] a b < 0 ∨ 0 ≤ mt [15, 10, 12, 8] a b) with q | q
    · obtain ⟨k, hk, e⟩ := hm a ha b hb
      have := fi_neg.1 q k hk
      unfold glb at this
      exact absurd e (of_decide_eq_false this)
    · exact q
theorem four_chk : chk four [15, 10, 12, 8] = 0 := by
  unfold chk
  rw [if_neg (fun k => k four_may), if_neg (fun k => k four_ord), if_neg]
  rintro ⟨a, b, ha, hb, q⟩
  obtain ⟨h1, h2⟩ := four_jn a b ha hb
  unfold bad3 at q
  rw [decide_eq_false (by omega), decide_eq_false (by omega)] at q
  cases q
theorem four_12 : jn [15, 10, 12, 8] 1 2 = 3 := by
  refine fi_one (k := 3) (by decide) ?_ ?_
  · unfold lub
    exact decide_eq_true (by decide)
  · intro j hj q
    unfold lub at q
    have q := of_decide_eq_true q
    have hj4 : j < 4 := hj
    revert q
    rcases (by omega : j = 0 ∨ j = 1 ∨ j = 2 ∨ j = 3) with rfl | rfl | rfl | rfl <;> decide

theorem idxU_eq {xs : List Int} {a : Int} (hx : xs.length ≤ 1000) :
    slices_Index_uint32_uint32.f xs a = some (fi xs.length (fun k => decide (a = xs.getD k 0))) := by
  unfold slices_Index_uint32_uint32.f
  have key : slices_Index_uint32_uint32.l0 xs a 0 = some (out (fstOf xs.length fun k => if decide (a = xs.getD k 0) then some (k : Int) else none)) := by
    refine search (fun k => slices_Index_uint32_uint32.l0 xs a k) xs.length _ ?_ ?_
    · show slices_Index_uint32_uint32.l0 xs a (xs.length : Int) = _
      rw [slices_Index_uint32_uint32.l0, if_neg (by omega)]
    · intro k hk
      show slices_Index_uint32_uint32.l0 xs a (k : Int) = _
      have e : xs.getD k 0 = xs[k] := by simp [hk]
      rw [slices_Index_uint32_uint32.l0, if_pos (by omega), lAt_some hk, step1 hx hk, e]
      by_cases q : a = xs[k] <;> simp [q]
  rw [key]
  exact fi_out
theorem count8 : ∀ x : Nat, x < 256 → bits_OnesCount32.f (x : Int) = some (sAt ks0 (x : Int)) := by decide +kernel
theorem count1 : ∀ x : Nat, x < 256 → ∀ k : Nat, k < 8 → x.testBit k = true → ((sAt ks0 (x : Int) = 1) ↔ x = 2 ^ k) := by decide +kernel
theorem all1s : ∀ n : Nat, n < 9 → IntKind.u32.wrap ((bShl .u32 1 (n : Int)) - 1) = ((2 ^ n - 1 : Nat) : Int) := by decide +kernel
section
variable {l : api_Lattice} {U : List Nat}
theorem getU (h : Is l U) {k : Nat} (hk : k < U.length) : l.Up.getD k 0 = ((U[k] : Nat) : Int) := by rw [h.up]; simp [hk]
theorem Up_len (h : Is l U) : l.Up.length ≤ 1000 := by rw [h.n]; have := h.len; omega
theorem bot_unique (hO : Ord U) {j k : Nat} (hj : j < U.length) (hk : k < U.length) (h1 : ∀ c, c < U.length → le U j c = true) (h2 : ∀ c, c < U.length → le U k c = true) : j = k :=
  hO.anti j k hj hk (h1 k hk) (h2 j hj)
theorem top_unique (hO : Ord U) {j k : Nat} (hj : j < U.length) (hk : k < U.length) (h1 : ∀ c, c < U.length → le U c j = true) (h2 : ∀ c, c < U.length → le U c k = true) : j = k :=
  hO.anti j k hj hk (h2 j hj) (h1 k hk)
theorem mt_is (hO : Ord U) {a b : Nat} (ha : a < U.length) (hb : b < U.length) (h : 0 ≤ mt U a b) : ∃ k : Nat, mt U a b = (k : Int) ∧ k < U.length ∧ le U k a = true ∧ le U k b = true := by
  obtain ⟨k, hk, hp, e⟩ := fi_pos h
  unfold glb at hp
  have hp := of_decide_eq_true hp
  have := (hp k hk).1 (hO.refl k hk)
  exact ⟨k, e, hk, this.1, this.2⟩
theorem jn_is (hO : Ord U) {a b : Nat} (ha : a < U.length) (hb : b < U.length) (h : 0 ≤ jn U a b) : ∃ k : Nat, jn U a b = (k : Int) ∧ k < U.length ∧ le U a k = true ∧ le U b k = true := by
  obtain ⟨k, hk, hp, e⟩ := fi_pos h
  unfold lub at hp
  have hp := of_decide_eq_true hp
  have := (hp k hk).1 (hO.refl k hk)
  exact ⟨k, e, hk, this.1, this.2⟩
theorem refBot_l0 (h : Nm l U) (hc : chk l U = 0) : ∀ (d k r : Nat), U.length = k + d → r < U.length → (∀ c, c < k → le U r c = true) → ∃ r' : Nat, reticentref01_Bottom.l0 l (r : Int) (k : Int) = some (r' : Int) ∧ r' < U.length ∧ ∀ c, c < U.length → le U r' c = true
  | 0, k, r, e, hr, hb => ⟨r, by rw [reticentref01_Bottom.l0, h.n, if_neg (by omega)], hr, fun c hc => hb c (by omega)⟩
  | d + 1, k, r, e, hr, hb => by
    obtain ⟨hm, hO, hj⟩ := chk_zero hc
    have hl := h.len
    have hk : k < U.length := by omega
    obtain ⟨m, em, hm', m1, m2⟩ := mt_is hO hr hk (hj r k hr hk).2
    rw [reticentref01_Bottom.l0, h.n, if_pos (by omega), refMeet_eq h.toIs hO hr hk, em, step1 (by omega) hk]
    refine refBot_l0 h hc d (k + 1) m (by omega) hm' (fun c hc => ?_)
    rcases (by omega : c < k ∨ c = k) with q | rfl
    · exact hO.trans m r c hm' hr (by omega) m1 (hb c q)
    · exact m2
theorem refTop_l0 (h : Nm l U) (hc : chk l U = 0) : ∀ (d k r : Nat), U.length = k + d → r < U.length → (∀ c, c < k → le U c r = true) → ∃ r' : Nat, reticentref01_Top.l0 l (r : Int) (k : Int) = some (r' : Int) ∧ r' < U.length ∧ ∀ c, c < U.length → le U c r' = true
  | 0, k, r, e, hr, hb => ⟨r, by rw [reticentref01_Top.l0, h.n, if_neg (by omega)], hr, fun c hc => hb c (by omega)⟩
  | d + 1, k, r, e, hr, hb => by
    obtain ⟨hm, hO, hj⟩ := chk_zero hc
    have hl := h.len
    have hk : k < U.length := by omega
    obtain ⟨m, em, hm', m1, m2⟩ := jn_is hO hr hk (hj r k hr hk).1
    rw [reticentref01_Top.l0, h.n, if_pos (by omega), refJoin_eq h.toIs hO hr hk, em, step1 (by omega) hk]
    refine refTop_l0 h hc d (k + 1) m (by omega) hm' (fun c hc => ?_)
    rcases (by omega : c < k ∨ c = k) with q | rfl
    · exact hO.trans c r m (by omega) hr hm' (hb c q) m1
    · exact m2
theorem bot_same (h : Nm l U) (hc : chk l U = 0) : ∃ y : Nat, (y < U.length ∧ ∀ c, c < U.length → le U y c = true) ∧ lattice_Bottom.f l = some ((y : Int), 0) ∧ reticentref01_Bottom.f l = some (y : Int) := by
  obtain ⟨hm, hO, _⟩ := chk_zero hc
  have hl := h.len
  have hp := hm.pos
  have h8 := hm.le8
  obtain ⟨r, h1, hr, hb⟩ := refBot_l0 h hc U.length 0 0 (by omega) (by omega) (fun c hc => by omega)
  rw [show ((0 : Nat) : Int) = 0 from rfl] at h1
  refine ⟨r, ⟨hr, hb⟩, ?_, ?_⟩
  · unfold lattice_Bottom.f
    rw [there_eq h (by simp), hc, h.n]
    have e0 : ((if (0 : Int) = 0 then if (([] : List Int).all (inn U.length)) = true then (0 : Int) else 9 else 0)) = 0 := by simp
    rw [e0]
    have eb : ∀ f : Int → Option (Int × Int), (some (0 : Int) >>= f) = f 0 := fun _ => rfl
    rw [eb]
    rw [if_pos rfl, if_pos (by omega), all1s U.length (by omega), idxU_eq (Up_len h.toIs)]
    have : fi l.Up.length (fun k => decide (((2 ^ U.length - 1 : Nat) : Int) = l.Up.getD k 0)) = (r : Int) := by
      rw [h.n]
      have key : ∀ k, k < U.length → (decide (((2 ^ U.length - 1 : Nat) : Int) = l.Up.getD k 0) = true ↔ ∀ c, c < U.length → le U k c = true) := by
        intro k hk
        rw [decide_eq_true_iff, getU h.toIs hk, Int.natCast_inj]
        constructor
        · intro e c hcl
          rw [le_get hk, ← e, Nat.testBit_two_pow_sub_one]; exact decide_eq_true hcl
        · intro q
          apply Nat.eq_of_testBit_eq
          intro c
          rw [Nat.testBit_two_pow_sub_one, ← le_get hk]
          rcases Nat.lt_or_ge c U.length with hcl | hcl
          · rw [q c hcl, decide_eq_true hcl]
          · rw [decide_eq_false (by omega)]
            cases e : le U k c with
            | false => rfl
            | true => have := le_far hm.bits e; omega
      exact fi_one hr ((key r hr).2 hb) (fun j hj q => bot_unique hO hj hr ((key j hj).1 q) hb)
    rw [this]; rfl
  · unfold reticentref01_Bottom.f
    rw [h1]; rfl
theorem top_one (hO : Ord U) (h8 : U.length ≤ 8) (hU : ∀ x ∈ U, x < 2 ^ U.length) {k r : Nat} (hk : k < U.length) (hr : r < U.length) (hb : ∀ c, c < U.length → le U c r = true) : (lattice_Top_1.f ((U[k] : Nat) : Int)) = some (decide (k = r)) := by
  have hx : U[k] < 256 := Nat.lt_of_lt_of_le (hU _ (List.getElem_mem hk)) (Nat.pow_le_pow_right (n := 2) (by omega) h8)
  unfold lattice_Top_1.f
  rw [count8 _ hx]
  show some (decide (sAt ks0 ((U[k] : Nat) : Int) = 1)) = _
  congr 1
  have hkk : U[k].testBit k = true := by rw [← le_get hk]; exact hO.refl k hk
  rw [decide_eq_decide, count1 _ hx k (by omega) hkk]
  constructor
  · intro e
    have := hb k hk
    rw [le_get hk, e, Nat.testBit_two_pow] at this
    exact of_decide_eq_true this
  · intro e
    subst e
    apply Nat.eq_of_testBit_eq
    intro c
    rw [Nat.testBit_two_pow, ← le_get hk, Bool.eq_iff_iff, decide_eq_true_iff]
    constructor
    · intro q
      have hcl := le_far hU q
      exact hO.anti k c hk hcl q (hb c hcl)
    · intro e; rw [← e]; exact hO.refl k hk
theorem top_same (h : Nm l U) (hc : chk l U = 0) : ∃ y : Nat, (y < U.length ∧ ∀ c, c < U.length → le U c y = true) ∧ lattice_Top.f l = some ((y : Int), 0) ∧ reticentref01_Top.f l = some (y : Int) := by
  obtain ⟨hm, hO, _⟩ := chk_zero hc
  have hl := h.len
  have hp := hm.pos
  have h8 := hm.le8
  obtain ⟨r, h1, hr, hb⟩ := refTop_l0 h hc U.length 0 0 (by omega) (by omega) (fun c hc => by omega)
  rw [show ((0 : Nat) : Int) = 0 from rfl] at h1
  refine ⟨r, ⟨hr, hb⟩, ?_, ?_⟩
  · unfold lattice_Top.f
    rw [there_eq h (by simp), hc]
    have e0 : ((if (0 : Int) = 0 then if (([] : List Int).all (inn U.length)) = true then (0 : Int) else 9 else 0)) = 0 := by simp
    rw [e0]
    have eb : ∀ f : Int → Option (Int × Int), (some (0 : Int) >>= f) = f 0 := fun _ => rfl
    rw [eb]
    rw [if_pos rfl]
    obtain ⟨p, hp2⟩ : ∃ p : Nat → Bool, ∀ k, p k = true ↔ k = r := ⟨fun k => Nat.beq k r, fun k => ⟨fun e => Nat.eq_of_beq_eq_true e, fun e => by rw [e]; exact Nat.beq_refl r⟩⟩
    have key : slices_IndexFunc_uint32_uint32.l0 l.Up lattice_Top_1.f 0 = some (out (fstOf U.length fun k => if p k then some (k : Int) else none)) := by
      refine search (fun k => slices_IndexFunc_uint32_uint32.l0 l.Up lattice_Top_1.f k) U.length _ ?_ ?_
      · show slices_IndexFunc_uint32_uint32.l0 l.Up lattice_Top_1.f (U.length : Int) = _
        rw [slices_IndexFunc_uint32_uint32.l0, h.n, if_neg (by omega)]
      · intro k hk
        show slices_IndexFunc_uint32_uint32.l0 l.Up lattice_Top_1.f (k : Int) = _
        rw [slices_IndexFunc_uint32_uint32.l0, h.n, if_pos (by omega), h.at_ hk, step1 (by omega) hk]
        simp only [Option.bind_eq_bind, Option.bind_some]
        rw [top_one hO h8 hm.bits hk hr hb]
        by_cases e : k = r
        · rw [(hp2 k).2 e, decide_eq_true e]; rfl
        · have : p k = false := by
            cases q : p k with
            | false => rfl
            | true => exact absurd ((hp2 k).1 q) e
          rw [this, decide_eq_false e]; rfl
    unfold slices_IndexFunc_uint32_uint32.f
    rw [key]
    have hfi : fi U.length p = (r : Int) := fi_one hr ((hp2 r).2 rfl) (fun j hj q => (hp2 j).1 q)
    unfold fi at hfi
    cases hv : fstOf U.length (fun k => if p k then some (k : Int) else none) with
    | none => rw [hv] at hfi; simp at hfi
    | some v => rw [hv] at hfi; simp at hfi; subst hfi; rfl
  · unfold reticentref01_Top.f
    rw [h1]; rfl
theorem ends_no (h : Nm l U) (hc : chk l U ≠ 0) : lattice_Bottom.f l = some (0, chk l U) ∧ lattice_Top.f l = some (0, chk l U) := by
  unfold lattice_Bottom.f lattice_Top.f
  rw [there_eq h (by simp), if_neg hc]
  constructor
  · show (if chk l U = 0 then _ else _) = _
    rw [if_neg hc]
  · show (if chk l U = 0 then _ else _) = _
    rw [if_neg hc]
end

section
variable {l : api_Lattice} {U : List Nat}
theorem J_is (hc : chk l U = 0) : ∃ J : Nat → Nat → Nat, ∀ a b, a < U.length → b < U.length → jn U a b = (J a b : Int) ∧ J a b < U.length ∧ ∀ c, c < U.length → (le U (J a b) c = true ↔ le U a c = true ∧ le U b c = true) := by
  obtain ⟨hm, hO, hj⟩ := chk_zero hc
  refine ⟨fun a b => (jn U a b).toNat, fun a b ha hb => ?_⟩
  obtain ⟨k, hk, hp, e⟩ := fi_pos (hj a b ha hb).1
  have e' : jn U a b = (k : Int) := e
  have : (jn U a b).toNat = k := by omega
  simp only [this]
  unfold lub at hp
  exact ⟨e', hk, of_decide_eq_true hp⟩
theorem M_is (hc : chk l U = 0) : ∃ M : Nat → Nat → Nat, ∀ a b, a < U.length → b < U.length → mt U a b = (M a b : Int) ∧ M a b < U.length ∧ ∀ c, c < U.length → (le U c (M a b) = true ↔ le U c a = true ∧ le U c b = true) := by
  obtain ⟨hm, hO, hj⟩ := chk_zero hc
  refine ⟨fun a b => (mt U a b).toNat, fun a b ha hb => ?_⟩
  obtain ⟨k, hk, hp, e⟩ := fi_pos (hj a b ha hb).2
  have e' : mt U a b = (k : Int) := e
  have : (mt U a b).toNat = k := by omega
  simp only [this]
  unfold glb at hp
  exact ⟨e', hk, of_decide_eq_true hp⟩
theorem up_eq (hO : Ord U) {x y : Nat} (hx : x < U.length) (hy : y < U.length) (h : ∀ c, c < U.length → (le U x c = true ↔ le U y c = true)) : x = y :=
  hO.anti x y hx hy ((h y hy).2 (hO.refl y hy)) ((h x hx).1 (hO.refl x hx))
theorem dn_eq (hO : Ord U) {x y : Nat} (hx : x < U.length) (hy : y < U.length) (h : ∀ c, c < U.length → (le U c x = true ↔ le U c y = true)) : x = y :=
  hO.anti x y hx hy ((h x hx).1 (hO.refl x hx)) ((h y hy).2 (hO.refl y hy))
end
end Go.Proofs.Ythpmbokenhpakaa.Jdg
