/- LatticeLaws. -/
import Derived.Test.YthpmbokenhpakaaLat16
set_option linter.unusedVariables false
namespace Go.Proofs.Ythpmbokenhpakaa.Lat
open Go Go.Proofs.Ythpmbokenhpakaa.Ab Go.Proofs.Ythpmbokenhpakaa.LA
open Classical
theorem modn {n : Nat} {a : Int} (h0 : 0 < n) (h1 : n ≤ 10) : ∃ i : Nat, i < n ∧ (IntKind.i64.wrap ((a.tmod (n : Int)) + (n : Int))).tmod (n : Int) = (i : Int) := by
  have hb1 : a.tmod (n : Int) < n := Int.tmod_lt_of_pos a (by omega)
  have hb2 : -(n : Int) < a.tmod (n : Int) := Int.lt_tmod_of_pos a (by omega)
  rw [wrap64 (by omega) (by omega)]
  have h2 : 0 ≤ (a.tmod (n : Int) + n).tmod (n : Int) := Int.tmod_nonneg _ (by omega)
  have h3 : (a.tmod (n : Int) + n).tmod (n : Int) < n := Int.tmod_lt_of_pos _ (by omega)
  exact ⟨((a.tmod (n : Int) + n).tmod (n : Int)).toNat, by omega, by omega⟩
section
variable {l : api_Lattice} {U : List Nat}
theorem J_is (hc : chk l U = 0) : ∃ J : Nat → Nat → Nat, ∀ a b, a < U.length → b < U.length → jn U a b = (J a b : Int) ∧ J a b < U.length ∧ ∀ c, c < U.length → (le U (J a b) c = true ↔ le U a c = true ∧ le U b c = true) := by
  obtain ⟨hm, hO, hj⟩ := chk_zero hc
  refine ⟨fun a b => (jn U a b).toNat, fun a b ha hb => ?_⟩
  obtain ⟨k, hk, hp, e⟩ := fi_pos (hj a b ha hb).1
  have e' : jn U a b = (k : Int) := e
  have : (jn U a b).toNat = k := by omega
  simp only [this]
  unfold lub at hp
  exact ⟨e', hk, of_decide_eq_true hp⟩
theorem M_is (hc : chk l U = 0) : ∃ M : Nat → Nat → Nat, ∀ a b, a < U.length → b < U.length → mt U a b = (M a b : Int) ∧ M a b < U.length ∧ ∀ c, c < U.length → (le U c (M a b) = true ↔ le U c a = true ∧ le U c b = true) := by
  obtain ⟨hm, hO, hj⟩ := chk_zero hc
  refine ⟨fun a b => (mt U a b).toNat, fun a b ha hb => ?_⟩
  obtain ⟨k, hk, hp, e⟩ := fi_pos (hj a b ha hb).2
  have e' : mt U a b = (k : Int) := e
  have : (mt U a b).toNat = k := by omega
  simp only [this]
  unfold glb at hp
  exact ⟨e', hk, of_decide_eq_true hp⟩
theorem up_eq (hO : Ord U) {x y : Nat} (hx : x < U.length) (hy : y < U.length) (h : ∀ c, c < U.length → (le U x c = true ↔ le U y c = true)) : x = y :=
  hO.anti x y hx hy ((h y hy).2 (hO.refl y hy)) ((h x hx).1 (hO.refl x hx))
theorem dn_eq (hO : Ord U) {x y : Nat} (hx : x < U.length) (hy : y < U.length) (h : ∀ c, c < U.length → (le U c x = true ↔ le U c y = true)) : x = y :=
  hO.anti x y hx hy ((h x hx).1 (hO.refl x hx)) ((h y hy).2 (hO.refl y hy))
theorem law1 (h : Nm l U) (hc : chk l U = 0) {a b : Nat} (ha : a < U.length) (hb : b < U.length) : reticentlaw01_LatticeLaws_1.f (a : Int) (b : Int) l true = some (true, jn U a b) := by
  unfold reticentlaw01_LatticeLaws_1.f
  rw [(yes2 h hc ha hb).2.1]; rfl
theorem law2 (h : Nm l U) (hc : chk l U = 0) {a b : Nat} (ha : a < U.length) (hb : b < U.length) : reticentlaw01_LatticeLaws_2.f (a : Int) (b : Int) l true = some (true, mt U a b) := by
  unfold reticentlaw01_LatticeLaws_2.f
  rw [(yes2 h hc ha hb).2.2.1]; rfl
theorem bs {α β : Type} (a : α) (f : α → Option β) : (some a >>= f) = f a := rfl
theorem laws_in (h : Nm l U) (hc : chk l U = 0) (hl : U.length ≤ 10) (i j k : Nat) (hi : i < U.length) (hj : j < U.length) (hk : k < U.length) :
    ∃ J M : Nat → Nat → Nat,
      (∀ a b, a < U.length → b < U.length → reticentlaw01_LatticeLaws_1.f (a : Int) (b : Int) l true = some (true, (J a b : Int)) ∧ J a b < U.length) ∧
      (∀ a b, a < U.length → b < U.length → reticentlaw01_LatticeLaws_2.f (a : Int) (b : Int) l true = some (true, (M a b : Int)) ∧ M a b < U.length) ∧
      J i j = J j i ∧ M i j = M j i ∧ J (J i j) k = J i (J j k) ∧ M (M i j) k = M i (M j k) ∧ J i (M i j) = i ∧ M i (J i j) = i ∧ J i i = i ∧ M i i = i ∧
      (le U i j = true ↔ J i j = j) ∧ (le U i j = true ↔ M i j = i) ∧
      (∀ r, r < U.length → (∀ c, c < U.length → le U r c = true) → J r i = i) ∧ (∀ r, r < U.length → (∀ c, c < U.length → le U c r = true) → M r i = i) := by
  obtain ⟨hm, hO, _⟩ := chk_zero hc
  obtain ⟨J, hJ⟩ := J_is hc
  obtain ⟨M, hM⟩ := M_is hc
  have j3 := fun {a b : Nat} (ha : a < U.length) (hb : b < U.length) => (hJ a b ha hb).2
  have m3 := fun {a b : Nat} (ha : a < U.length) (hb : b < U.length) => (hM a b ha hb).2
  have jl : ∀ {a b : Nat}, a < U.length → b < U.length → le U a (J a b) = true ∧ le U b (J a b) = true := fun ha hb => ((j3 ha hb).2 _ (j3 ha hb).1).1 (hO.refl _ (j3 ha hb).1)
  have ml : ∀ {a b : Nat}, a < U.length → b < U.length → le U (M a b) a = true ∧ le U (M a b) b = true := fun ha hb => ((m3 ha hb).2 _ (m3 ha hb).1).1 (hO.refl _ (m3 ha hb).1)
  refine ⟨J, M, fun a b ha hb => ⟨by rw [law1 h hc ha hb, (hJ a b ha hb).1], (j3 ha hb).1⟩, fun a b ha hb => ⟨by rw [law2 h hc ha hb, (hM a b ha hb).1], (m3 ha hb).1⟩, ?_, ?_, ?_, ?_, ?_, ?_, ?_, ?_, ?_, ?_, ?_, ?_⟩
  · refine up_eq hO (j3 hi hj).1 (j3 hj hi).1 fun c hc' => ?_
    rw [(j3 hi hj).2 c hc', (j3 hj hi).2 c hc']; exact And.comm
  · refine dn_eq hO (m3 hi hj).1 (m3 hj hi).1 fun c hc' => ?_
    rw [(m3 hi hj).2 c hc', (m3 hj hi).2 c hc']; exact And.comm
  · refine up_eq hO (j3 (j3 hi hj).1 hk).1 (j3 hi (j3 hj hk).1).1 fun c hc' => ?_
    rw [(j3 (j3 hi hj).1 hk).2 c hc', (j3 hi hj).2 c hc', (j3 hi (j3 hj hk).1).2 c hc', (j3 hj hk).2 c hc']; exact and_assoc
  · refine dn_eq hO (m3 (m3 hi hj).1 hk).1 (m3 hi (m3 hj hk).1).1 fun c hc' => ?_
    rw [(m3 (m3 hi hj).1 hk).2 c hc', (m3 hi hj).2 c hc', (m3 hi (m3 hj hk).1).2 c hc', (m3 hj hk).2 c hc']; exact and_assoc
  · refine up_eq hO (j3 hi (m3 hi hj).1).1 hi fun c hc' => ?_
    rw [(j3 hi (m3 hi hj).1).2 c hc']
    exact ⟨fun q => q.1, fun q => ⟨q, hO.trans _ i c (m3 hi hj).1 hi hc' (ml hi hj).1 q⟩⟩
  · refine dn_eq hO (m3 hi (j3 hi hj).1).1 hi fun c hc' => ?_
    rw [(m3 hi (j3 hi hj).1).2 c hc']
    exact ⟨fun q => q.1, fun q => ⟨q, hO.trans c i _ hc' hi (j3 hi hj).1 q (jl hi hj).1⟩⟩
  · refine up_eq hO (j3 hi hi).1 hi fun c hc' => ?_
    rw [(j3 hi hi).2 c hc']; exact and_self_iff
  · refine dn_eq hO (m3 hi hi).1 hi fun c hc' => ?_
    rw [(m3 hi hi).2 c hc']; exact and_self_iff
  · constructor
    · intro q
      refine up_eq hO (j3 hi hj).1 hj fun c hc' => ?_
      rw [(j3 hi hj).2 c hc']
      exact ⟨fun q => q.2, fun q2 => ⟨hO.trans i j c hi hj hc' q q2, q2⟩⟩
    · intro q; have := (jl hi hj).1; rwa [q] at this
  · constructor
    · intro q
      refine dn_eq hO (m3 hi hj).1 hi fun c hc' => ?_
      rw [(m3 hi hj).2 c hc']
      exact ⟨fun q => q.1, fun q2 => ⟨q2, hO.trans c i j hc' hi hj q2 q⟩⟩
    · intro q; have := (ml hi hj).2; rwa [q] at this
  · intro r hr hb
    refine up_eq hO (j3 hr hi).1 hi fun c hc' => ?_
    rw [(j3 hr hi).2 c hc']
    exact ⟨fun q => q.2, fun q => ⟨hb c hc', q⟩⟩
  · intro r hr hb
    refine dn_eq hO (m3 hr hi).1 hi fun c hc' => ?_
    rw [(m3 hr hi).2 c hc']
    exact ⟨fun q => q.2, fun q => ⟨hb c hc', q⟩⟩
theorem flows_yes (h : Nm l U) (hc : chk l U = 0) {a b : Nat} (ha : a < U.length) (hb : b < U.length) : lattice_Flows.f l (a : Int) (b : Int) = some (le U a b, 0) := (yes2 h hc ha hb).1
end
theorem lawsT {l : api_Lattice} {a b c : Int} (hl : ∃ H cs, (kR f_api_Lattice).reps H cs l) : reticentlaw01_LatticeLaws.f l a b c = some true := by
  obtain ⟨l', U, hf, h⟩ := few_eq hl
  unfold reticentlaw01_LatticeLaws.f
  rw [show (⟨l.Names, l.Up⟩ : api_Lattice) = l from rfl, hf, bs]
  have eta : (⟨l'.Names, l'.Up⟩ : api_Lattice) = l' := rfl
  simp only [eta]
  rw [check_eq h, alive, h.n, bs]
  by_cases hc : chk l' U = 0
  · obtain ⟨hm, hO, _⟩ := chk_zero hc
    have hpos := hm.pos
    have h10 := h.len
    have hn : ¬ (U.length : Int) = 0 := by omega
    rw [if_pos hc, bs, if_neg (by rw [decide_eq_false hn]; decide)]
    simp only [if_pos hn]
    rw [bs]
    obtain ⟨i, hi, ei⟩ := modn (a := a) hpos h10
    obtain ⟨j, hj, ej⟩ := modn (a := b) hpos h10
    obtain ⟨k, hk, ek⟩ := modn (a := c) hpos h10
    rw [ei, ej, ek]
    obtain ⟨J, M, f1, f2, q1, q2, q3, q4, q5, q6, q7, q8, q9, q10, q11, q12⟩ := laws_in h hc h10 i j k hi hj hk
    have Jl := fun {x y : Nat} (hx : x < U.length) (hy : y < U.length) => (f1 x y hx hy).2
    have Ml := fun {x y : Nat} (hx : x < U.length) (hy : y < U.length) => (f2 x y hx hy).2
    obtain ⟨r, ⟨r1, r2⟩, r3, _⟩ := bot_same h hc
    obtain ⟨t, ⟨t1, t2⟩, t3, _⟩ := top_same h hc
    have Hi := hg h.toIs hO hi
    have Hj := hg h.toIs hO hj
    have Hr := hg h.toIs hO r1
    rw [(f1 i j hi hj).1, bs, (f1 j k hj hk).1, bs, (f2 i j hi hj).1, bs, (f2 j k hj hk).1, bs, (f1 j i hj hi).1, bs]
    simp only [q1, if_true]
    rw [(f2 j i hj hi).1, bs]
    simp only [q2, if_true]
    rw [← q1, ← q2, (f1 (J i j) k (Jl hi hj) hk).1, bs, (f1 i (J j k) hi (Jl hj hk)).1, bs]
    simp only [q3, if_true]
    rw [(f2 (M i j) k (Ml hi hj) hk).1, bs, (f2 i (M j k) hi (Ml hj hk)).1, bs]
    simp only [q4, if_true]
    rw [(f1 i (M i j) hi (Ml hi hj)).1, bs]
    simp only [q5, if_true]
    rw [(f2 i (J i j) hi (Jl hi hj)).1, bs]
    simp only [q6, if_true]
    rw [(f1 i i hi hi).1, bs]
    simp only [q7, if_true]
    rw [(f2 i i hi hi).1, bs]
    simp only [q8, decide_true, Bool.not_true]
    rw [bs]
    simp only [Bool.false_eq_true, if_false]
    rw [flows_yes h hc hi hj, bs, height_hg h hc hi, bs, height_hg h hc hj, bs]
    have g1 : le U i j = decide ((J i j : Int) = (j : Int)) := by
      rw [Bool.eq_iff_iff, decide_eq_true_iff, Int.natCast_inj]; exact q9
    have g2 : le U i j = decide ((M i j : Int) = (i : Int)) := by
      rw [Bool.eq_iff_iff, decide_eq_true_iff, Int.natCast_inj]; exact q10
    have g3 : ((if le U i j = true then (if Hg l' i > Hg l' j then (some true) else (if (i : Int) = (j : Int) then (some false) else (some (decide (Hg l' i = Hg l' j))))) else (some false)) : Option Bool) = some false := by
      cases hle : le U i j with
      | false => rfl
      | true =>
        rw [if_pos rfl]
        by_cases e : i = j
        · subst e; rw [if_neg (by omega), if_pos rfl]
        · have := Hj.lt i hi e hle
          have e' : ¬ (i : Int) = (j : Int) := by omega
          rw [if_neg (by omega), if_neg e', decide_eq_false (by omega)]
    simp only [← g1, ← g2, if_true, g3]
    rw [bs]
    simp only [Bool.false_eq_true, if_false]
    rw [r3, bs, t3, bs]
    have z0 : Hg l' r = 0 := Hr.bot (fun c hc' q => hO.anti c r hc' r1 q (r2 c hc'))
    simp only [height_hg h hc r1]
    rw [bs]
    simp only [if_true, z0]
    rw [(f1 r i r1 hi).1, bs]
    simp only [q11 r r1 r2, if_true]
    rw [(f2 t i t1 hi).1, bs]
    simp only [q12 t t1 t2, decide_true]
    rfl
  · rw [if_neg hc, bs, if_pos rfl, bs]
end Go.Proofs.Ythpmbokenhpakaa.Lat
