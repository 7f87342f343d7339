/- What flows: the two ways to tell it. -/
import Derived.Test.YthpmbokenhpakaaLat2
import Derived.Test.YthpmbokenhpakaaDLA
set_option linter.unusedVariables false
namespace Go.Proofs.Ythpmbokenhpakaa.Lat
open Go Go.Proofs.Ythpmbokenhpakaa.Ab Go.Proofs.Ythpmbokenhpakaa.LA
structure Is (l : api_Lattice) (U : List Nat) : Prop where
  up : l.Up = U.map (fun x : Nat => (x : Int))
  lt : ∀ x ∈ U, x < 4294967296
  len : U.length ≤ 10
theorem Is.n {l : api_Lattice} {U : List Nat} (h : Is l U) : l.Up.length = U.length := by rw [h.up]; simp
theorem Is.at_ {l : api_Lattice} {U : List Nat} (h : Is l U) {i : Nat} (hi : i < U.length) : lAt l.Up (i : Int) = some ((U[i] : Nat) : Int) := by
  rw [h.up, lAt_some (by simpa using hi)]
  simp
theorem Is.u {l : api_Lattice} {U : List Nat} (h : Is l U) {i : Nat} (hi : i < U.length) : U[i] < 4294967296 := h.lt _ (List.getElem_mem hi)
theorem shr1 (u b : Nat) : ((u >>> b) &&& 1 = 1) ↔ u.testBit b = true := by
  rw [Nat.testBit, Nat.and_comm]
  rw [Nat.one_and_eq_mod_two]
  simp
theorem flows_eq {l : api_Lattice} {U : List Nat} (h : Is l U) {a b : Nat} (ha : a < U.length) (hb : b ≤ 31) : lattice_flows.f l a b = some (U[a].testBit b) := by
  unfold lattice_flows.f
  rw [h.at_ ha]
  show (if ¬ (b : Int) < 0 then some (decide (bAnd .u32 (bShr .u32 (U[a] : Nat) b) 1 = 1)) else none) = _
  rw [if_pos (by omega), bShr_nat (by omega)]
  have hs : U[a] >>> b < 4294967296 := Nat.lt_of_le_of_lt (by rw [Nat.shiftRight_eq_div_pow]; exact Nat.div_le_self ..) (h.u ha)
  rw [show (1 : Int) = ((1 : Nat) : Int) from rfl, bAnd_nat hs (by omega)]
  congr 1
  rw [Bool.eq_iff_iff, decide_eq_true_iff, ← shr1]
  exact Int.natCast_inj
end Go.Proofs.Ythpmbokenhpakaa.Lat
