/- What flows, by the reference. -/
import Derived.Test.YthpmbokenhpakaaLat3
set_option linter.unusedVariables false
namespace Go.Proofs.Ythpmbokenhpakaa.Lat
open Go Go.Proofs.Ythpmbokenhpakaa.Ab Go.Proofs.Ythpmbokenhpakaa.LA
theorem half {u : Nat} (h : u < 4294967296) : IntKind.u32.wrap ((u : Int).tdiv 2) = ((u >>> 1 : Nat) : Int) := by
  have : (u : Int).tdiv 2 = ((u / 2 : Nat) : Int) := by
    rw [Int.tdiv_eq_ediv_of_nonneg (by omega)]; norm_cast
  rw [this, Nat.shiftRight_eq_div_pow]
  exact wrapU32 (by omega)
theorem refFlows_l0 (b : Nat) (hb : b ≤ 31) : ∀ (d k u : Nat), b = k + d → u < 4294967296 → reticentref01_Flows.l0 (b : Int) (u : Int) (k : Int) = some ((u >>> d : Nat) : Int)
  | 0, k, u, e, hu => by
    rw [reticentref01_Flows.l0, if_neg (by omega)]; simp
  | d + 1, k, u, e, hu => by
    rw [reticentref01_Flows.l0, if_pos (by omega), half hu, wrap64 (by omega) (by omega)]
    have h2 : u >>> 1 < 4294967296 := Nat.lt_of_le_of_lt (by rw [Nat.shiftRight_eq_div_pow]; exact Nat.div_le_self ..) hu
    have := refFlows_l0 b hb d (k + 1) (u >>> 1) (by omega) h2
    rw [show ((k : Int) + 1) = ((k + 1 : Nat) : Int) by omega, this, ← Nat.shiftRight_add, Nat.add_comm 1 d]
theorem refFlows_eq {l : api_Lattice} {U : List Nat} (h : Is l U) {a b : Nat} (ha : a < U.length) (hb : b ≤ 31) : reticentref01_Flows.f l a b = some (U[a].testBit b) := by
  unfold reticentref01_Flows.f
  rw [h.at_ ha]
  show (reticentref01_Flows.l0 (b : Int) ((U[a] : Nat) : Int) 0 >>= fun x6 => some (decide (x6.tmod 2 = 1))) = _
  have := refFlows_l0 b hb b 0 U[a] (by omega) (h.u ha)
  rw [show ((0 : Nat) : Int) = 0 from rfl] at this
  rw [this]
  show some (decide ((((U[a] >>> b : Nat) : Int)).tmod 2 = 1)) = _
  congr 1
  rw [Bool.eq_iff_iff, decide_eq_true_iff, ← shr1, Nat.and_comm, Nat.one_and_eq_mod_two, Int.tmod_eq_emod_of_nonneg (Int.natCast_nonneg _)]
  omega
end Go.Proofs.Ythpmbokenhpakaa.Lat
