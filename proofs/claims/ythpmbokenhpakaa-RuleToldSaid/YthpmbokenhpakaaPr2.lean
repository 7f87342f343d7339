/- Rules that are made right, by the reference. -/
import Derived.Test.YthpmbokenhpakaaPr1
set_option linter.unusedVariables false
set_option linter.unusedSimpArgs false
namespace Go.Proofs.Ythpmbokenhpakaa.Par
open Go Go.Proofs.Ythpmbokenhpakaa.Ab Go.Proofs.Ythpmbokenhpakaa.LF
open Go.Proofs.Ythpmbokenhpakaa.Lat (lAt_some)
def code (b : Bool) : Int := if b then 2 else 1
def pil (S : List Bool) : List Int := (S.map code).reverse
theorem pil_len {S : List Bool} : (pil S).length = S.length := by simp [pil]
theorem two_eq {c : Int} : ∀ {S : List Bool}, S.length ≤ 1000 → reticentref04_two.f (pil S) c = some (match S with | x :: y :: r => decide (code x = c) && decide (code y = c) | _ => false)
  | [], h => by unfold reticentref04_two.f; simp [pil]
  | [x], h => by unfold reticentref04_two.f; simp [pil]
  | x :: y :: r, h => by
    have hl : pil (x :: y :: r) = pil r ++ [code y] ++ [code x] := by simp [pil]
    have hlen : (pil r ++ [code y] ++ [code x]).length = r.length + 2 := by simp [pil_len]
    have hr : r.length + 2 ≤ 1000 := h
    rw [hl]
    unfold reticentref04_two.f
    have e1 := lAt_last (l := pil r ++ [code y]) (x := code x)
    have e2 := lAt_last2 (l := pil r) (x := code x) (y := code y)
    rw [w1 (by omega), w2 (by omega), e1, e2, if_pos (by rw [hlen]; omega)]
    by_cases h1 : code x = c <;> by_cases h2 : code y = c <;> simp [h1, h2]
theorem pil_take1 {x y : Bool} {r : List Bool} (h : r.length ≤ 1000) : (pil (x :: y :: r)).take (IntKind.i64.wrap (((pil (x :: y :: r)).length : Int) - 1)).toNat = pil (y :: r) := by
  have hl : pil (x :: y :: r) = pil (y :: r) ++ [code x] := by simp [pil]
  rw [w1 (by rw [pil_len]; simp; omega), pil_len, hl]
  have : ((((x :: y :: r).length : Nat) : Int) - 1).toNat = (pil (y :: r)).length := by rw [pil_len]; simp
  rw [this, List.take_left]
theorem pil_take2 {x y : Bool} {r : List Bool} (h : r.length ≤ 1000) : (pil (x :: y :: r)).take (IntKind.i64.wrap (((pil (x :: y :: r)).length : Int) - 2)).toNat = pil r := by
  have hl : pil (x :: y :: r) = pil r ++ [code y, code x] := by simp [pil]
  rw [w2 (by rw [pil_len]; simp; omega), pil_len, hl]
  have : ((((x :: y :: r).length : Nat) : Int) - 2).toNat = (pil r).length := by rw [pil_len]; simp; omega
  rw [this, List.take_left]
theorem pil_b1 {x y : Bool} {r : List Bool} (h : r.length ≤ 1000) : (0 ≤ IntKind.i64.wrap (((pil (x :: y :: r)).length : Int) - 1) ∧ IntKind.i64.wrap (((pil (x :: y :: r)).length : Int) - 1) ≤ ((pil (x :: y :: r)).length : Int)) := by
  rw [w1 (by rw [pil_len]; simp; omega), pil_len]; simp; omega
theorem pil_b2 {x y : Bool} {r : List Bool} (h : r.length ≤ 1000) : (0 ≤ IntKind.i64.wrap (((pil (x :: y :: r)).length : Int) - 2) ∧ IntKind.i64.wrap (((pil (x :: y :: r)).length : Int) - 2) ≤ ((pil (x :: y :: r)).length : Int)) := by
  rw [w2 (by rw [pil_len]; simp; omega), pil_len]; simp; omega
theorem refMade_step {l : List Int} {S : List Bool} {k : Nat} (hk : k < l.length) (hl : l.length ≤ 900) (hS : S.length ≤ k) :
    reticentref04_Made.l0 l (pil S) (k : Int) = (match st l[k] S with | some S' => reticentref04_Made.l0 l (pil S') ((k + 1 : Nat) : Int) | none => some (.inl 0)) := by
  rw [reticentref04_Made.l0, if_pos (by omega), lAt_some hk, wS (by omega)]
  generalize l[k] = op
  have hB : 20000 ≤ big := by decide
  have hb1 : (S.length + 1) * 8 ≤ big := by omega
  simp only [Option.bind_eq_bind, Option.bind_some]
  have pf : ∀ S, pil (false :: S) = pil S ++ [1] := fun S => by simp [pil, code]
  have pt : ∀ S, pil (true :: S) = pil S ++ [2] := fun S => by simp [pil, code]
  rcases cases13 op with rfl | rfl | rfl | rfl | rfl | rfl | rfl | rfl | rfl | rfl | rfl | rfl | rfl | h
  case inr.inr.inr.inr.inr.inr.inr.inr.inr.inr.inr.inr.inr =>
    have e : ∀ n : Int, 1 ≤ n → n ≤ 13 → ¬ op = n := fun n h1 h2 e => h (by omega)
    have g : ¬ (6 ≤ op ∧ op ≤ 11) := by omega
    by_cases g1 : 6 ≤ op
    · have g2 : ¬ op ≤ 11 := fun q => g ⟨g1, q⟩
      simp [st, e 1, e 2, e 3, e 4, e 5, e 6, e 7, e 8, e 9, e 10, e 11, e 12, e 13, g1, g2]
    · simp [st, e 1, e 2, e 3, e 4, e 5, e 6, e 7, e 8, e 9, e 10, e 11, e 12, e 13, g1]
  all_goals first
    | (simp [st, pil_len, hb1, pf, pt]; done)
    | (rw [two_eq (c := 1) (S := S) (by omega), two_eq (c := 2) (S := S) (by omega)]
       match S, hS with
       | [], _ => simp [st, pop]
       | [x], _ => simp [st, pop]
       | x :: y :: r, hS =>
         simp only [List.length_cons] at hS hb1
         have hr : r.length ≤ 1000 := by omega
         rw [pil_take1 hr, pil_take2 hr]
         simp only [if_pos (pil_b1 (x := x) (y := y) hr), if_pos (pil_b2 (x := x) (y := y) hr)]
         have h1 : (r.length + 1) * 8 ≤ big := by omega
         cases x <;> cases y <;> simp [st, pop, code, pil_len, h1, pf, pt])
theorem refMade_l0 {l : List Int} (hl : l.length ≤ 900) : ∀ (d k : Nat) (S : List Bool), l.length = k + d → S.length ≤ k →
    reticentref04_Made.l0 l (pil S) (k : Int) = some (match run (l.drop k) S with | some S' => .inr (pil S') | none => .inl 0)
  | 0, k, S, e, hS => by
    rw [reticentref04_Made.l0, if_neg (by omega), List.drop_of_length_le (by omega)]; rfl
  | d + 1, k, S, e, hS => by
    have hk : k < l.length := by omega
    rw [refMade_step hk hl hS, List.drop_eq_getElem_cons hk]
    unfold run
    cases h : st l[k] S with
    | none => rfl
    | some S' => exact refMade_l0 hl d (k + 1) S' (by omega) (by have := st_len h; omega)
theorem refMade_eq {l : List Int} (hl : l.length ≤ 900) : reticentref04_Made.f l = some (match right l with | some b => code b | none => 0) := by
  unfold reticentref04_Made.f right
  have := refMade_l0 hl l.length 0 [] (by omega) (by simp)
  rw [show ((0 : Nat) : Int) = 0 from rfl] at this
  rw [show (([] : List Int)) = pil [] from rfl, this, List.drop_zero]
  match run l [] with
  | none => rfl
  | some [] => rfl
  | some [b] =>
    by_cases h : l.length > 40
    · have h' : (l.length : Int) > 40 := by omega
      simp [h, h', pil]
    · have h' : ¬ (l.length : Int) > 40 := by omega
      simp [h, h', lAt, pil]
  | some (x :: y :: r) =>
    have : ¬ (((pil (x :: y :: r)).length : Nat) : Int) = 1 := by rw [pil_len]; simp; omega
    simp only [Option.bind_eq_bind, Option.bind_some, if_neg this]
    rfl
end Go.Proofs.Ythpmbokenhpakaa.Par
