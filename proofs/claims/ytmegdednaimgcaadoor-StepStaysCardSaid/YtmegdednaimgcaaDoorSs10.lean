/- A step: One; what stays. -/
import Derived.Test.YtmegdednaimgcaaDoorSs9
import Derived.Test.YtmegdednaimgcaaDoorGTT
set_option linter.unusedVariables false
set_option linter.unusedSimpArgs false
set_option linter.unusedSectionVars false
namespace Go.Proofs.YtmegdednaimgcaaDoor.Ss
open Go Go.Proofs.YtmegdednaimgcaaDoor.Ab Go.Proofs.YtmegdednaimgcaaDoor.TT
theorem alive10 : reticentlaw10_alive.f = some true := reticentlaw10_alive.f_le 60 _ (by kernel_rfl)
theorem same_atoms {x : List api_Atom} (hx : x.length ≤ 1000) : reticentref09_AtomsSame.f x x = some true := by
  unfold reticentref09_AtomsSame.f
  have : ∀ (d k : Nat), x.length = k + d → reticentref09_AtomsSame.l0 x x (k : Int) = some (.inr ()) := by
    intro d
    induction d with
    | zero => intro k h; rw [reticentref09_AtomsSame.l0, if_neg (by omega)]
    | succ d ih => intro k h; rw [reticentref09_AtomsSame.l0, if_pos (by omega), lAt_some (by omega), bsome, bsome, if_pos rfl, wS (by omega)]; exact ih (k + 1) (by omega)
  rw [if_pos rfl, show reticentref09_AtomsSame.l0 x x 0 = _ from this x.length 0 (by omega)]; rfl
theorem same_state {x : api_State} (z : Sz x) : reticentref09_Same.f x x = some true := by
  unfold reticentref09_Same.f
  have : ∀ (d k : Nat), x.Stack.length = k + d → reticentref09_Same.l0 x x (k : Int) = some (.inr ()) := by
    have hx := z.stack
    intro d
    induction d with
    | zero => intro k h; rw [reticentref09_Same.l0, if_neg (by omega)]
    | succ d ih => intro k h; rw [reticentref09_Same.l0, if_pos (by omega), lAt_some (by omega), bsome, bsome, if_pos rfl, wS (by omega)]; exact ih (k + 1) (by omega)
  rw [if_pos rfl, same_self z.code, bsome, if_neg (by decide), same_atoms z.mem, bsome, if_neg (by decide), same_atoms z.out, bsome, if_neg (by decide), decide_eq_true rfl, bsome, if_neg (by decide), show reticentref09_Same.l0 x x 0 = _ from this x.Stack.length 0 (by omega)]; rfl
/-- Why a step can't be asked of. -/
noncomputable def mayO (l : api_Lattice) (U : List Nat) (R : List api_Row) (s : api_State) : Int := if chk l U = 0 then (if (chT R).2 = 0 then (if rightS (l.Up.length : Int) s = true then 0 else 1) else (chT R).2) else chk l U
def nilS : api_State := ⟨⟨0, 0⟩, [], [], [], []⟩
theorem one_no {l : api_Lattice} {U : List Nat} (h : Nm l U) {R : List api_Row} (hF : Few R) {s : api_State} (z : Sz s) (hm : mayO l U R s ≠ 0) : step_One.f l ⟨R⟩ s = some (nilS, 0, mayO l U R s) := by
  unfold mayO at hm ⊢
  unfold step_One.f
  rw [check_eq h, bsome]
  by_cases hc : chk l U = 0
  · rw [if_pos hc, if_pos hc, tcheck_eq hF, bsome]
    by_cases hT : (chT R).2 = 0
    · rw [if_pos hT, if_pos hT, right_s h hc z, bsome]
      rw [if_pos hc, if_pos hT] at hm
      cases hr : rightS (l.Up.length : Int) s with
      | false => rfl
      | true => rw [hr] at hm; exact absurd rfl hm
    · rw [if_neg hT, if_neg hT]; rfl
  · rw [if_neg hc, if_neg hc]; rfl
theorem mayO_zero {l : api_Lattice} {U : List Nat} {R : List api_Row} {s : api_State} (hm : mayO l U R s = 0) : chk l U = 0 ∧ (chT R).2 = 0 ∧ rightS (l.Up.length : Int) s = true := by
  unfold mayO at hm
  by_cases hc : chk l U = 0
  · rw [if_pos hc] at hm
    by_cases hT : (chT R).2 = 0
    · rw [if_pos hT] at hm
      cases hr : rightS (l.Up.length : Int) s with
      | false => rw [hr] at hm; cases hm
      | true => exact ⟨hc, hT, rfl⟩
    · rw [if_neg hT] at hm; exact absurd hm hT
  · rw [if_neg hc] at hm; exact absurd hm hc
theorem one_yes {l : api_Lattice} {U : List Nat} (h : Nm l U) {R : List api_Row} (hF : Few R) {s : api_State} (z : Sz s) (hm : mayO l U R s = 0) {r : Pn ⊕ (api_State × Int)} (hb : step_step.B l ⟨R⟩ s = some r) : step_One.f l ⟨R⟩ s = some ((finD s r).1, (finD s r).2, 0) := by
  obtain ⟨hc, hT, hr⟩ := mayO_zero hm
  unfold step_One.f step_step.f
  rw [check_eq h, bsome, if_pos hc, tcheck_eq hF, bsome, if_pos hT, right_s h hc z, bsome, hr, if_neg (by decide), hb, bsome, bsome]
theorem equal_self {x : List api_Atom} (hx : x.length ≤ 1000) : slices_Equal_api_Atom_api_Atom.f x x = some true := by
  unfold slices_Equal_api_Atom_api_Atom.f
  have : ∀ (d k : Nat), x.length = k + d → slices_Equal_api_Atom_api_Atom.l0 x x (k : Int) = some (.inr ()) := by
    intro d
    induction d with
    | zero => intro k h; rw [slices_Equal_api_Atom_api_Atom.l0, if_neg (by omega)]
    | succ d ih => intro k h; rw [slices_Equal_api_Atom_api_Atom.l0, if_pos (by omega), lAt_some (by omega), bsome, bsome, if_pos rfl, wS (by omega)]; exact ih (k + 1) (by omega)
  rw [if_pos rfl, show slices_Equal_api_Atom_api_Atom.l0 x x 0 = _ from this x.length 0 (by omega)]; rfl
/-- What a step leaves. -/
structure Stays (n : Int) (s t : api_State) (q : Int) : Prop where
  right : rightS n t = true
  code : t.Code = s.Code
  mem : t.Mem.length = s.Mem.length
  out : t.Out = s.Out ∨ ∃ x, t.Out = s.Out ++ [x]
  st : t.Stack.length ≤ s.Stack.length + 1
  q : q = 0 ∨ (q = 1 ∨ q = 2 ∨ q = 3) ∧ t = s
theorem stays {n : Int} {s : api_State} (hr : rightS n s = true) {r : Pn ⊕ (api_State × Int)} (w : Went n s r) : Stays n s (finD s r).1 (finD s r).2 := by
  cases r with
  | inl p =>
    rcases w with rfl | rfl | rfl
    · exact ⟨hr, rfl, rfl, .inl rfl, Nat.le_succ _, .inr ⟨.inl rfl, rfl⟩⟩
    · exact ⟨hr, rfl, rfl, .inl rfl, Nat.le_succ _, .inr ⟨.inr (.inl rfl), rfl⟩⟩
    · exact ⟨hr, rfl, rfl, .inl rfl, Nat.le_succ _, .inr ⟨.inr (.inr rfl), rfl⟩⟩
  | inr p =>
    obtain ⟨t, q⟩ := p
    obtain ⟨h0, h1, h2, h3, h4, h5⟩ := w
    exact ⟨h1, h2, h3, h5, h4, .inl h0⟩
theorem stay {l : api_Lattice} {t : api_Table} {s : api_State} (hl : ∃ H cs, (kR f_api_Lattice).reps H cs l) : reticentlaw10_StepStays.f l t s = some true := by
  obtain ⟨l', U, e, h⟩ := few_eq hl
  obtain ⟨S, es, z⟩ := cut_eq s
  obtain ⟨R0⟩ := t
  have hF := tfew_ok (R := R0)
  unfold reticentlaw10_StepStays.f
  rw [e, bsome, tfew_eq, bsome, es, bsome]
  generalize fewR R0 = R at hF
  by_cases hm : mayO l' U R S = 0
  · obtain ⟨hc, hT, hr⟩ := mayO_zero hm
    have zr := rs_of hr
    obtain ⟨r, hb, w⟩ := B_m h hc zr hF (chT_zero hT).1
    have k := stays hr w
    rw [one_yes h hF z hm hb, bsome]
    generalize (finD S r).1 = T at k
    generalize (finD S r).2 = q at k
    have zT := (rs_of k.right).sz
    have zS := zr.out
    rw [if_pos rfl]
    show (((state_Right.f l' T >>= _) : Option Bool) >>= _) = _
    rw [right_s h hc zT, k.right, bsome, if_neg (by decide)]
    show (((reticentref08_Same.f T.Code S.Code >>= _) : Option Bool) >>= _) = _
    rw [k.code, same_self z.code, bsome, if_neg (by decide)]
    show (((if (T.Mem.length : Int) = (S.Mem.length : Int) then (if (T.Out.length : Int) < (S.Out.length : Int) then some true else _) else _) : Option Bool) >>= _) = _
    have ho : S.Out.length ≤ T.Out.length ∧ T.Out.length ≤ S.Out.length + 1 ∧ lCut T.Out 0 (S.Out.length : Int) = S.Out := by
      rcases k.out with e | ⟨x, e⟩ <;> rw [e]
      · exact ⟨Nat.le_refl _, Nat.le_succ _, by simp [lCut]⟩
      · exact ⟨by simp, by simp, by simp [lCut]⟩
    rw [if_pos (by rw [k.mem]), if_neg (by omega)]
    show (((if (0 : Int) ≤ (S.Out.length : Int) ∧ (S.Out.length : Int) ≤ (T.Out.length : Int) then (slices_Equal_api_Atom_api_Atom.f (lCut T.Out 0 (S.Out.length : Int)) S.Out >>= _) else none) : Option Bool) >>= _) = _
    rw [if_pos (by omega), ho.2.2, equal_self z.out, bsome, if_neg (by decide), alive10, bsome, bsome, if_neg (by decide)]
    have zk := zr.stack
    have hst := k.st
    rcases k.q with h0 | ⟨h0, h1⟩
    · rw [if_pos h0]
      show (((if (T.Out.length : Int) ≤ IntKind.i64.wrap ((S.Out.length : Int) + 1) then (some (decide ((T.Stack.length : Int) ≤ IntKind.i64.wrap ((S.Stack.length : Int) + 1)))) else (some false) : Option Bool)) >>= _) = _
      rw [wS (by omega), wS (by omega), if_pos (by omega), decide_eq_true (by omega)]; rfl
    · rw [if_neg (show ¬ q = 0 by omega)]
      show (((if q > 0 then (if q ≤ 3 then (reticentref09_Same.f T S >>= _) else _) else _ : Option Bool)) >>= _) = _
      rw [if_pos (by omega), if_pos (by omega), h1, same_state z]; rfl
  · rw [one_no h hF z hm, bsome]
    show (if mayO l' U R S = 0 then _ else _) = _
    rw [if_neg hm, alive10]; rfl
end Go.Proofs.YtmegdednaimgcaaDoor.Ss
