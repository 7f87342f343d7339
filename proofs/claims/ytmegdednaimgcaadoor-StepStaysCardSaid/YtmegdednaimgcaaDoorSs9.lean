/- A step, whole. -/
import Derived.Test.YtmegdednaimgcaaDoorSs8
set_option linter.unusedVariables false
set_option linter.unusedSimpArgs false
set_option linter.unusedSectionVars false
namespace Go.Proofs.YtmegdednaimgcaaDoor.Ss
open Go Go.Proofs.YtmegdednaimgcaaDoor.Ab Go.Proofs.YtmegdednaimgcaaDoor.TT
theorem ins_of {n : Int} {x : api_Instr} (h : insB n x = true) : (0 ≤ x.Op ∧ x.Op ≤ 12) ∧ (x.Op = 9 → 0 ≤ x.N ∧ x.N ≤ 3) := by
  unfold insB at h
  by_cases c1 : x.Op = 1
  · exact ⟨by omega, fun w => by omega⟩
  · rw [if_neg c1] at h
    obtain ⟨a, b, _, d⟩ := of_decide_eq_true h
    refine ⟨⟨a, b⟩, fun w => ?_⟩
    rw [if_neg (by omega), if_pos w] at d
    exact d
theorem plc_of {v : Int} (h : plaB v = true) : 0 ≤ v ∧ v ≤ 12 := by
  have := of_decide_eq_true h
  exact ⟨this.1, this.2⟩
structure RightS (n : Int) (s : api_State) : Prop where
  code : s.Code.length ≤ 12
  ins : ∀ x ∈ s.Code, insB n x = true
  pc : 0 ≤ s.Pc.V ∧ s.Pc.V ≤ 12
  mem : s.Mem.length ≤ 6
  stack : s.Stack.length ≤ 12
  out : s.Out.length ≤ 8
theorem rs_of {n : Int} {s : api_State} (h : rightS n s = true) : RightS n s := by
  unfold rightS at h
  simp only [Bool.and_eq_true] at h
  obtain ⟨⟨⟨⟨⟨⟨h1, h2⟩, h3⟩, ⟨h4, h5⟩, h6⟩, h7⟩, h8⟩, h9⟩ := h
  unfold rightB at h1
  rw [Bool.and_eq_true] at h1
  exact ⟨of_decide_eq_true h1.1, List.all_eq_true.1 h1.2, plc_of h2, of_decide_eq_true h4, of_decide_eq_true h5, of_decide_eq_true h6⟩
theorem RightS.sz {n : Int} {s : api_State} (h : RightS n s) : Sz s := ⟨by have := h.code; omega, by have := h.mem; omega, by have := h.stack; omega, by have := h.out; omega⟩
/-- What is left of a step when an instruction has what it needs. -/
def K (l : api_Lattice) (s : api_State) (m : step_machine) (row : api_Row) : Option (Pn ⊕ (api_State × Int)) :=
  judge_Cond.f l row.May ([s.Pc.L, m.one_.x0_, m.one_.x1_, m.one_.x2_] : List Int) >>= fun y11 => if (!y11.1) = true then (some (.inl 2)) else (judge_Label.f l row.Res ([s.Pc.L, m.one_.x0_, m.one_.x1_, m.one_.x2_] : List Int) >>= fun y13 => judge_Label.f l row.Pc ([s.Pc.L, m.one_.x0_, m.one_.x1_, m.one_.x2_] : List Int) >>= fun y14 => step_machine_does.f m y13.1 >>= fun y15 => state_Right.f l (⟨⟨y15.s_.Pc.V, y14.1⟩, y15.s_.Code, y15.s_.Mem, y15.s_.Stack, y15.s_.Out⟩ : api_State) >>= fun y16 => step_need.f y16 >>= fun z17 => match z17 with | .inl p18 => some (.inl p18) | .inr y19 => some (.inr ((⟨⟨y15.s_.Pc.V, y14.1⟩, y15.s_.Code, y15.s_.Mem, y15.s_.Stack, y15.s_.Out⟩ : api_State), 0)))
/-- The machine that a step starts with. -/
def mach (l : api_Lattice) (s : api_State) (x : api_Instr) (y : Int) : step_machine := ⟨l, s, x, ⟨false, 0, 0⟩, ⟨false, 0, 0⟩, ⟨false, 0, 0⟩, 0, ⟨y, y, y⟩⟩
theorem code_at {n : Int} {s : api_State} (h : RightS n s) (h0 : s.Pc.V < (s.Code.length : Int)) : ∃ x, lAt s.Code s.Pc.V = some x ∧ x ∈ s.Code := by
  have p := h.pc
  have hlt : s.Pc.V.toNat < s.Code.length := by omega
  have e : s.Pc.V = ((s.Pc.V.toNat : Nat) : Int) := by omega
  refine ⟨s.Code[s.Pc.V.toNat], ?_, List.getElem_mem hlt⟩
  have := lAt_some (xs := s.Code) hlt
  rwa [← e] at this
inductive Way (l : api_Lattice) (s : api_State) : Prop where
  | off (h : ¬ s.Pc.V < (s.Code.length : Int)) (e : ∀ R, step_step.B l ⟨R⟩ s = some (.inl 3)) : Way l s
  | no (x : api_Instr) (hx : lAt s.Code s.Pc.V = some x) (h : s.Pc.V < (s.Code.length : Int)) (e : ∀ R, step_step.B l ⟨R⟩ s = some (.inl 3)) : Way l s
  | halt (x : api_Instr) (hx : lAt s.Code s.Pc.V = some x) (h : s.Pc.V < (s.Code.length : Int)) (e : ∀ R, step_step.B l ⟨R⟩ s = some (.inl 1)) : Way l s
  | go (x : api_Instr) (m : step_machine) (y : Int) (hx : lAt s.Code s.Pc.V = some x) (h : s.Pc.V < (s.Code.length : Int)) (op : 0 ≤ x.Op ∧ x.Op ≤ 12) (cn : x.Op = 9 → 0 ≤ x.N ∧ x.N ≤ 3) (hm : Fine (fun _ => True) (mach l s x y) m) (e : ∀ R, step_step.B l ⟨R⟩ s = (lAt R x.Op >>= fun r => K l s m r)) : Way l s
theorem way {l : api_Lattice} {U : List Nat} (h : Nm l U) (hc : chk l U = 0) {n : Int} {s : api_State} (z : RightS n s) : Way l s := by
  obtain ⟨y, _, hb⟩ := bot_prog h hc
  have hS := z.stack
  by_cases h0 : s.Pc.V < (s.Code.length : Int)
  · obtain ⟨x, ea, hm⟩ := code_at z h0
    obtain ⟨i0, i1⟩ := ins_of (z.ins x hm)
    obtain ⟨r, hr, hq⟩ := needs_a (P := fun _ => True) (a := mach l s x y) ⟨by show s.Stack.length ≤ 1000; omega, trivial, trivial, trivial, fun _ _ => trivial, fun _ _ => trivial, i0, fun _ => trivial, i1⟩
    have hB : ∀ R, step_step.B l ⟨R⟩ s = (match r with | .inl p7 => some (.inl p7) | .inr y8 => if y8.x_.Op = 12 then (some (.inl 1)) else (lAt R y8.x_.Op >>= fun y10 => K l s y8 y10) : Option (Pn ⊕ (api_State × Int))) := by
      intro R
      unfold step_step.B
      rw [need_p, bsome, decide_eq_true h0]
      show (lattice_Bottom.f l >>= _) = _
      rw [hb, bsome, ea, bsome]
      unfold mach at hr
      show (step_machine_needs.f (⟨l, s, x, ⟨false, 0, 0⟩, ⟨false, 0, 0⟩, ⟨false, 0, 0⟩, 0, ⟨(y : Int), (y : Int), (y : Int)⟩⟩ : step_machine) >>= _) = _
      rw [hr, bsome]
      cases r <;> rfl
    cases r with
    | inl p =>
      have hp : p = 3 := hq
      subst hp
      exact .no x ea h0 hB
    | inr m =>
      have hq : Fine (fun _ => True) (mach l s x y) m := hq
      have hx : m.x_ = x := hq.x
      by_cases h12 : x.Op = 12
      · refine .halt x ea h0 fun R => ?_
        rw [hB R]
        show (if m.x_.Op = 12 then _ else _) = _
        rw [hx, if_pos h12]
      · refine .go x m y ea h0 i0 i1 hq fun R => ?_
        rw [hB R]
        show (if m.x_.Op = 12 then _ else _) = _
        rw [hx, if_neg h12]
  · refine .off h0 fun R => ?_
    unfold step_step.B
    rw [need_p, bsome, decide_eq_false h0]; rfl
/-- What a step's answer is. -/
def Went (n : Int) (s : api_State) : Pn ⊕ (api_State × Int) → Prop
  | .inl p => p = 1 ∨ p = 2 ∨ p = 3
  | .inr (t, q) => q = 0 ∧ rightS n t = true ∧ t.Code = s.Code ∧ t.Mem.length = s.Mem.length ∧ t.Stack.length ≤ s.Stack.length + 1 ∧ (t.Out = s.Out ∨ ∃ x, t.Out = s.Out ++ [x])
theorem K_m {l : api_Lattice} {U : List Nat} (h : Nm l U) (hc : chk l U = 0) {n : Int} {s : api_State} (z : RightS n s) {x : api_Instr} {m : step_machine} {y : Int} (op : 0 ≤ x.Op ∧ x.Op ≤ 12) (cn : x.Op = 9 → 0 ≤ x.N ∧ x.N ≤ 3) (hm : Fine (fun _ => True) (mach l s x y) m) {row : api_Row} (h1 : row.May.length ≤ 900) (h2 : row.Res.length ≤ 900) (h3 : row.Pc.length ≤ 900) :
    ∃ r, K l s m row = some r ∧ Went (l.Up.length : Int) s r ∧ (∀ p, r = .inl p → p = 2 ∨ p = 3) := by
  have es : m.s_ = s := hm.s
  have ex : m.x_ = x := hm.x
  have zs := z.stack
  have zm := z.mem
  have zo := z.out
  have zc := z.code
  unfold K
  obtain ⟨b, q, e1⟩ := cond_any h (r := row.May) (labels := [s.Pc.L, m.one_.x0_, m.one_.x1_, m.one_.x2_]) h1 (by simp)
  rw [e1, bsome]
  cases b with
  | false => exact ⟨_, rfl, .inr (.inl rfl), fun p hp => by cases hp; exact .inl rfl⟩
  | true =>
    show ∃ r, (judge_Label.f l row.Res _ >>= _) = some r ∧ _
    obtain ⟨v, q2, e2⟩ := label_any h (r := row.Res) (labels := [s.Pc.L, m.one_.x0_, m.one_.x1_, m.one_.x2_]) h2 (by simp)
    obtain ⟨w, q3, e3⟩ := label_any h (r := row.Pc) (labels := [s.Pc.L, m.one_.x0_, m.one_.x1_, m.one_.x2_]) h3 (by simp)
    obtain ⟨r, e4, k⟩ := does_m (m := m) (by rw [es]; omega) (by rw [es]; omega) (by rw [es]; omega) hm.lo (by rw [es]; exact hm.hi) (fun w => by rw [ex] at w; exact hm.c w) (fun w => by rw [ex] at w ⊢; exact ⟨(cn w).1, hm.g w⟩) v
    have k1 : r.s_.Code = s.Code := by rw [k.code, es]
    have k2 : r.s_.Mem.length = s.Mem.length := by rw [k.mem, es]
    have k3 : r.s_.Stack.length ≤ s.Stack.length + 1 := by have := k.st; rw [es] at this; exact this
    have k4 : r.s_.Out = s.Out ∨ ∃ x, r.s_.Out = s.Out ++ [x] := by have := k.out; rw [es] at this; exact this
    have k5 : r.s_.Out.length ≤ 1000 := by
      rcases k4 with e | ⟨x, e⟩ <;> rw [e]
      · omega
      · rw [List.length_append, List.length_singleton]; omega
    rw [e2, bsome, e3, bsome, e4, bsome, right_s h hc (s := ⟨⟨r.s_.Pc.V, w⟩, r.s_.Code, r.s_.Mem, r.s_.Stack, r.s_.Out⟩) ⟨by show r.s_.Code.length ≤ 1000; rw [k1]; omega, by show r.s_.Mem.length ≤ 1000; omega, by show r.s_.Stack.length ≤ 1000; omega, k5⟩, bsome, need_p, bsome]
    cases hR : rightS (l.Up.length : Int) (⟨⟨r.s_.Pc.V, w⟩, r.s_.Code, r.s_.Mem, r.s_.Stack, r.s_.Out⟩ : api_State) with
    | false => exact ⟨_, rfl, .inr (.inr rfl), fun p hp => by cases hp; exact .inr rfl⟩
    | true => exact ⟨_, rfl, ⟨rfl, hR, k1, k2, k3, k4⟩, fun p hp => by cases hp⟩
theorem B_m {l : api_Lattice} {U : List Nat} (h : Nm l U) (hc : chk l U = 0) {n : Int} {s : api_State} (z : RightS n s) {R : List api_Row} (hF : Few R) (h13 : R.length = 13) : ∃ r, step_step.B l ⟨R⟩ s = some r ∧ Went (l.Up.length : Int) s r := by
  cases way h hc z with
  | off _ e => exact ⟨_, e R, .inr (.inr rfl)⟩
  | no x hx _ e => exact ⟨_, e R, .inr (.inr rfl)⟩
  | halt x hx _ e => exact ⟨_, e R, .inl rfl⟩
  | go x m y hx h0 op cn hm e =>
    have eo : x.Op = ((x.Op.toNat : Nat) : Int) := by omega
    have hlt : x.Op.toNat < R.length := by omega
    have hmem := List.getElem_mem hlt
    obtain ⟨r, e1, e2, _⟩ := K_m h hc z op cn hm (row := R[x.Op.toNat]) (by have := hF.may _ hmem; omega) (by have := hF.res _ hmem; omega) (by have := hF.pc _ hmem; omega)
    refine ⟨r, ?_, e2⟩
    rw [e R, eo, lAt_some hlt, bsome]; exact e1
end Go.Proofs.YtmegdednaimgcaaDoor.Ss
