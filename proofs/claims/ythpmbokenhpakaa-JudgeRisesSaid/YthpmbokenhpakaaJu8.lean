/- JudgeRises. -/
import Derived.Test.YthpmbokenhpakaaJu7
set_option linter.unusedVariables false
set_option linter.unusedSimpArgs false
namespace Go.Proofs.Ythpmbokenhpakaa.Jdg
open Go Go.Proofs.Ythpmbokenhpakaa.Ab Go.Proofs.Ythpmbokenhpakaa.LE
open Go.Proofs.Ythpmbokenhpakaa.Lat (lAt_some bAnd_nat bOr_nat bShr_nat)
open Classical
/-- Two rows of labels over one lattice. -/
theorem je_two {l : api_Lattice} {U : List Nat} (h : Nm l U) (hc : chk l U = 0) {la lb : List Int} (h4 : la.length = 4) (ha : la.all (inn U.length) = true) (h4' : lb.length = 4) (hb : lb.all (inn U.length) = true) :
    ∃ (E : Je l la) (E' : Je l lb), E.n = U.length ∧ E'.n = U.length ∧ E.le = le U ∧ E'.le = le U ∧ E'.J = E.J ∧ E'.M = E.M ∧ E'.bot = E.bot ∧ E'.top = E.top ∧
      (∀ a b, a < U.length → b < U.length → ∀ c, c < U.length → (le U (E.J a b) c = true ↔ le U a c = true ∧ le U b c = true)) ∧
      (∀ a b, a < U.length → b < U.length → ∀ c, c < U.length → (le U c (E.M a b) = true ↔ le U c a = true ∧ le U c b = true)) := by
  obtain ⟨hm, hO, _⟩ := chk_zero hc
  obtain ⟨J, hJ⟩ := J_is hc
  obtain ⟨M, hM⟩ := M_is hc
  obtain ⟨b, ⟨b1, _⟩, b2, b3⟩ := bot_same h hc
  obtain ⟨t, ⟨t1, _⟩, t2, t3⟩ := top_same h hc
  have mk : ∀ lx : List Int, lx.length = 4 → lx.all (inn U.length) = true → ∃ E : Je l lx, E.n = U.length ∧ E.le = le U ∧ E.J = J ∧ E.M = M ∧ E.bot = b ∧ E.top = t := by
    intro lx h4 ha
    have hl : ∀ i : Nat, i < 4 → ∃ k : Nat, lAt lx (i : Int) = some (k : Int) ∧ k < U.length := by
      intro i hi
      have hi' : i < lx.length := by omega
      obtain ⟨k, e, hk⟩ := inn_nat (List.all_eq_true.1 ha _ (List.getElem_mem hi'))
      exact ⟨k, by rw [lAt_some hi', e], hk⟩
    refine ⟨⟨U.length, le U, J, M, b, t, fun i => if hi : i < 4 then (hl i hi).choose else 0, ⟨b1, b2, b3⟩, ⟨t1, t2, t3⟩, fun x y hx hy => ?_, fun x y hx hy => ?_, fun x y hx hy => ?_, h4, fun i hi => ?_⟩, rfl, rfl, rfl, rfl, rfl, rfl⟩
    · obtain ⟨e1, e2, e3, e4, e5, e6⟩ := yes2 h hc hx hy
      exact ⟨e1, e4⟩
    · obtain ⟨e1, e2, e3, e4, e5, e6⟩ := yes2 h hc hx hy
      rw [(hJ x y hx hy).1] at e2 e5
      exact ⟨(hJ x y hx hy).2.1, e2, e5⟩
    · obtain ⟨e1, e2, e3, e4, e5, e6⟩ := yes2 h hc hx hy
      rw [(hM x y hx hy).1] at e3 e6
      exact ⟨(hM x y hx hy).2.1, e3, e6⟩
    · have := (hl i hi).choose_spec
      simp only [hi, dif_pos]
      exact this
  obtain ⟨E, e1, e2, e3, e4, e5, e6⟩ := mk la h4 ha
  obtain ⟨E', f1, f2, f3, f4, f5, f6⟩ := mk lb h4' hb
  refine ⟨E, E', e1, f1, e2, f2, by rw [e3, f3], by rw [e4, f4], by rw [e5, f5], by rw [e6, f6], ?_, ?_⟩
  · rw [e3]; exact fun a b ha hb => (hJ a b ha hb).2.2
  · rw [e4]; exact fun a b ha hb => (hM a b ha hb).2.2
/-! Which labels a rule names. -/
def names (r : List Int) (j : Nat) : Bool := r.any fun op => decide (op = 8 + (j : Int))
theorem or_bit {v x : Nat} (hv : v < 16) (hx : x < 4) : bOr .u32 (v : Int) (bShl .u32 1 (x : Int)) = ((v ||| 1 <<< x : Nat) : Int) ∧ v ||| 1 <<< x < 16 := by
  have h1 : bShl .u32 1 (x : Int) = ((1 <<< x : Nat) : Int) := bShl_nat (x := 1) (by omega) (by omega)
  have h2 : 1 <<< x < 16 := by
    have : x = 0 ∨ x = 1 ∨ x = 2 ∨ x = 3 := by omega
    rcases this with rfl | rfl | rfl | rfl <;> decide
  rw [h1, bOr_nat (by omega) (by omega)]
  exact ⟨rfl, Nat.or_lt_two_pow (n := 4) hv h2⟩
theorem uses_l0 {r : List Int} (hr : r.length ≤ 900) : ∀ (d k v : Nat), r.length = k + d → v < 16 → ∃ u : Nat, rule_Uses.l0 r (k : Int) (v : Int) = some (u : Int) ∧ u < 16 ∧ ∀ j, j < 4 → u.testBit j = (v.testBit j || names (r.drop k) j)
  | 0, k, v, e, hv => ⟨v, by rw [rule_Uses.l0, if_neg (by omega)], hv, fun j hj => by rw [List.drop_of_length_le (by omega)]; simp [names]⟩
  | d + 1, k, v, e, hv => by
    have hk : k < r.length := by omega
    rw [List.drop_eq_getElem_cons hk]
    by_cases hop : 8 ≤ r[k] ∧ r[k] ≤ 11
    · obtain ⟨x, hx, hxo⟩ : ∃ x : Nat, x < 4 ∧ r[k] = 8 + (x : Int) := ⟨(r[k] - 8).toNat, by omega, by omega⟩
      obtain ⟨o1, o2⟩ := or_bit hv hx
      obtain ⟨u, h1, h2, h3⟩ := uses_l0 hr d (k + 1) (v ||| 1 <<< x) (by omega) o2
      have hw : IntKind.i64.wrap (r[k] - 8) = (x : Int) := by rw [wrapZ (by omega) (by omega)]; omega
      refine ⟨u, ?_, h2, fun j hj => ?_⟩
      · have hb : ((if r[k] ≥ 8 then (some (decide (r[k] ≤ 11))) else (some false) : Option Bool)) = some true := by rw [if_pos hop.1, decide_eq_true hop.2]
        rw [rule_Uses.l0, if_pos (by omega), lAt_some hk, bsome, hb, bsome, if_pos rfl, hw, if_pos (by omega), bsome, o1, wS (by omega)]
        exact h1
      · rw [h3 j hj, Nat.testBit_or, Nat.testBit_shiftLeft]
        unfold names
        rw [List.any_cons, hxo]
        by_cases hjx : j = x
        · subst hjx; simp
        · have h1 : ((j ≥ x : Bool) && Nat.testBit 1 (j - x)) = false := by
            by_cases q : j ≥ x
            · have : 1 ≤ j - x := by omega
              have h0 : Nat.testBit 1 (j - x) = false := Nat.testBit_lt_two_pow (Nat.lt_of_lt_of_le (by decide) (Nat.pow_le_pow_right (n := 2) (by omega) this))
              simp [h0]
            · simp [q]
          have h2 : decide ((8 : Int) + (x : Int) = 8 + (j : Int)) = false := decide_eq_false (by omega)
          rw [h1, h2]; simp
    · obtain ⟨u, h1, h2, h3⟩ := uses_l0 hr d (k + 1) v (by omega) hv
      refine ⟨u, ?_, h2, fun j hj => ?_⟩
      · have hb : ((if r[k] ≥ 8 then (some (decide (r[k] ≤ 11))) else (some false) : Option Bool)) = some false := by
          by_cases q : r[k] ≥ 8
          · rw [if_pos q, decide_eq_false (fun q2 => hop ⟨q, q2⟩)]
          · rw [if_neg q]
        rw [rule_Uses.l0, if_pos (by omega), lAt_some hk, bsome, hb, bsome, if_neg (by decide), bsome, wS (by omega)]
        exact h1
      · rw [h3 j hj]
        unfold names
        rw [List.any_cons, decide_eq_false (by omega), Bool.false_or]
theorem uses_eq {r : List Int} (hr : r.length ≤ 900) : ∃ u : Nat, u < 16 ∧ (∀ j, j < 4 → u.testBit j = names r j) ∧ rule_Uses.f r = some (match right r with | none => (0, 1) | some _ => ((u : Int), 0)) := by
  obtain ⟨u, h1, h2, h3⟩ := uses_l0 hr r.length 0 0 (by omega) (by omega)
  refine ⟨u, h2, fun j hj => by rw [h3 j hj]; simp, ?_⟩
  unfold rule_Uses.f
  rw [made_eq hr, bsome]
  rw [show ((0 : Nat) : Int) = 0 from rfl] at h1
  cases right r with
  | none => rfl
  | some b => rw [if_neg (show ¬ ((!true) = true) by decide), h1, bsome]
theorem bit_is {u K : Nat} (hu : u < 16) (hK : K < 4) : bAnd .u32 (bShr .u32 (u : Int) (K : Int)) 1 = if u.testBit K then 1 else 0 := by
  have hs : u >>> K < 4294967296 := Nat.lt_of_le_of_lt (by rw [Nat.shiftRight_eq_div_pow]; exact Nat.div_le_self ..) (by omega)
  rw [bShr_nat (by omega), show (1 : Int) = ((1 : Nat) : Int) from rfl, bAnd_nat hs (by omega), shr_and1]
  cases u.testBit K <;> rfl
section
variable {l : api_Lattice} {la lb : List Int} (E : Je l la) (E' : Je l lb)
def Same (t : Tr) : Prop := (t.sort = true → (ev E' t).2 = (ev E t).2) ∧ (t.sort = false → (ev E' t).1 = (ev E t).1)
theorem ev_same (hle : E'.le = E.le) (hJ : E'.J = E.J) (hM : E'.M = E.M) (hb : E'.bot = E.bot) (ht : E'.top = E.top) {K : Nat} (hlab : ∀ i, i < 4 → i ≠ K → E'.labs i = E.labs i) : ∀ {t : Tr}, t.wf → names t.flat K = false → Same E E' t
  | .lf op, ho, hn => by
    have hop : op ≠ 8 + (K : Int) := by
      intro q
      unfold names at hn
      simp [Tr.flat, q] at hn
    have hlb : ∀ i : Nat, i < 4 → op = 8 + (i : Int) → E'.labs i = E.labs i := fun i hi q => hlab i hi (by intro q2; subst q2; exact hop q)
    rcases ho with rfl | rfl | rfl | rfl | rfl | rfl | rfl | rfl
    · exact ⟨fun q => by simp [Tr.sort] at q, fun _ => rfl⟩
    · exact ⟨fun q => by simp [Tr.sort] at q, fun _ => rfl⟩
    · exact ⟨fun _ => hb, fun _ => rfl⟩
    · exact ⟨fun _ => ht, fun _ => rfl⟩
    · exact ⟨fun _ => hlb 0 (by omega) rfl, fun _ => rfl⟩
    · exact ⟨fun _ => hlb 1 (by omega) rfl, fun _ => rfl⟩
    · exact ⟨fun _ => hlb 2 (by omega) rfl, fun _ => rfl⟩
    · exact ⟨fun _ => hlb 3 (by omega) rfl, fun _ => rfl⟩
  | .nd op x y, ho, hn => by
    have hx : names x.flat K = false := by
      unfold names at hn ⊢
      rw [Tr.flat, List.any_append, List.any_append, Bool.or_eq_false_iff, Bool.or_eq_false_iff] at hn
      exact hn.1.1
    have hy : names y.flat K = false := by
      unfold names at hn ⊢
      rw [Tr.flat, List.any_append, List.any_append, Bool.or_eq_false_iff, Bool.or_eq_false_iff] at hn
      exact hn.1.2
    obtain ⟨ho, wx, wy, sx, sy⟩ := ho
    have qx := ev_same hle hJ hM hb ht hlab wx hx
    have qy := ev_same hle hJ hM hb ht hlab wy hy
    unfold Same at qx qy
    have e1 : (ev E' (.nd op x y)).1 = (if op = 3 then (ev E' x).1 && (ev E' y).1 else if op = 4 then (ev E' x).1 || (ev E' y).1 else E.le (ev E' x).2 (ev E' y).2) := by rw [← hle]; rfl
    have e2 : (ev E' (.nd op x y)).2 = (if op = 12 then E.J (ev E' x).2 (ev E' y).2 else E.M (ev E' x).2 (ev E' y).2) := by rw [← hJ, ← hM]; rfl
    have f1 : (ev E (.nd op x y)).1 = (if op = 3 then (ev E x).1 && (ev E y).1 else if op = 4 then (ev E x).1 || (ev E y).1 else E.le (ev E x).2 (ev E y).2) := rfl
    have f2 : (ev E (.nd op x y)).2 = (if op = 12 then E.J (ev E x).2 (ev E y).2 else E.M (ev E x).2 (ev E y).2) := rfl
    unfold Same
    rw [e1, e2, f1, f2]
    rcases ho with rfl | rfl | rfl | rfl | rfl
    · rw [qx.2 (by rw [sx]; rfl), qy.2 (by rw [sy]; rfl)]
      exact ⟨fun q => by simp [Tr.sort] at q, fun _ => rfl⟩
    · rw [qx.2 (by rw [sx]; rfl), qy.2 (by rw [sy]; rfl)]
      exact ⟨fun q => by simp [Tr.sort] at q, fun _ => rfl⟩
    · rw [qx.1 (by rw [sx]; rfl), qy.1 (by rw [sy]; rfl)]
      exact ⟨fun q => by simp [Tr.sort] at q, fun _ => rfl⟩
    · rw [qx.1 (by rw [sx]; rfl), qy.1 (by rw [sy]; rfl)]
      exact ⟨fun _ => rfl, fun q => by simp [Tr.sort] at q⟩
    · rw [qx.1 (by rw [sx]; rfl), qy.1 (by rw [sy]; rfl)]
      exact ⟨fun _ => rfl, fun q => by simp [Tr.sort] at q⟩
theorem ev_mono {U : List Nat} (hO : Ord U) (hn : E.n = U.length) (hn' : E'.n = U.length) (hJe : E'.J = E.J) (hMe : E'.M = E.M) (hbt : E'.bot = E.bot) (htp : E'.top = E.top)
    (hJ : ∀ a b, a < U.length → b < U.length → ∀ c, c < U.length → (le U (E.J a b) c = true ↔ le U a c = true ∧ le U b c = true))
    (hM : ∀ a b, a < U.length → b < U.length → ∀ c, c < U.length → (le U c (E.M a b) = true ↔ le U c a = true ∧ le U c b = true))
    (hlab : ∀ i, i < 4 → le U (E.labs i) (E'.labs i) = true) : ∀ {t : Tr}, t.wf → t.sort = true → le U (ev E t).2 (ev E' t).2 = true
  | .lf op, ho, hs => by
    rcases ho with rfl | rfl | rfl | rfl | rfl | rfl | rfl | rfl
    · simp [Tr.sort] at hs
    · simp [Tr.sort] at hs
    · show le U E.bot E'.bot = true
      rw [hbt]; exact hO.refl _ (by rw [← hn]; exact E.hbot.1)
    · show le U E.top E'.top = true
      rw [htp]; exact hO.refl _ (by rw [← hn]; exact E.htop.1)
    · exact hlab 0 (by omega)
    · exact hlab 1 (by omega)
    · exact hlab 2 (by omega)
    · exact hlab 3 (by omega)
  | .nd op x y, ⟨ho, wx, wy, sx, sy⟩, hs => by
    have ht : op = 12 ∨ op = 13 := by
      rcases ho with rfl | rfl | rfl | rfl | rfl
      · simp [Tr.sort] at hs
      · simp [Tr.sort] at hs
      · simp [Tr.sort] at hs
      · exact .inl rfl
      · exact .inr rfl
    have sx' : x.sort = true := by rw [sx]; exact decide_eq_true (by omega)
    have sy' : y.sort = true := by rw [sy]; exact decide_eq_true (by omega)
    have lx := ev_lt E wx sx'
    have ly := ev_lt E wy sy'
    have lx' := ev_lt E' wx sx'
    have ly' := ev_lt E' wy sy'
    have ix := ev_mono hO hn hn' hJe hMe hbt htp hJ hM hlab wx sx'
    have iy := ev_mono hO hn hn' hJe hMe hbt htp hJ hM hlab wy sy'
    have jl := (E.hjoin _ _ lx ly).1
    have jl' := (E'.hjoin _ _ lx' ly').1
    have ml := (E.hmeet _ _ lx ly).1
    have ml' := (E'.hmeet _ _ lx' ly').1
    rw [hn] at lx ly jl ml
    rw [hn'] at lx' ly' jl' ml'
    rcases ht with rfl | rfl
    · show le U (E.J (ev E x).2 (ev E y).2) (E'.J (ev E' x).2 (ev E' y).2) = true
      rw [hJe] at jl' ⊢
      have h := (hJ _ _ lx' ly' _ jl').1 (hO.refl _ jl')
      exact (hJ _ _ lx ly _ jl').2 ⟨hO.trans _ _ _ lx lx' jl' ix h.1, hO.trans _ _ _ ly ly' jl' iy h.2⟩
    · show le U (E.M (ev E x).2 (ev E y).2) (E'.M (ev E' x).2 (ev E' y).2) = true
      rw [hMe] at ml' ⊢
      have h := (hM _ _ lx ly _ ml).1 (hO.refl _ ml)
      exact (hM _ _ lx' ly' _ ml).2 ⟨hO.trans _ _ _ ml lx lx' h.1 ix, hO.trans _ _ _ ml ly ly' h.2 iy⟩
end
theorem cond_is {l : api_Lattice} {U : List Nat} (h : Nm l U) {labels : List Int} (E : Je l labels) {t : Tr} (ho : t.wf) (hs : t.sort = false) (hr : t.flat.length ≤ 900) (hl : labels.length ≤ 900) (hm : mayS l U t.flat labels false = 0) :
    judge_Cond.f l t.flat labels = some ((ev E t).1, 0) := by
  have h1 := comes_eq E ho hr
  have hv : val E t = .c110 (ev E t).1 := by unfold val; rw [hs]; rfl
  unfold judge_Cond.f
  rw [may_eq h hr hl, hm, bsome, if_pos rfl]
  show (judge_judge_comes.f (⟨l, labels, []⟩ : judge_judge) t.flat >>= _) = _
  rw [h1, bsome, hv]; rfl
theorem label_is {l : api_Lattice} {U : List Nat} (h : Nm l U) {labels : List Int} (E : Je l labels) {t : Tr} (ho : t.wf) (hs : t.sort = true) (hr : t.flat.length ≤ 900) (hl : labels.length ≤ 900) (hm : mayS l U t.flat labels true = 0) :
    judge_Label.f l t.flat labels = some (((ev E t).2 : Int), 0) := by
  have h1 := comes_eq E ho hr
  have hv : val E t = .c119 ((ev E t).2 : Int) := by unfold val; rw [hs]; rfl
  unfold judge_Label.f
  rw [may_eq h hr hl, hm, bsome, if_pos rfl]
  show (judge_judge_comes.f (⟨l, labels, []⟩ : judge_judge) t.flat >>= _) = _
  rw [h1, bsome, hv]; rfl
theorem clone_eq {a : List Int} (h : a.length ≤ 900) : slices_Clone_int_int_nn.f a = some a := by
  unfold slices_Clone_int_int_nn.f
  have : 7200 ≤ big := by decide
  simp
  omega
theorem modn {a : Int} : ∃ i : Nat, i < 4 ∧ (IntKind.i64.wrap ((a.tmod 4) + 4)).tmod 4 = (i : Int) := by
  have hb1 : a.tmod 4 < 4 := Int.tmod_lt_of_pos a (by omega)
  have hb2 : -4 < a.tmod 4 := Int.lt_tmod_of_pos a (by omega)
  rw [wrapZ (by omega) (by omega)]
  have h2 : 0 ≤ (a.tmod 4 + 4).tmod 4 := Int.tmod_nonneg _ (by omega)
  have h3 : (a.tmod 4 + 4).tmod 4 < 4 := Int.tmod_lt_of_pos _ (by omega)
  exact ⟨((a.tmod 4 + 4).tmod 4).toNat, by omega, by omega⟩
end Go.Proofs.Ythpmbokenhpakaa.Jdg
