import Derived.Test.YtkmobcaobmchpaaGreatDoorSrb1
set_option linter.unusedVariables false
set_option linter.unusedSimpArgs false
set_option linter.unusedSectionVars false
namespace Go.Proofs.YtkmobcaobmchpaaGreatDoor.St
open Go Go.Proofs.YtkmobcaobmchpaaGreatDoor.Ab Go.Proofs.YtkmobcaobmchpaaGreatDoor.SR
def sB (T : List api_Tok) (i : Nat) (e k : Int) (s : Str) : Bool := decide (e = 0 ∧ (T.getD i ⟨0, [], 0⟩).Kind = k ∧ (T.getD i ⟨0, [], 0⟩).Text = s)
def sM (T : List api_Tok) (k : Int) (s : Str) (i : Nat) (e : Int) : Nat × Int := if sB T i e k s = true then (i + 1, e) else if e = 0 then (i, 4) else (i, e)
theorem sB_bad {T : List api_Tok} {i : Nat} {e k : Int} {s : Str} (h : e ≠ 0) : sB T i e k s = false := by
  unfold sB; exact decide_eq_false (fun q => h q.1)
theorem sM_bad {T : List api_Tok} {i : Nat} {e k : Int} {s : Str} (h : e ≠ 0) : sM T k s i e = (i, e) := by
  unfold sM; rw [sB_bad h, if_neg ff, if_neg h]
theorem sM_mk {T : List api_Tok} {i : Nat} {e : Int} {s : Str} : sM T 3 s i e = mkS T s i e := by
  unfold sM mkS sB
  by_cases h : e = 0
  · subst h
    by_cases q : (T.getD i ⟨0, [], 0⟩).Kind = 3 ∧ (T.getD i ⟨0, [], 0⟩).Text = s
    · rw [if_pos (decide_eq_true ⟨rfl, q⟩), if_pos rfl, if_pos q]
    · rw [if_neg (by rw [decide_eq_false (fun k => q k.2)]; exact ff), if_pos rfl, if_pos rfl, if_neg q]
  · rw [if_neg (by rw [decide_eq_false (fun k => h k.1)]; exact ff), if_neg h, if_neg h]
section
variable {T : List api_Tok} (hT : Tk T) {l : api_Lattice}
include hT
theorem is_p {i : Nat} (hi : i < T.length) {e k : Int} {s : Str} : state_reader_is.f ⟨l, T, (i : Int), e⟩ k s = some (⟨l, T, (i : Int), e⟩, sB T i e k s) := by
  unfold state_reader_is.f sB
  rw [lAt_some hi, bsome, get_at hT hi]
  have key : ((if e = 0 then (if T[i].Kind = k then (some (decide (T[i].Text = s))) else (some false)) else (some false) : Option Bool)) = some (decide (e = 0 ∧ T[i].Kind = k ∧ T[i].Text = s)) := by
    by_cases h1 : e = 0 <;> by_cases h2 : T[i].Kind = k <;> simp [h1, h2]
  show (((if e = 0 then (if T[i].Kind = k then (some (decide (T[i].Text = s))) else (some false)) else (some false) : Option Bool)) >>= _) = _
  rw [key]; rfl
theorem here_r {i : Nat} (hi : i < T.length) {e k : Int} {s : Str} {a : api_Atom} : reticentref09_here.f T ⟨(i : Int), a, e⟩ k s = some (sB T i e k s) := by
  unfold reticentref09_here.f sB
  rw [get_at hT hi]
  by_cases h1 : e = 0
  · rw [if_pos h1, lAt_some hi, bsome]
    by_cases h2 : T[i].Kind = k
    · rw [if_pos h2, bsome, bsome]
      simp [h1, h2]
    · rw [if_neg h2, bsome]
      simp [h1, h2]
  · rw [if_neg h1, bsome, decide_eq_false (fun q => h1 q.1)]
theorem fail_s {i e w : Int} : state_reader_fail.f ⟨l, T, i, e⟩ w = some ⟨l, T, i, if e = 0 then w else e⟩ := by
  unfold state_reader_fail.f
  by_cases h : e = 0
  · rw [if_pos h, if_pos h]
  · rw [if_neg h, if_neg h]
theorem must_p {i : Nat} (hi : i < T.length) {e k : Int} {s : Str} : state_reader_must.f ⟨l, T, (i : Int), e⟩ k s = some ⟨l, T, ((sM T k s i e).1 : Int), (sM T k s i e).2⟩ := by
  have hl := hT.len
  unfold state_reader_must.f sM
  rw [is_p hT hi, bsome]
  cases h : sB T i e k s with
  | true =>
    rw [if_pos rfl, if_pos rfl]
    show some (⟨l, T, IntKind.i64.wrap ((i : Int) + 1), e⟩ : state_reader) = _
    rw [wS (by omega)]
  | false =>
    rw [if_neg ff, if_neg ff]
    show (state_reader_fail.f ⟨l, T, (i : Int), e⟩ 4 >>= _) = _
    rw [fail_s hT, bsome]
    by_cases he : e = 0
    · rw [if_pos he, if_pos he]
    · rw [if_neg he, if_neg he]
theorem must_r {i : Nat} (hi : i < T.length) {e k : Int} {s : Str} {a : api_Atom} : reticentref09_must.f T ⟨(i : Int), a, e⟩ k s = some ⟨((sM T k s i e).1 : Int), a, (sM T k s i e).2⟩ := by
  have hl := hT.len
  unfold reticentref09_must.f
  by_cases he : e = 0
  · subst he
    rw [if_pos rfl, here_r hT hi, bsome]
    unfold sM
    cases h : sB T i 0 k s with
    | true =>
      rw [if_neg (by decide), if_pos rfl]
      show some (⟨IntKind.i64.wrap ((i : Int) + 1), a, 0⟩ : reticentref09_P) = _
      rw [wS (by omega)]
    | false => rw [if_pos (by decide), if_neg ff, if_pos rfl]
  · rw [if_neg he, sM_bad he]
theorem sB_next {i : Nat} (hi : i < T.length) {e k : Int} {s : Str} (hk : k ≠ 0) (h : sB T i e k s = true) : i + 1 < T.length ∧ e = 0 := by
  unfold sB at h
  obtain ⟨h1, h2, _⟩ := of_decide_eq_true h
  rw [get_at hT hi] at h2
  exact ⟨hT.next i hi (by omega), h1⟩
theorem sM_lt {i : Nat} (hi : i < T.length) {e k : Int} {s : Str} (hk : k ≠ 0) : (sM T k s i e).1 < T.length := by
  unfold sM
  by_cases h : sB T i e k s = true
  · rw [if_pos h]; exact (sB_next hT hi hk h).1
  · rw [if_neg h]; split <;> exact hi
theorem of_p {i : Nat} (hi : i < T.length) {e k : Int} : state_reader_of.f ⟨l, T, (i : Int), e⟩ k = some (if e = 0 ∧ T[i].Kind = k then (⟨l, T, ((i + 1 : Nat) : Int), e⟩, T[i].Text) else (⟨l, T, (i : Int), if e = 0 then 4 else e⟩, [])) := by
  have hl := hT.len
  unfold state_reader_of.f
  rw [lAt_some hi, bsome]
  have key : ((if e = 0 then (some (!decide (T[i].Kind = k))) else (some true) : Option Bool)) = some (!decide (e = 0 ∧ T[i].Kind = k)) := by
    by_cases h1 : e = 0 <;> simp [h1]
  show (((if e = 0 then (some (!decide (T[i].Kind = k))) else (some true) : Option Bool)) >>= _) = _
  rw [key, bsome]
  by_cases h : e = 0 ∧ T[i].Kind = k
  · rw [if_pos h, decide_eq_true h, if_neg (by decide)]
    show some ((⟨l, T, IntKind.i64.wrap ((i : Int) + 1), e⟩ : state_reader), T[i].Text) = _
    rw [wS (by omega)]
  · rw [if_neg h, decide_eq_false h, if_pos (by decide), fail_s hT, bsome]
theorem of_ok {i : Nat} (hi : i < T.length) {k : Int} (h : T[i].Kind = k) : state_reader_of.f ⟨l, T, (i : Int), 0⟩ k = some (⟨l, T, ((i + 1 : Nat) : Int), 0⟩, T[i].Text) := by rw [of_p hT hi, if_pos ⟨rfl, h⟩]
theorem of_no {i : Nat} (hi : i < T.length) {k : Int} (h : ¬ T[i].Kind = k) : state_reader_of.f ⟨l, T, (i : Int), 0⟩ k = some (⟨l, T, (i : Int), 4⟩, []) := by rw [of_p hT hi, if_neg (fun q => h q.2), if_pos rfl]
theorem of_bad {i : Nat} (hi : i < T.length) {e k : Int} (h : ¬ e = 0) : state_reader_of.f ⟨l, T, (i : Int), e⟩ k = some (⟨l, T, (i : Int), e⟩, []) := by rw [of_p hT hi, if_neg (fun q => h q.1), if_neg h]
end
theorem lAt_u8s {s : Str} {k : Nat} (h : k < s.length) : lAt (u8s s) (k : Int) = some (sAt s (k : Int)) := by
  rw [lAt_some (show k < (u8s s).length by simpa [u8s] using h), sAt_get h]
  simp [u8s]
theorem digits_s {y : state_reader × Str} {y' : api_Tok} (ht : y.2 = y'.Text) (hs : y.2.length ≤ 4) : ∀ (d k : Nat) (a : Int), y.2.length = k + d → (-9223372036854775808 ≤ a ∧ a < 9223372036854775808) →
    ∃ v, state_reader_number.l0 y (k : Int) a = some v ∧ state_reader_number.l1 y (k : Int) a = some v ∧ state_reader_number.l2 y (k : Int) a = some v ∧ state_reader_number.l3 y (k : Int) a = some v ∧ reticentref08_Int.l0 y' a (k : Int) = some v ∧ reticentref08_Int.l1 y' a (k : Int) = some v ∧ -9223372036854775808 ≤ v ∧ v < 9223372036854775808
  | 0, k, a, e, ha => by
    have hn : ¬ (k : Int) < ((u8s y.2).length : Int) := by simp only [u8s, List.length_map]; omega
    refine ⟨a, ?_, ?_, ?_, ?_, ?_, ?_, ha⟩
    · rw [state_reader_number.l0, if_neg hn]
    · rw [state_reader_number.l1, if_neg hn]
    · rw [state_reader_number.l2, if_neg hn]
    · rw [state_reader_number.l3, if_neg hn]
    · rw [reticentref08_Int.l0, if_neg (by rw [← ht]; omega)]
    · rw [reticentref08_Int.l1, if_neg (by rw [← ht]; omega)]
  | d + 1, k, a, e, ha => by
    have hk : k < y.2.length := by omega
    have hn : (k : Int) < ((u8s y.2).length : Int) := by simp only [u8s, List.length_map]; omega
    obtain ⟨v, h1, h2, h3, h4, h5, h6, h7⟩ := digits_s ht hs d (k + 1) (IntKind.i64.wrap ((IntKind.i64.wrap (10 * a)) + (IntKind.i64.wrap ((sAt y.2 (k : Int)).tmod 16)))) (by omega) (wrap_in _)
    have hb : bAnd .u8 (sAt y.2 (k : Int)) 15 = (sAt y.2 (k : Int)).tmod 16 := by rw [sAt_get hk]; exact byte15 _
    refine ⟨v, ?_, ?_, ?_, ?_, ?_, ?_, h7⟩
    · rw [state_reader_number.l0, if_pos hn, lAt_u8s hk, bsome, hb, wS (by omega), h1]
    · rw [state_reader_number.l1, if_pos hn, lAt_u8s hk, bsome, hb, wS (by omega), h2]
    · rw [state_reader_number.l2, if_pos hn, lAt_u8s hk, bsome, hb, wS (by omega), h3]
    · rw [state_reader_number.l3, if_pos hn, lAt_u8s hk, bsome, hb, wS (by omega), h4]
    · rw [reticentref08_Int.l0, ← ht, if_pos (by omega), if_pos (by omega), wS (by omega), h5]
    · rw [reticentref08_Int.l1, ← ht, if_pos (by omega), if_pos (by omega), wS (by omega), h6]
theorem k2 (t : api_Tok) : ((if t.Kind = 2 then (some (decide ((t.Text.length : Int) > 4))) else (some true) : Option Bool)) = some (decide (¬ (t.Kind = 2 ∧ t.Text.length ≤ 4))) := by
  by_cases h1 : t.Kind = 2
  · by_cases h2 : t.Text.length ≤ 4
    · rw [if_pos h1, decide_eq_false (show ¬ (t.Text.length : Int) > 4 by omega), decide_eq_false (by simp [h1, h2])]
    · rw [if_pos h1, decide_eq_true (show (t.Text.length : Int) > 4 by omega), decide_eq_true (by simp [h2])]
  · rw [if_neg h1, decide_eq_true (by simp [h1])]
theorem nilOk : ([] : Str).length ≤ big := by decide
section
variable {T : List api_Tok} (hT : Tk T) {l : api_Lattice}
include hT
theorem num_s {i : Nat} (hi : i < T.length) {n : Int} {x : api_Instr} : ∃ (j : Nat) (e v m : Int), state_reader_number.f ⟨l, T, (i : Int), 0⟩ = some (⟨l, T, (j : Int), e⟩, v) ∧ reticentref08_Int.f T ⟨(i : Int), n, x, 0⟩ = some ⟨(j : Int), m, x, e⟩ ∧ j < T.length ∧ (e = 0 → m = v) := by
  have hl := hT.len
  unfold state_reader_number.f reticentref08_Int.f
  rw [is_p hT hi, bsome, if_pos rfl, lAt_some hi, bsome, bsome]
  have key : ((if T[i].Kind = 3 then (some (decide (T[i].Text = ([45] : Str)))) else (some false) : Option Bool)) = some (sB T i 0 3 [45]) := by
    unfold sB
    rw [get_at hT hi]
    by_cases h1 : T[i].Kind = 3 <;> simp [h1]
  show ∃ (j : Nat) (e v m : Int), _ ∧ (((if T[i].Kind = 3 then (some (decide (T[i].Text = ([45] : Str)))) else (some false) : Option Bool)) >>= _) = _ ∧ _
  rw [key, bsome]
  have len_ok : ∀ {s : Str}, s.length ≤ 4 → s.length ≤ big := fun h => by unfold big; omega
  cases hm : sB T i 0 3 [45] with
  | true =>
    have hi2 := (sB_next hT hi (by decide) hm).1
    rw [if_pos tt, if_pos tt]
    show ∃ (j : Nat) (e v m : Int), (lAt T (IntKind.i64.wrap ((i : Int) + 1)) >>= fun y3 => if (y3.Text.length : Int) > 4 then (state_reader_fail.f (⟨l, T, IntKind.i64.wrap ((i : Int) + 1), 0⟩ : state_reader) 4 >>= _) else (state_reader_of.f (⟨l, T, IntKind.i64.wrap ((i : Int) + 1), 0⟩ : state_reader) 2 >>= _)) = _ ∧ _
    rw [wS (by omega), lAt_some hi2, bsome, bsome]
    show ∃ (j : Nat) (e v m : Int), _ ∧ (((if T[i + 1].Kind = 2 then (some (decide ((T[i + 1].Text.length : Int) > 4))) else (some true) : Option Bool)) >>= _) = _ ∧ _
    rw [k2, bsome]
    obtain ⟨v0, n0, n1, n2, n3, _⟩ := digits_s (y := ((⟨l, T, ((i + 1 : Nat) : Int), 4⟩ : state_reader), ([] : Str))) (y' := ⟨0, [], 0⟩) rfl (by simp) 0 0 0 (by simp) (by omega)
    rw [show ((0 : Nat) : Int) = 0 from rfl] at n0 n1
    by_cases h4 : T[i + 1].Text.length ≤ 4
    · rw [if_neg (show ¬ (T[i + 1].Text.length : Int) > 4 by omega)]
      by_cases hk : T[i + 1].Kind = 2
      · have hi3 := hT.next _ hi2 (by omega)
        rw [of_ok hT hi2 hk, bsome, if_pos (len_ok h4), decide_eq_false (by simp [hk, h4]), if_neg ff]
        obtain ⟨v, _, h1, _, _, h3, _, h5⟩ := digits_s (y := ((⟨l, T, ((i + 1 + 1 : Nat) : Int), 0⟩ : state_reader), T[i + 1].Text)) (y' := T[i + 1]) rfl h4 T[i + 1].Text.length 0 0 (by simp) (by omega)
        rw [show ((0 : Nat) : Int) = 0 from rfl] at h1 h3
        rw [h1, bsome, h3, bsome, wS (by omega)]
        exact ⟨i + 1 + 1, 0, _, _, rfl, rfl, hi3, fun _ => by congr 1; omega⟩
      · rw [of_no hT hi2 hk, bsome, if_pos nilOk, decide_eq_true (by simp [hk]), if_pos tt]
        rw [n1, bsome]
        exact ⟨i + 1, 4, _, _, rfl, rfl, hi2, fun h => by cases h⟩
    · rw [if_pos (show (T[i + 1].Text.length : Int) > 4 by omega), fail_s hT, bsome, if_pos rfl, of_bad hT hi2 (by decide), bsome, if_pos nilOk, decide_eq_true (by simp [h4]), if_pos tt]
      rw [n0, bsome]
      exact ⟨i + 1, 4, _, _, rfl, rfl, hi2, fun h => by cases h⟩
  | false =>
    rw [if_neg ff, if_neg ff]
    show ∃ (j : Nat) (e v m : Int), (if (T[i].Text.length : Int) > 4 then (state_reader_fail.f (⟨l, T, (i : Int), 0⟩ : state_reader) 4 >>= _) else (state_reader_of.f (⟨l, T, (i : Int), 0⟩ : state_reader) 2 >>= _)) = _ ∧ _
    rw [bsome]
    show ∃ (j : Nat) (e v m : Int), _ ∧ (((if T[i].Kind = 2 then (some (decide ((T[i].Text.length : Int) > 4))) else (some true) : Option Bool)) >>= _) = _ ∧ _
    rw [k2, bsome]
    obtain ⟨v0, n0, n1, n2, n3, _⟩ := digits_s (y := ((⟨l, T, (i : Int), 4⟩ : state_reader), ([] : Str))) (y' := ⟨0, [], 0⟩) rfl (by simp) 0 0 0 (by simp) (by omega)
    rw [show ((0 : Nat) : Int) = 0 from rfl] at n2 n3
    by_cases h4 : T[i].Text.length ≤ 4
    · rw [if_neg (show ¬ (T[i].Text.length : Int) > 4 by omega)]
      by_cases hk : T[i].Kind = 2
      · have hi3 := hT.next _ hi (by omega)
        rw [of_ok hT hi hk, bsome, if_pos (len_ok h4), decide_eq_false (by simp [hk, h4]), if_neg ff]
        obtain ⟨v, _, _, _, h1, _, h3, h5⟩ := digits_s (y := ((⟨l, T, ((i + 1 : Nat) : Int), 0⟩ : state_reader), T[i].Text)) (y' := T[i]) rfl h4 T[i].Text.length 0 0 (by simp) (by omega)
        rw [show ((0 : Nat) : Int) = 0 from rfl] at h1 h3
        rw [h1, bsome, h3, bsome, wS (by omega)]
        exact ⟨i + 1, 0, _, _, rfl, rfl, hi3, fun _ => by rw [wrapZ (by omega) (by omega)]; omega⟩
      · rw [of_no hT hi hk, bsome, if_pos nilOk, decide_eq_true (by simp [hk]), if_pos tt]
        rw [n3, bsome]
        exact ⟨i, 4, _, _, rfl, rfl, hi, fun h => by cases h⟩
    · rw [if_pos (show (T[i].Text.length : Int) > 4 by omega), fail_s hT, bsome, if_pos rfl, of_bad hT hi (by decide), bsome, if_pos nilOk, decide_eq_true (by simp [h4]), if_pos tt]
      rw [n2, bsome]
      exact ⟨i, 4, _, _, rfl, rfl, hi, fun h => by cases h⟩
theorem num_e {i : Nat} (hi : i < T.length) {e : Int} (he : e ≠ 0) : ∃ v, state_reader_number.f ⟨l, T, (i : Int), e⟩ = some (⟨l, T, (i : Int), e⟩, v) := by
  unfold state_reader_number.f
  rw [is_p hT hi, bsome, sB_bad he, if_neg ff]
  show ∃ v, (lAt T (i : Int) >>= fun y3 => if (y3.Text.length : Int) > 4 then (state_reader_fail.f (⟨l, T, (i : Int), e⟩ : state_reader) 4 >>= _) else (state_reader_of.f (⟨l, T, (i : Int), e⟩ : state_reader) 2 >>= _)) = _
  rw [lAt_some hi, bsome]
  obtain ⟨v0, n0, n1, n2, n3, _⟩ := digits_s (y := ((⟨l, T, (i : Int), e⟩ : state_reader), ([] : Str))) (y' := ⟨0, [], 0⟩) rfl (by simp) 0 0 0 (by simp) (by omega)
  rw [show ((0 : Nat) : Int) = 0 from rfl] at n2 n3
  by_cases h4 : (T[i].Text.length : Int) > 4
  · rw [if_pos h4, fail_s hT, bsome, if_neg he, of_bad hT hi he, bsome, if_pos nilOk, n2, bsome]
    exact ⟨_, rfl⟩
  · rw [if_neg h4, of_bad hT hi he, bsome, if_pos nilOk, n3, bsome]
    exact ⟨_, rfl⟩
end
end Go.Proofs.YtkmobcaobmchpaaGreatDoor.St
