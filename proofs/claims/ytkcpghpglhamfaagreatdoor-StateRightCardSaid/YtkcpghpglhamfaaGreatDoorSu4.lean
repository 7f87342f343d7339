/- States: all of the text. -/
import Derived.Test.YtkcpghpglhamfaaGreatDoorSu3
set_option linter.unusedVariables false
set_option linter.unusedSimpArgs false
set_option linter.unusedSectionVars false
namespace Go.Proofs.YtkcpghpglhamfaaGreatDoor.Su
open Go Go.Proofs.YtkcpghpglhamfaaGreatDoor.Ab Go.Proofs.YtkcpghpglhamfaaGreatDoor.ST
noncomputable def pre (l : api_Lattice) (s : api_State) : Str := (([112, 99, 32] : Str) ++ wr l s.Pc.V s.Pc.L) ++ ([32, 59, 10, 99, 111, 100, 101] : Str)
noncomputable def lnA (l : api_Lattice) (word : Str) (x : List api_Atom) : Str := cum word (tA l x) ++ ([32, 59, 10] : Str)
noncomputable def lnS (l : api_Lattice) (x : List api_Slot) : Str := cum ([115, 116, 97, 99, 107] : Str) (tS l x) ++ ([32, 59, 10] : Str)
noncomputable def prg (l : api_Lattice) (s : api_State) : Str := if s.Code = [] then [] else ([32] : Str) ++ txt l s.Code
noncomputable def stT (l : api_Lattice) (s : api_State) : Str := ((((pre l s ++ prg l s) ++ ([10] : Str)) ++ lnA l [109, 101, 109] s.Mem) ++ lnS l s.Stack) ++ lnA l [111, 117, 116] s.Out
structure Fine (l : api_Lattice) (s : api_State) : Prop where
  nm : ∀ s ∈ l.Names, s.length ≤ 1000
  code : rightB (l.Up.length : Int) s.Code = true
  cl : s.Code.length ≤ 12
  pc : Aok l s.Pc.V s.Pc.L
  mem : ∀ a ∈ s.Mem, Aok l a.V a.L
  ml : s.Mem.length ≤ 6
  stack : ∀ a ∈ s.Stack, Aok l a.V a.L
  sl : s.Stack.length ≤ 12
  out : ∀ a ∈ s.Out, Aok l a.V a.L
  ol : s.Out.length ≤ 8
  tl : (txt l s.Code).length ≤ 13212
  tn : txt l s.Code = [] ↔ s.Code = []
theorem aok_of {l : api_Lattice} (hn : l.Names.length = l.Up.length) {v a : Int} (hv : -20 ≤ v ∧ v ≤ 20) (ha : labB (l.Up.length : Int) a = true) : Aok l v a := by
  unfold labB at ha
  have := of_decide_eq_true ha
  exact ⟨hv.1, hv.2, this.1, by omega⟩
theorem fine {l : api_Lattice} {U : List Nat} (h : Nm l U) (hc : chk l U = 0) {s : api_State} (hr : rightS (l.Up.length : Int) s = true) : Fine l s := by
  unfold rightS at hr
  simp only [Bool.and_eq_true] at hr
  obtain ⟨⟨⟨⟨⟨⟨h1, h2⟩, h3⟩, ⟨h4, h5⟩, h6⟩, h7⟩, h8⟩, h9⟩ := hr
  obtain ⟨c1, c2, c3⟩ := oks h hc h1
  have hm : May l U := by
    unfold chk at hc
    by_cases q : May l U
    · exact q
    · rw [if_pos q] at hc; cases hc
  have hn : l.Names.length = l.Up.length := by rw [hm.nm, h.n]
  have hp : ∀ v, plaB v = true → -20 ≤ v ∧ v ≤ 20 := by
    intro v hv
    unfold plaB at hv
    have := of_decide_eq_true hv
    omega
  have hv : ∀ v, valB v = true → -20 ≤ v ∧ v ≤ 20 := by
    intro v hv
    unfold valB at hv
    have := of_decide_eq_true hv
    omega
  have hA : ∀ x : List api_Atom, x.all (okA (l.Up.length : Int)) = true → ∀ a ∈ x, Aok l a.V a.L := by
    intro x hx a ha
    have := List.all_eq_true.1 hx a ha
    unfold okA at this
    rw [Bool.and_eq_true] at this
    exact aok_of hn (hv _ this.1) this.2
  refine ⟨c3, h1, c1, aok_of hn (hp _ h2) h3, hA _ h7, of_decide_eq_true h4, ?_, of_decide_eq_true h5, hA _ h9, of_decide_eq_true h6, txt_len c3 c2 c1, ?_, ?_⟩
  · intro a ha
    have := List.all_eq_true.1 h8 a ha
    unfold okS at this
    rw [Bool.and_eq_true] at this
    refine aok_of hn ?_ this.1
    have t := this.2
    split at t
    · exact hp _ t
    · exact hv _ t
  · intro q
    by_cases k : s.Code = []
    · exact k
    · exfalso
      unfold txt at q
      refine join_ne (xs := s.Code.map (txi l)) (by simpa using k) ?_ q
      intro t ht
      obtain ⟨x, _, rfl⟩ := List.mem_map.1 ht
      unfold txi
      simp
  · intro q
    unfold txt
    rw [q]; rfl
theorem cumA_len {l : api_Lattice} (hN : ∀ s ∈ l.Names, s.length ≤ 1000) {word : Str} (hw : word.length ≤ 100) {x : List api_Atom} (hx : ∀ a ∈ x, Aok l a.V a.L) (hl : x.length ≤ 100) : (lnA l word x).length ≤ 200000 := by
  have h1 := cum_len (base := word) (tA_len hN hx)
  have h2 : (tA l x).length ≤ 100 := by unfold tA; rw [List.length_map]; omega
  have h3 := Nat.mul_le_mul_right 1014 h2
  unfold lnA
  rw [List.length_append, show ([32, 59, 10] : Str).length = 3 from rfl]
  omega
theorem cumS_len {l : api_Lattice} (hN : ∀ s ∈ l.Names, s.length ≤ 1000) {x : List api_Slot} (hx : ∀ a ∈ x, Aok l a.V a.L) (hl : x.length ≤ 100) : (lnS l x).length ≤ 200000 := by
  have h1 := cum_len (base := ([115, 116, 97, 99, 107] : Str)) (tS_len hN hx)
  have h2 : (tS l x).length ≤ 100 := by unfold tS; rw [List.length_map]; omega
  have h3 := Nat.mul_le_mul_right 1014 h2
  unfold lnS
  rw [List.length_append, show ([32, 59, 10] : Str).length = 3 from rfl]
  rw [show ([115, 116, 97, 99, 107] : Str).length = 5 from rfl] at h1
  omega
theorem text_s {l : api_Lattice} {U : List Nat} (h : Nm l U) (hc : chk l U = 0) {s : api_State} (z : Sz s) : state_Text.f l s = some (if rightS (l.Up.length : Int) s = true then (stT l s, 0) else ([], 1)) := by
  unfold state_Text.f
  rw [check_eq h, bsome, if_pos hc, right_s h hc z, bsome]
  cases hr : rightS (l.Up.length : Int) s with
  | false => rfl
  | true =>
    have F := fine h hc hr
    rw [if_neg (by decide), if_pos rfl, text_p h (by have := F.cl; omega), bsome, if_pos hc, if_pos F.code]
    obtain ⟨s0, s1⟩ := stack_p F.nm F.stack (by have := F.sl; omega)
    have hw := wr_len F.nm F.pc
    have hM := cumA_len F.nm (word := [109, 101, 109]) (by decide) F.mem (by have := F.ml; omega)
    have hO := cumA_len F.nm (word := [111, 117, 116]) (by decide) F.out (by have := F.ol; omega)
    have hS := cumS_len F.nm F.stack (by have := F.sl; omega)
    have l1 : state_line.f ([109, 101, 109] : Str) (tA l s.Mem) = some (lnA l [109, 101, 109] s.Mem) := line_p F.nm (by decide) (by unfold tA; rw [List.length_map]; have := F.ml; omega) (tA_len F.nm F.mem)
    have l2 : state_line.f ([115, 116, 97, 99, 107] : Str) (tS l s.Stack) = some (lnS l s.Stack) := line_p F.nm (by decide) (by unfold tS; rw [List.length_map]; have := F.sl; omega) (tS_len F.nm F.stack)
    have l3 : state_line.f ([111, 117, 116] : Str) (tA l s.Out) = some (lnA l [111, 117, 116] s.Out) := line_p F.nm (by decide) (by unfold tA; rw [List.length_map]; have := F.ol; omega) (tA_len F.nm F.out)
    have a1 := atoms_p F.nm F.mem (by have := F.ml; omega)
    have a2 := atoms_p F.nm F.out (by have := F.ol; omega)
    have hy1 : (txt l s.Code, (0 : Int)).1 = txt l s.Code := rfl
    have hyl : (txt l s.Code, (0 : Int)).1.length ≤ 13212 := F.tl
    generalize (txt l s.Code, (0 : Int)) = y at hy1 hyl ⊢
    have hst : stT l s = ((((((([112, 99, 32] : Str) ++ wr l s.Pc.V s.Pc.L) ++ ([32, 59, 10, 99, 111, 100, 101] : Str)) ++ prg l s) ++ ([10] : Str)) ++ lnA l [109, 101, 109] s.Mem) ++ lnS l s.Stack) ++ lnA l [111, 117, 116] s.Out := rfl
    rw [hst]
    generalize lnA l [109, 101, 109] s.Mem = M at *
    generalize lnS l s.Stack = S at *
    generalize lnA l [111, 117, 116] s.Out = O at *
    by_cases hk : s.Code = []
    · have hp : prg l s = y.1 := by unfold prg; rw [if_pos hk, hy1, F.tn.2 hk]
      rw [hp]
      rw [if_pos (show y.1 = ([] : Str) by rw [hy1]; exact F.tn.2 hk), s0, bsome, written_p F.nm F.pc, bsome]
      generalize wr l s.Pc.V s.Pc.L = W at *
      rw [if_pos (by simp only [List.length_append, List.length_cons, List.length_nil]; omega), if_pos (by simp only [List.length_append, List.length_cons, List.length_nil]; omega), if_pos (by simp only [List.length_append, List.length_cons, List.length_nil]; omega), if_pos (by simp only [List.length_append, List.length_cons, List.length_nil]; omega)]
      show (state_Text_1.f s.Mem l >>= _) = _
      rw [a1, bsome, l1, bsome, if_pos (by simp only [List.length_append, List.length_cons, List.length_nil]; omega), l2, bsome, if_pos (by simp only [List.length_append, List.length_cons, List.length_nil]; omega)]
      show (state_Text_1.f s.Out l >>= _) = _
      rw [a2, bsome, l3, bsome, if_pos (by simp only [List.length_append, List.length_cons, List.length_nil]; omega)]
    · have hp : prg l s = ([32] : Str) ++ y.1 := by unfold prg; rw [if_neg hk, hy1]
      rw [hp]
      rw [if_neg (show ¬ y.1 = ([] : Str) by rw [hy1]; exact fun q => hk (F.tn.1 q)), if_pos (by simp only [List.length_cons, List.length_nil]; omega), s1, bsome, written_p F.nm F.pc, bsome]
      generalize wr l s.Pc.V s.Pc.L = W at *
      rw [if_pos (by simp only [List.length_append, List.length_cons, List.length_nil]; omega), if_pos (by simp only [List.length_append, List.length_cons, List.length_nil]; omega), if_pos (by simp only [List.length_append, List.length_cons, List.length_nil]; omega), if_pos (by simp only [List.length_append, List.length_cons, List.length_nil]; omega)]
      show (state_Text_1.f s.Mem l >>= _) = _
      rw [a1, bsome, l1, bsome, if_pos (by simp only [List.length_append, List.length_cons, List.length_nil]; omega), l2, bsome, if_pos (by simp only [List.length_append, List.length_cons, List.length_nil]; omega)]
      show (state_Text_1.f s.Out l >>= _) = _
      rw [a2, bsome, l3, bsome, if_pos (by simp only [List.length_append, List.length_cons, List.length_nil]; omega)]
end Go.Proofs.YtkcpghpglhamfaaGreatDoor.Su
