/- Pure functions with fuel: the kernel runs them. -/
import Derived.Test.YtjkijjhjffodcaaDoorDTN
set_option linter.unusedVariables false
namespace Go.Proofs.YtjkijjhjffodcaaDoor.TN
open Go Go.Proofs.YtjkijjhjffodcaaDoor.Ab
def LeO {α : Type} (a b : Option α) : Prop := ∀ r, a = some r → b = some r
theorem leR {α : Type} {a : Option α} : LeO a a := fun _ h => h
theorem leN {α : Type} {a : Option α} : LeO none a := fun _ h => by cases h
theorem leB {α β : Type} {a b : Option α} {f g : α → Option β} (h : LeO a b) (k : ∀ y, LeO (f y) (g y)) : LeO (a >>= f) (b >>= g) := fun r e => by
  cases a with
  | none => cases e
  | some y => rw [h y rfl]; exact k y r e
theorem leI {α : Type} {p : Prop} [Decidable p] {a b c d : Option α} (h : LeO a b) (k : LeO c d) : LeO (if p then a else c) (if p then b else d) := by
  by_cases q : p
  · rw [if_pos q, if_pos q]; exact h
  · rw [if_neg q, if_neg q]; exact k

def table_Usual.f_g (k : Nat) : Option api_Table := some (⟨([(⟨([1] : List Int), ([6] : List Int), ([8] : List Int)⟩ : api_Row), (⟨([1] : List Int), ([9] : List Int), ([8] : List Int)⟩ : api_Row), (⟨([1] : List Int), ([6] : List Int), ([8] : List Int)⟩ : api_Row), (⟨([1] : List Int), ([9, 10, 12] : List Int), ([8] : List Int)⟩ : api_Row), (⟨([1] : List Int), ([9, 10, 12] : List Int), ([8] : List Int)⟩ : api_Row), (⟨([1] : List Int), ([9, 10, 12] : List Int), ([8] : List Int)⟩ : api_Row), (⟨([9, 8, 12, 11, 5] : List Int), ([9, 10, 12, 8, 12] : List Int), ([8] : List Int)⟩ : api_Row), (⟨([1] : List Int), ([6] : List Int), ([9, 8, 12] : List Int)⟩ : api_Row), (⟨([1] : List Int), ([6] : List Int), ([9, 8, 12] : List Int)⟩ : api_Row), (⟨([1] : List Int), ([6] : List Int), ([9, 8, 12] : List Int)⟩ : api_Row), (⟨([1] : List Int), ([9, 8, 12] : List Int), ([10] : List Int)⟩ : api_Row), (⟨([1] : List Int), ([9, 8, 12] : List Int), ([8] : List Int)⟩ : api_Row), (⟨([1] : List Int), ([6] : List Int), ([8] : List Int)⟩ : api_Row)] : List api_Row)⟩ : api_Table)
theorem table_Usual.f_le (k : Nat) : LeO (table_Usual.f_g k ) (table_Usual.f ) := by
  unfold table_Usual.f_g table_Usual.f
  exact leR
def reticentref03_letter.f_g (k : Nat) (a0 : Int) : Option Bool := ((if a0 ≥ 97 then (some (decide (a0 ≤ 122))) else (some false) : Option Bool) >>= fun x2 => some x2)
theorem reticentref03_letter.f_le (k : Nat) (a0 : Int) : LeO (reticentref03_letter.f_g k a0) (reticentref03_letter.f a0) := by
  unfold reticentref03_letter.f_g reticentref03_letter.f
  exact (leB (leI leR leR) (fun x2 => leR))
def reticentref03_digit.f_g (k : Nat) (a0 : Int) : Option Bool := ((if a0 ≥ 48 then (some (decide (a0 ≤ 57))) else (some false) : Option Bool) >>= fun x2 => some x2)
theorem reticentref03_digit.f_le (k : Nat) (a0 : Int) : LeO (reticentref03_digit.f_g k a0) (reticentref03_digit.f a0) := by
  unfold reticentref03_digit.f_g reticentref03_digit.f
  exact (leB (leI leR leR) (fun x2 => leR))
def reticentref03_mark.l0_g : Nat → (a0 : Int) → (v7 : Int) → Option (Bool ⊕ Unit)
  | 0 => fun _ _ => none
  | k + 1 => fun a0 v7 => if v7 < (([40, 41, 91, 93, 59, 58, 44, 60, 62, 64, 45, 61] : List Int).length : Int) then (lAt ([40, 41, 91, 93, 59, 58, 44, 60, 62, 64, 45, 61] : List Int) v7 >>= fun y9 => if a0 = y9 then (some (.inl true)) else ((reticentref03_mark.l0_g k) a0 (IntKind.i64.wrap (v7 + 1)))) else (some (.inr ()))
theorem reticentref03_mark.l0_le : ∀ (k : Nat) (a0 : Int) (v7 : Int) , LeO (reticentref03_mark.l0_g k a0 v7) (reticentref03_mark.l0 a0 v7) := by
  intro k
  induction k with
  | zero => intros; exact leN
  | succ k ih =>
    intro a0 v7
    rw [reticentref03_mark.l0]
    exact (leI (leB leR (fun y9 => (leI leR (ih _ _)))) leR)
def reticentref03_mark.f_g (k : Nat) (a0 : Int) : Option Bool := ((reticentref03_mark.l0_g k) a0 0 >>= fun o => match o with | .inl r => some r | .inr () => some false)
theorem reticentref03_mark.f_le (k : Nat) (a0 : Int) : LeO (reticentref03_mark.f_g k a0) (reticentref03_mark.f a0) := by
  unfold reticentref03_mark.f_g reticentref03_mark.f
  exact (leB (reticentref03_mark.l0_le k _ _) (fun o => (match o with | .inl r => leR | .inr () => leR)))
def reticentref03_end.l0_g : Nat → (a0 : Str) → (v20 : Int) → Option Int
  | 0 => fun _ _ => none
  | k + 1 => fun a0 v20 => ((if v20 < (a0.length : Int) then (if (0 : Int) ≤ v20 ∧ v20 < (a0.length : Int) then ((reticentref03_letter.f_g k) (sAt a0 v20) >>= fun y28 => some y28) else none) else (some false) : Option Bool) >>= fun x25 => if x25 = true then ((reticentref03_end.l0_g k) a0 (IntKind.i64.wrap (v20 + 1))) else (some v20))
theorem reticentref03_end.l0_le : ∀ (k : Nat) (a0 : Str) (v20 : Int) , LeO (reticentref03_end.l0_g k a0 v20) (reticentref03_end.l0 a0 v20) := by
  intro k
  induction k with
  | zero => intros; exact leN
  | succ k ih =>
    intro a0 v20
    rw [reticentref03_end.l0]
    exact (leB (leI (leI (leB (reticentref03_letter.f_le k _) (fun y28 => leR)) leR) leR) (fun x25 => (leI (ih _ _) leR)))
def reticentref03_end.l1_g : Nat → (a0 : Str) → (v49 : Int) → Option Int
  | 0 => fun _ _ => none
  | k + 1 => fun a0 v49 => ((if v49 < (a0.length : Int) then (if (0 : Int) ≤ v49 ∧ v49 < (a0.length : Int) then ((reticentref03_digit.f_g k) (sAt a0 v49) >>= fun y57 => some y57) else none) else (some false) : Option Bool) >>= fun x54 => if x54 = true then ((reticentref03_end.l1_g k) a0 (IntKind.i64.wrap (v49 + 1))) else (some v49))
theorem reticentref03_end.l1_le : ∀ (k : Nat) (a0 : Str) (v49 : Int) , LeO (reticentref03_end.l1_g k a0 v49) (reticentref03_end.l1 a0 v49) := by
  intro k
  induction k with
  | zero => intros; exact leN
  | succ k ih =>
    intro a0 v49
    rw [reticentref03_end.l1]
    exact (leB (leI (leI (leB (reticentref03_digit.f_le k _) (fun y57 => leR)) leR) leR) (fun x54 => (leI (ih _ _) leR)))
def reticentref03_end.f_g (k : Nat) (a0 : Str) (a1 : Int) : Option Int := if (0 : Int) ≤ a1 ∧ a1 < (a0.length : Int) then ((reticentref03_letter.f_g k) (sAt a0 a1) >>= fun y2 => if y2 = true then (((reticentref03_end.l0_g k) a0 a1 >>= fun x21 => some x21)) else (if (0 : Int) ≤ a1 ∧ a1 < (a0.length : Int) then ((reticentref03_digit.f_g k) (sAt a0 a1) >>= fun y31 => if y31 = true then (((reticentref03_end.l1_g k) a0 a1 >>= fun x50 => some x50)) else (((if (0 : Int) ≤ a1 ∧ a1 < (a0.length : Int) then (if sAt a0 a1 = 60 then (if IntKind.i64.wrap (a1 + 1) < (a0.length : Int) then (if (0 : Int) ≤ IntKind.i64.wrap (a1 + 1) ∧ IntKind.i64.wrap (a1 + 1) < (a0.length : Int) then (some (decide (sAt a0 (IntKind.i64.wrap (a1 + 1)) = 61))) else none) else (some false)) else (some false)) else none : Option Bool) >>= fun x63 => if x63 = true then (some (IntKind.i64.wrap (a1 + 2))) else (if (0 : Int) ≤ a1 ∧ a1 < (a0.length : Int) then ((reticentref03_mark.f_g k) (sAt a0 a1) >>= fun y70 => if y70 = true then (some (IntKind.i64.wrap (a1 + 1))) else (some a1)) else none)))) else none)) else none
theorem reticentref03_end.f_le (k : Nat) (a0 : Str) (a1 : Int) : LeO (reticentref03_end.f_g k a0 a1) (reticentref03_end.f a0 a1) := by
  unfold reticentref03_end.f_g reticentref03_end.f
  exact (leI (leB (reticentref03_letter.f_le k _) (fun y2 => (leI (leB (reticentref03_end.l0_le k _ _) (fun x21 => leR)) (leI (leB (reticentref03_digit.f_le k _) (fun y31 => (leI (leB (reticentref03_end.l1_le k _ _) (fun x50 => leR)) (leB (leI (leI (leI (leI leR leR) leR) leR) leR) (fun x63 => (leI leR (leI (leB (reticentref03_mark.f_le k _) (fun y70 => (leI leR leR))) leR))))))) leR)))) leR)
def reticentref03_kind.f_g (k : Nat) (a0 : Int) : Option Int := (reticentref03_letter.f_g k) a0 >>= fun y1 => if y1 = true then (some 1) else ((reticentref03_digit.f_g k) a0 >>= fun y3 => if y3 = true then (some 2) else (some 3))
theorem reticentref03_kind.f_le (k : Nat) (a0 : Int) : LeO (reticentref03_kind.f_g k a0) (reticentref03_kind.f a0) := by
  unfold reticentref03_kind.f_g reticentref03_kind.f
  exact (leB (reticentref03_letter.f_le k _) (fun y1 => (leI leR (leB (reticentref03_digit.f_le k _) (fun y3 => (leI leR leR))))))
def reticentref03_Lex.l6_g : Nat → (a0 : Str) → (v240 : Int) → Option Int
  | 0 => fun _ _ => none
  | k + 1 => fun a0 v240 => ((if v240 < (a0.length : Int) then (if (0 : Int) ≤ v240 ∧ v240 < (a0.length : Int) then (some (!decide (sAt a0 v240 = 10))) else none) else (some false) : Option Bool) >>= fun x244 => if x244 = true then ((reticentref03_Lex.l6_g k) a0 (IntKind.i64.wrap (v240 + 1))) else (some v240))
theorem reticentref03_Lex.l6_le : ∀ (k : Nat) (a0 : Str) (v240 : Int) , LeO (reticentref03_Lex.l6_g k a0 v240) (reticentref03_Lex.l6 a0 v240) := by
  intro k
  induction k with
  | zero => intros; exact leN
  | succ k ih =>
    intro a0 v240
    rw [reticentref03_Lex.l6]
    exact (leB (leI (leI leR leR) leR) (fun x244 => (leI (ih _ _) leR)))
def reticentref03_Lex.l4_g : Nat → (a0 : Str) → (v168 : List api_Tok) → (v169 : Int) → Option (reticentref03_R ⊕ (List api_Tok))
  | 0 => fun _ _ _ => none
  | k + 1 => fun a0 v168 v169 => if v169 < (a0.length : Int) then (((((if (0 : Int) ≤ v169 ∧ v169 < (a0.length : Int) then (if sAt a0 v169 = 9 then (some true) else (if (0 : Int) ≤ v169 ∧ v169 < (a0.length : Int) then (if sAt a0 v169 = 10 then (some true) else (if (0 : Int) ≤ v169 ∧ v169 < (a0.length : Int) then (some (decide (sAt a0 v169 = 32))) else none)) else none)) else none : Option Bool) >>= fun x219 => if x219 = true then (some (.inr (v168, IntKind.i64.wrap (v169 + 1)))) else (if (0 : Int) ≤ v169 ∧ v169 < (a0.length : Int) then (if sAt a0 v169 = 35 then (((reticentref03_Lex.l6_g k) a0 v169 >>= fun x241 => some (.inr (v168, x241)))) else ((reticentref03_end.f_g k) a0 v169 >>= fun y248 => if y248 = v169 then (some (.inl (⟨[], v169, 4⟩ : reticentref03_R))) else (if (0 : Int) ≤ v169 ∧ v169 < (a0.length : Int) then ((reticentref03_kind.f_g k) (sAt a0 v169) >>= fun y251 => if (0 : Int) ≤ v169 ∧ v169 ≤ y248 ∧ y248 ≤ (a0.length : Int) then (if (v168.length + ([(⟨y251, sCut a0 v169 y248, v169⟩ : api_Tok)] : List api_Tok).length) * 32 ≤ big then (some (.inr (v168 ++ ([(⟨y251, sCut a0 v169 y248, v169⟩ : api_Tok)] : List api_Tok), y248))) else none) else none) else none))) else none)) : Option (reticentref03_R ⊕ ((List api_Tok) × Int))) >>= fun o => match o with | .inl r => some (.inl r) | .inr (x212, x213) => (reticentref03_Lex.l4_g k) a0 x212 x213)) else (some (.inr v168))
theorem reticentref03_Lex.l4_le : ∀ (k : Nat) (a0 : Str) (v168 : List api_Tok) (v169 : Int) , LeO (reticentref03_Lex.l4_g k a0 v168 v169) (reticentref03_Lex.l4 a0 v168 v169) := by
  intro k
  induction k with
  | zero => intros; exact leN
  | succ k ih =>
    intro a0 v168 v169
    rw [reticentref03_Lex.l4]
    exact (leI (leB (leB (leI (leI leR (leI (leI leR (leI leR leR)) leR)) leR) (fun x219 => (leI leR (leI (leI (leB (reticentref03_Lex.l6_le k _ _) (fun x241 => leR)) (leB (reticentref03_end.f_le k _ _) (fun y248 => (leI leR (leI (leB (reticentref03_kind.f_le k _) (fun y251 => (leI (leI leR leR) leR))) leR))))) leR)))) (fun o => (match o with | .inl r => leR | .inr (x212, x213) => (ih _ _ _)))) leR)
def reticentref03_Lex.f_g (k : Nat) (a0 : Str) : Option reticentref03_R := if (a0.length : Int) > 2000 then (some (⟨[], 0, 8⟩ : reticentref03_R)) else (((reticentref03_Lex.l4_g k) a0 ([] : List api_Tok) 0 >>= fun o => match o with | .inl r => some r | .inr x170 => if (x170.length + ([(⟨0, [], (a0.length : Int)⟩ : api_Tok)] : List api_Tok).length) * 32 ≤ big then (if ((x170 ++ ([(⟨0, [], (a0.length : Int)⟩ : api_Tok)] : List api_Tok)).length : Int) > 200 then (some (⟨[], 0, 8⟩ : reticentref03_R)) else (some (⟨x170 ++ ([(⟨0, [], (a0.length : Int)⟩ : api_Tok)] : List api_Tok), 0, 0⟩ : reticentref03_R))) else none))
theorem reticentref03_Lex.f_le (k : Nat) (a0 : Str) : LeO (reticentref03_Lex.f_g k a0) (reticentref03_Lex.f a0) := by
  unfold reticentref03_Lex.f_g reticentref03_Lex.f
  exact (leI leR (leB (reticentref03_Lex.l4_le k _ _ _) (fun o => (match o with | .inl r => leR | .inr x170 => (leI (leI leR leR) leR)))))
def reticentref06_Word.f_g (k : Nat) (a0 : Int) : Option Str := lAt ([([110, 111, 111, 112] : Str), ([112, 117, 115, 104] : Str), ([112, 111, 112] : Str), ([97, 100, 100] : Str), ([115, 117, 98] : Str), ([108, 111, 97, 100] : Str), ([115, 116, 111, 114, 101] : Str), ([106, 117, 109, 112] : Str), ([98, 110, 122] : Str), ([99, 97, 108, 108] : Str), ([114, 101, 116, 117, 114, 110] : Str), ([111, 117, 116, 112, 117, 116] : Str), ([104, 97, 108, 116] : Str)] : List Str) a0 >>= fun y1 => some y1
theorem reticentref06_Word.f_le (k : Nat) (a0 : Int) : LeO (reticentref06_Word.f_g k a0) (reticentref06_Word.f a0) := by
  unfold reticentref06_Word.f_g reticentref06_Word.f
  exact (leB leR (fun y1 => leR))
def reticentref06_Op.l0_g : Nat → (a0 : Str) → (v7 : Int) → Option (Int ⊕ Unit)
  | 0 => fun _ _ => none
  | k + 1 => fun a0 v7 => if v7 < 13 then ((reticentref06_Word.f_g k) v7 >>= fun y9 => if y9 = a0 then (some (.inl v7)) else ((reticentref06_Op.l0_g k) a0 (IntKind.i64.wrap (v7 + 1)))) else (some (.inr ()))
theorem reticentref06_Op.l0_le : ∀ (k : Nat) (a0 : Str) (v7 : Int) , LeO (reticentref06_Op.l0_g k a0 v7) (reticentref06_Op.l0 a0 v7) := by
  intro k
  induction k with
  | zero => intros; exact leN
  | succ k ih =>
    intro a0 v7
    rw [reticentref06_Op.l0]
    exact (leI (leB (reticentref06_Word.f_le k _) (fun y9 => (leI leR (ih _ _)))) leR)
def reticentref06_Op.f_g (k : Nat) (a0 : Str) : Option Int := ((reticentref06_Op.l0_g k) a0 0 >>= fun o => match o with | .inl r => some r | .inr () => some (-1))
theorem reticentref06_Op.f_le (k : Nat) (a0 : Str) : LeO (reticentref06_Op.f_g k a0) (reticentref06_Op.f a0) := by
  unfold reticentref06_Op.f_g reticentref06_Op.f
  exact (leB (reticentref06_Op.l0_le k _ _) (fun o => (match o with | .inl r => leR | .inr () => leR)))
def reticentref06_mark.f_g (k : Nat) (a0 : List api_Tok) (a1 : reticentref06_P) (a2 : Str) : Option reticentref06_P := if a1.E = 0 then (((lAt a0 a1.I >>= fun y6 => if y6.Kind = 3 then (lAt a0 a1.I >>= fun y8 => some (!decide (y8.Text = a2))) else (some true) : Option Bool) >>= fun x5 => if x5 = true then (some (⟨a1.I, a1.R, 4⟩ : reticentref06_P)) else (some (⟨IntKind.i64.wrap (a1.I + 1), a1.R, a1.E⟩ : reticentref06_P)))) else (some a1)
theorem reticentref06_mark.f_le (k : Nat) (a0 : List api_Tok) (a1 : reticentref06_P) (a2 : Str) : LeO (reticentref06_mark.f_g k a0 a1 a2) (reticentref06_mark.f a0 a1 a2) := by
  unfold reticentref06_mark.f_g reticentref06_mark.f
  exact (leI (leB (leB leR (fun y6 => (leI (leB leR (fun y8 => leR)) leR))) (fun x5 => (leI leR leR))) leR)
def reticentref04_here.f_g (k : Nat) (a0 : reticentref04_P) (a1 : Str) : Option Bool := lAt a0.L a0.I >>= fun y1 => ((if a0.E = 0 then (if y1.Kind = 1 then (some (decide (y1.Text = a1))) else (if y1.Kind = 3 then (some (decide (y1.Text = a1))) else (some false))) else (some false) : Option Bool) >>= fun x5 => some x5)
theorem reticentref04_here.f_le (k : Nat) (a0 : reticentref04_P) (a1 : Str) : LeO (reticentref04_here.f_g k a0 a1) (reticentref04_here.f a0 a1) := by
  unfold reticentref04_here.f_g reticentref04_here.f
  exact (leB leR (fun y1 => (leB (leI (leI leR (leI leR leR)) leR) (fun x5 => leR))))
def reticentref04_next.f_g (k : Nat) (a0 : reticentref04_P) : Option reticentref04_P := if IntKind.i64.wrap (a0.I + 1) < (a0.L.length : Int) then (some (⟨a0.L, IntKind.i64.wrap (a0.I + 1), a0.Out, a0.Deep, a0.E⟩ : reticentref04_P)) else (some a0)
theorem reticentref04_next.f_le (k : Nat) (a0 : reticentref04_P) : LeO (reticentref04_next.f_g k a0) (reticentref04_next.f a0) := by
  unfold reticentref04_next.f_g reticentref04_next.f
  exact (leI leR leR)
def reticentref04_fail.f_g (k : Nat) (a0 : reticentref04_P) (a1 : Int) : Option reticentref04_P := if a0.E = 0 then (some (⟨a0.L, a0.I, a0.Out, a0.Deep, a1⟩ : reticentref04_P)) else (some a0)
theorem reticentref04_fail.f_le (k : Nat) (a0 : reticentref04_P) (a1 : Int) : LeO (reticentref04_fail.f_g k a0 a1) (reticentref04_fail.f a0 a1) := by
  unfold reticentref04_fail.f_g reticentref04_fail.f
  exact (leI leR leR)
def reticentref04_put.f_g (k : Nat) (a0 : reticentref04_P) (a1 : Int) : Option reticentref04_P := if a0.E = 0 then (if (a0.Out.length : Int) = 40 then ((reticentref04_fail.f_g k) a0 8 >>= fun y3 => some y3) else (if (([] : List Int).length + a0.Out.length) * 8 ≤ big then (if ((([] : List Int) ++ a0.Out).length + ([a1] : List Int).length) * 8 ≤ big then (some (⟨a0.L, a0.I, (([] : List Int) ++ a0.Out) ++ ([a1] : List Int), a0.Deep, a0.E⟩ : reticentref04_P)) else none) else none)) else (some a0)
theorem reticentref04_put.f_le (k : Nat) (a0 : reticentref04_P) (a1 : Int) : LeO (reticentref04_put.f_g k a0 a1) (reticentref04_put.f a0 a1) := by
  unfold reticentref04_put.f_g reticentref04_put.f
  exact (leI (leI (leB (reticentref04_fail.f_le k _ _) (fun y3 => leR)) (leI (leI leR leR) leR)) leR)
def reticentref04_must.f_g (k : Nat) (a0 : reticentref04_P) (a1 : Str) : Option reticentref04_P := if a0.E = 0 then ((reticentref04_here.f_g k) a0 a1 >>= fun y2 => if (!y2) = true then ((reticentref04_fail.f_g k) a0 4 >>= fun y4 => some y4) else ((reticentref04_next.f_g k) a0 >>= fun y5 => some y5)) else (some a0)
theorem reticentref04_must.f_le (k : Nat) (a0 : reticentref04_P) (a1 : Str) : LeO (reticentref04_must.f_g k a0 a1) (reticentref04_must.f a0 a1) := by
  unfold reticentref04_must.f_g reticentref04_must.f
  exact (leI (leB (reticentref04_here.f_le k _ _) (fun y2 => (leI (leB (reticentref04_fail.f_le k _ _) (fun y4 => leR)) (leB (reticentref04_next.f_le k _) (fun y5 => leR))))) leR)
def reticentref04_inside.f_g (k : Nat) (rc218 : reticentref04_P → Int → Option reticentref04_P) (a0 : reticentref04_P) (a1 : Int) (a2 : Str) : Option reticentref04_P := if a0.Deep = 12 then ((reticentref04_fail.f_g k) a0 5 >>= fun y2 => some y2) else ((reticentref04_next.f_g k) a0 >>= fun y3 => rc218 (⟨y3.L, y3.I, y3.Out, IntKind.i64.wrap (y3.Deep + 1), y3.E⟩ : reticentref04_P) a1 >>= fun y4 => (reticentref04_must.f_g k) (⟨y4.L, y4.I, y4.Out, IntKind.i64.wrap (y4.Deep - 1), y4.E⟩ : reticentref04_P) a2 >>= fun y5 => some y5)
theorem reticentref04_inside.f_le (k : Nat) {rc218_ rc218 : reticentref04_P → Int → Option reticentref04_P} (h_rc218 : ∀ q0 q1, LeO (rc218_ q0 q1) (rc218 q0 q1)) (a0 : reticentref04_P) (a1 : Int) (a2 : Str) : LeO (reticentref04_inside.f_g k rc218_ a0 a1 a2) (reticentref04_inside.f rc218 a0 a1 a2) := by
  unfold reticentref04_inside.f_g reticentref04_inside.f
  exact (leI (leB (reticentref04_fail.f_le k _ _) (fun y2 => leR)) (leB (reticentref04_next.f_le k _) (fun y3 => (leB (h_rc218 _ _) (fun y4 => (leB (reticentref04_must.f_le k _ _) (fun y5 => leR)))))))
def reticentref04_prim.f_g (k : Nat) (rc218 : reticentref04_P → Int → Option reticentref04_P) (a0 : reticentref04_P) : Option reticentref04_P := (reticentref04_here.f_g k) a0 ([116, 114, 117, 101] : Str) >>= fun y1 => if y1 = true then ((reticentref04_next.f_g k) a0 >>= fun y3 => (reticentref04_put.f_g k) y3 1 >>= fun y4 => some y4) else ((reticentref04_here.f_g k) a0 ([102, 97, 108, 115, 101] : Str) >>= fun y5 => if y5 = true then ((reticentref04_next.f_g k) a0 >>= fun y7 => (reticentref04_put.f_g k) y7 2 >>= fun y8 => some y8) else ((reticentref04_here.f_g k) a0 ([40] : Str) >>= fun y9 => if y9 = true then ((reticentref04_inside.f_g k) rc218 a0 0 ([41] : Str) >>= fun y11 => some y11) else (rc218 a0 2 >>= fun y12 => (reticentref04_must.f_g k) y12 ([60, 61] : Str) >>= fun y13 => rc218 y13 2 >>= fun y14 => (reticentref04_put.f_g k) y14 5 >>= fun y15 => some y15)))
theorem reticentref04_prim.f_le (k : Nat) {rc218_ rc218 : reticentref04_P → Int → Option reticentref04_P} (h_rc218 : ∀ q0 q1, LeO (rc218_ q0 q1) (rc218 q0 q1)) (a0 : reticentref04_P) : LeO (reticentref04_prim.f_g k rc218_ a0) (reticentref04_prim.f rc218 a0) := by
  unfold reticentref04_prim.f_g reticentref04_prim.f
  exact (leB (reticentref04_here.f_le k _ _) (fun y1 => (leI (leB (reticentref04_next.f_le k _) (fun y3 => (leB (reticentref04_put.f_le k _ _) (fun y4 => leR)))) (leB (reticentref04_here.f_le k _ _) (fun y5 => (leI (leB (reticentref04_next.f_le k _) (fun y7 => (leB (reticentref04_put.f_le k _ _) (fun y8 => leR)))) (leB (reticentref04_here.f_le k _ _) (fun y9 => (leI (leB (reticentref04_inside.f_le k h_rc218 _ _ _) (fun y11 => leR)) (leB (h_rc218 _ _) (fun y12 => (leB (reticentref04_must.f_le k _ _) (fun y13 => (leB (h_rc218 _ _) (fun y14 => (leB (reticentref04_put.f_le k _ _) (fun y15 => leR)))))))))))))))))
def reticentref04_atom.l0_g : Nat → (a0 : reticentref04_P) → (v26 : Int) → Option (reticentref04_P ⊕ Unit)
  | 0 => fun _ _ => none
  | k + 1 => fun a0 v26 => if v26 < (([([98, 111, 116] : Str), ([116, 111, 112] : Str), ([112, 99] : Str), ([111, 110, 101] : Str), ([116, 119, 111] : Str), ([116, 104, 114, 101, 101] : Str)] : List Str).length : Int) then (lAt ([([98, 111, 116] : Str), ([116, 111, 112] : Str), ([112, 99] : Str), ([111, 110, 101] : Str), ([116, 119, 111] : Str), ([116, 104, 114, 101, 101] : Str)] : List Str) v26 >>= fun y28 => ((lAt a0.L a0.I >>= fun y33 => if y33.Kind = 1 then (lAt a0.L a0.I >>= fun y35 => some (decide (y35.Text = y28))) else (some false) : Option Bool) >>= fun x32 => if x32 = true then ((reticentref04_next.f_g k) a0 >>= fun y37 => (reticentref04_put.f_g k) y37 (IntKind.i64.wrap (6 + v26)) >>= fun y38 => some (.inl y38)) else ((reticentref04_atom.l0_g k) a0 (IntKind.i64.wrap (v26 + 1))))) else (some (.inr ()))
theorem reticentref04_atom.l0_le : ∀ (k : Nat) (a0 : reticentref04_P) (v26 : Int) , LeO (reticentref04_atom.l0_g k a0 v26) (reticentref04_atom.l0 a0 v26) := by
  intro k
  induction k with
  | zero => intros; exact leN
  | succ k ih =>
    intro a0 v26
    rw [reticentref04_atom.l0]
    exact (leI (leB leR (fun y28 => (leB (leB leR (fun y33 => (leI (leB leR (fun y35 => leR)) leR))) (fun x32 => (leI (leB (reticentref04_next.f_le k _) (fun y37 => (leB (reticentref04_put.f_le k _ _) (fun y38 => leR)))) (ih _ _)))))) leR)
def reticentref04_atom.f_g (k : Nat) (rc218 : reticentref04_P → Int → Option reticentref04_P) (a0 : reticentref04_P) : Option reticentref04_P := if a0.E = 0 then (((reticentref04_atom.l0_g k) a0 0 >>= fun o => match o with | .inl r => some r | .inr () => (reticentref04_here.f_g k) a0 ([91] : Str) >>= fun y39 => if y39 = true then ((reticentref04_inside.f_g k) rc218 a0 2 ([93] : Str) >>= fun y41 => some y41) else ((reticentref04_fail.f_g k) a0 4 >>= fun y42 => some y42))) else (some a0)
theorem reticentref04_atom.f_le (k : Nat) {rc218_ rc218 : reticentref04_P → Int → Option reticentref04_P} (h_rc218 : ∀ q0 q1, LeO (rc218_ q0 q1) (rc218 q0 q1)) (a0 : reticentref04_P) : LeO (reticentref04_atom.f_g k rc218_ a0) (reticentref04_atom.f rc218 a0) := by
  unfold reticentref04_atom.f_g reticentref04_atom.f
  exact (leI (leB (reticentref04_atom.l0_le k _ _) (fun o => (match o with | .inl r => leR | .inr () => (leB (reticentref04_here.f_le k _ _) (fun y39 => (leI (leB (reticentref04_inside.f_le k h_rc218 _ _ _) (fun y41 => leR)) (leB (reticentref04_fail.f_le k _ _) (fun y42 => leR)))))))) leR)
def reticentref04_one.f_g (k : Nat) (rc218 : reticentref04_P → Int → Option reticentref04_P) (a0 : reticentref04_P) (a1 : Int) : Option reticentref04_P := if a1 = 0 then (rc218 a0 1 >>= fun y2 => some y2) else (if a1 = 1 then ((reticentref04_prim.f_g k) rc218 a0 >>= fun y4 => some y4) else (if a1 = 2 then (rc218 a0 3 >>= fun y6 => some y6) else ((reticentref04_atom.f_g k) rc218 a0 >>= fun y7 => some y7)))
theorem reticentref04_one.f_le (k : Nat) {rc218_ rc218 : reticentref04_P → Int → Option reticentref04_P} (h_rc218 : ∀ q0 q1, LeO (rc218_ q0 q1) (rc218 q0 q1)) (a0 : reticentref04_P) (a1 : Int) : LeO (reticentref04_one.f_g k rc218_ a0 a1) (reticentref04_one.f rc218 a0 a1) := by
  unfold reticentref04_one.f_g reticentref04_one.f
  exact (leI (leB (h_rc218 _ _) (fun y2 => leR)) (leI (leB (reticentref04_prim.f_le k h_rc218 _) (fun y4 => leR)) (leI (leB (h_rc218 _ _) (fun y6 => leR)) (leB (reticentref04_atom.f_le k h_rc218 _) (fun y7 => leR)))))
def reticentref04_row.l0_g : Nat → (a1 : Int) → (y1 : Str) → (y2 : Int) → (rc218 : reticentref04_P → Int → Option reticentref04_P) → (v14 : List api_Tok) → (v15 : Int) → (v16 : List Int) → (v17 : Int) → (v18 : Int) → Option ((List api_Tok) × Int × (List Int) × Int × Int)
  | 0 => fun _ _ _ _ _ _ _ _ _ => none
  | k + 1 => fun a1 y1 y2 rc218 v14 v15 v16 v17 v18 => (reticentref04_here.f_g k) (⟨v14, v15, v16, v17, v18⟩ : reticentref04_P) y1 >>= fun y24 => if y24 = true then ((reticentref04_next.f_g k) (⟨v14, v15, v16, v17, v18⟩ : reticentref04_P) >>= fun y26 => (reticentref04_one.f_g k) rc218 y26 a1 >>= fun y27 => (reticentref04_put.f_g k) y27 y2 >>= fun y28 => (reticentref04_row.l0_g k) a1 y1 y2 rc218 y28.L y28.I y28.Out y28.Deep y28.E) else (some (v14, v15, v16, v17, v18))
theorem reticentref04_row.l0_le : ∀ (k : Nat) {rc218_ rc218 : reticentref04_P → Int → Option reticentref04_P} (h_rc218 : ∀ q0 q1, LeO (rc218_ q0 q1) (rc218 q0 q1)) (a1 : Int) (y1 : Str) (y2 : Int) (v14 : List api_Tok) (v15 : Int) (v16 : List Int) (v17 : Int) (v18 : Int) , LeO (reticentref04_row.l0_g k a1 y1 y2 rc218_ v14 v15 v16 v17 v18) (reticentref04_row.l0 a1 y1 y2 rc218 v14 v15 v16 v17 v18) := by
  intro k
  induction k with
  | zero => intros; exact leN
  | succ k ih =>
    intro rc218_ rc218 h_rc218 a1 y1 y2 v14 v15 v16 v17 v18
    rw [reticentref04_row.l0]
    exact (leB (reticentref04_here.f_le k _ _) (fun y24 => (leI (leB (reticentref04_next.f_le k _) (fun y26 => (leB (reticentref04_one.f_le k h_rc218 _ _) (fun y27 => (leB (reticentref04_put.f_le k _ _) (fun y28 => (ih h_rc218 _ _ _ _ _ _ _ _))))))) leR)))
def reticentref04_row.B_g (k : Nat) (rc218 : reticentref04_P → Int → Option reticentref04_P) (a0 : reticentref04_P) (a1 : Int) : Option reticentref04_P := lAt ([([111, 114] : Str), ([97, 110, 100] : Str), ([106, 111, 105, 110] : Str), ([109, 101, 101, 116] : Str)] : List Str) a1 >>= fun y1 => lAt ([4, 3, 12, 13] : List Int) a1 >>= fun y2 => (reticentref04_one.f_g k) rc218 a0 a1 >>= fun y3 => ((reticentref04_row.l0_g k) a1 y1 y2 rc218 y3.L y3.I y3.Out y3.Deep y3.E >>= fun o => match o with | (x19, x20, x21, x22, x23) => some (⟨x19, x20, x21, x22, x23⟩ : reticentref04_P))
theorem reticentref04_row.B_le (k : Nat) {rc218_ rc218 : reticentref04_P → Int → Option reticentref04_P} (h_rc218 : ∀ q0 q1, LeO (rc218_ q0 q1) (rc218 q0 q1)) (a0 : reticentref04_P) (a1 : Int) : LeO (reticentref04_row.B_g k rc218_ a0 a1) (reticentref04_row.B rc218 a0 a1) := by
  unfold reticentref04_row.B_g reticentref04_row.B
  exact (leB leR (fun y1 => (leB leR (fun y2 => (leB (reticentref04_one.f_le k h_rc218 _ _) (fun y3 => (leB (reticentref04_row.l0_le k h_rc218 _ _ _ _ _ _ _ _) (fun o => (match o with | (x19, x20, x21, x22, x23) => leR)))))))))
def reticentref04_row.F_g (k : Nat) : Nat → reticentref04_P → Int → Option reticentref04_P
  | 0 => fun _ _ => none
  | j + 1 => reticentref04_row.B_g k (reticentref04_row.F_g k j)
theorem reticentref04_row.F_le (k : Nat) : ∀ (j : Nat) q0 q1, LeO (reticentref04_row.F_g k j q0 q1) (reticentref04_row.F j q0 q1)
  | 0, _, _ => leN
  | j + 1, q0, q1 => reticentref04_row.B_le k (reticentref04_row.F_le k j)  q0 q1
def reticentref04_row.f_g (k : Nat) (a0 : reticentref04_P) (a1 : Int) : Option reticentref04_P := (reticentref04_row.F_g k) 1000 a0 a1
theorem reticentref04_row.f_le (k : Nat) (a0 : reticentref04_P) (a1 : Int) : LeO (reticentref04_row.f_g k a0 a1) (reticentref04_row.f a0 a1) := by
  unfold reticentref04_row.f_g reticentref04_row.f
  exact (reticentref04_row.F_le k 1000 a0 a1)
def reticentref04_From.f_g (k : Nat) (a0 : List api_Tok) (a1 : Int) (a2 : Bool) : Option reticentref04_P := if a2 = true then ((reticentref04_row.f_g k) (⟨a0, a1, [], 0, 0⟩ : reticentref04_P) 2 >>= fun y2 => some y2) else ((reticentref04_row.f_g k) (⟨a0, a1, [], 0, 0⟩ : reticentref04_P) 0 >>= fun y3 => some y3)
theorem reticentref04_From.f_le (k : Nat) (a0 : List api_Tok) (a1 : Int) (a2 : Bool) : LeO (reticentref04_From.f_g k a0 a1 a2) (reticentref04_From.f a0 a1 a2) := by
  unfold reticentref04_From.f_g reticentref04_From.f
  exact (leI (leB (reticentref04_row.f_le k _ _) (fun y2 => leR)) (leB (reticentref04_row.f_le k _ _) (fun y3 => leR)))
def reticentref06_part.f_g (k : Nat) (a0 : List api_Tok) (a1 : reticentref06_P) (a2 : Int) : Option reticentref06_P := if a1.E = 0 then ((reticentref04_From.f_g k) a0 a1.I (decide (a2 > 0)) >>= fun y2 => if a2 = 0 then ((reticentref06_mark.f_g k) a0 (⟨y2.I, ⟨y2.Out, a1.R.Res, a1.R.Pc⟩, y2.E⟩ : reticentref06_P) ([59] : Str) >>= fun y4 => some y4) else (if a2 = 1 then ((reticentref06_mark.f_g k) a0 (⟨y2.I, ⟨a1.R.May, y2.Out, a1.R.Pc⟩, y2.E⟩ : reticentref06_P) ([59] : Str) >>= fun y6 => some y6) else ((reticentref06_mark.f_g k) a0 (⟨y2.I, ⟨a1.R.May, a1.R.Res, y2.Out⟩, y2.E⟩ : reticentref06_P) ([59] : Str) >>= fun y7 => some y7))) else (some a1)
theorem reticentref06_part.f_le (k : Nat) (a0 : List api_Tok) (a1 : reticentref06_P) (a2 : Int) : LeO (reticentref06_part.f_g k a0 a1 a2) (reticentref06_part.f a0 a1 a2) := by
  unfold reticentref06_part.f_g reticentref06_part.f
  exact (leI (leB (reticentref04_From.f_le k _ _ _) (fun y2 => (leI (leB (reticentref06_mark.f_le k _ _ _) (fun y4 => leR)) (leI (leB (reticentref06_mark.f_le k _ _ _) (fun y6 => leR)) (leB (reticentref06_mark.f_le k _ _ _) (fun y7 => leR)))))) leR)
def reticentref06_row.l0_g : Nat → (a0 : List api_Tok) → (v6 : Int) → (v7 : List Int) → (v8 : List Int) → (v9 : List Int) → (v10 : Int) → (v11 : Int) → Option (Int × (List Int) × (List Int) × (List Int) × Int)
  | 0 => fun _ _ _ _ _ _ _ => none
  | k + 1 => fun a0 v6 v7 v8 v9 v10 v11 => if v11 < 3 then ((reticentref06_part.f_g k) a0 (⟨v6, ⟨v7, v8, v9⟩, v10⟩ : reticentref06_P) v11 >>= fun y18 => (reticentref06_row.l0_g k) a0 y18.I y18.R.May y18.R.Res y18.R.Pc y18.E (IntKind.i64.wrap (v11 + 1))) else (some (v6, v7, v8, v9, v10))
theorem reticentref06_row.l0_le : ∀ (k : Nat) (a0 : List api_Tok) (v6 : Int) (v7 : List Int) (v8 : List Int) (v9 : List Int) (v10 : Int) (v11 : Int) , LeO (reticentref06_row.l0_g k a0 v6 v7 v8 v9 v10 v11) (reticentref06_row.l0 a0 v6 v7 v8 v9 v10 v11) := by
  intro k
  induction k with
  | zero => intros; exact leN
  | succ k ih =>
    intro a0 v6 v7 v8 v9 v10 v11
    rw [reticentref06_row.l0]
    exact (leI (leB (reticentref06_part.f_le k _ _ _) (fun y18 => (ih _ _ _ _ _ _ _))) leR)
def reticentref06_row.f_g (k : Nat) (a0 : List api_Tok) (a1 : Int) : Option reticentref06_P := (reticentref06_mark.f_g k) a0 (⟨a1, (⟨[], [], []⟩ : api_Row), 0⟩ : reticentref06_P) ([58] : Str) >>= fun y1 => ((reticentref06_row.l0_g k) a0 y1.I y1.R.May y1.R.Res y1.R.Pc y1.E 0 >>= fun o => match o with | (x12, x13, x14, x15, x16) => some (⟨x12, ⟨x13, x14, x15⟩, x16⟩ : reticentref06_P))
theorem reticentref06_row.f_le (k : Nat) (a0 : List api_Tok) (a1 : Int) : LeO (reticentref06_row.f_g k a0 a1) (reticentref06_row.f a0 a1) := by
  unfold reticentref06_row.f_g reticentref06_row.f
  exact (leB (reticentref06_mark.f_le k _ _ _) (fun y1 => (leB (reticentref06_row.l0_le k _ _ _ _ _ _ _) (fun o => (match o with | (x12, x13, x14, x15, x16) => leR)))))
def reticentref04_two.f_g (k : Nat) (a0 : List Int) (a1 : Int) : Option Bool := ((if (a0.length : Int) ≥ 2 then (lAt a0 (IntKind.i64.wrap ((a0.length : Int) - 1)) >>= fun y7 => if y7 = a1 then (lAt a0 (IntKind.i64.wrap ((a0.length : Int) - 2)) >>= fun y9 => some (decide (y9 = a1))) else (some false)) else (some false) : Option Bool) >>= fun x5 => some x5)
theorem reticentref04_two.f_le (k : Nat) (a0 : List Int) (a1 : Int) : LeO (reticentref04_two.f_g k a0 a1) (reticentref04_two.f a0 a1) := by
  unfold reticentref04_two.f_g reticentref04_two.f
  exact (leB (leI (leB leR (fun y7 => (leI (leB leR (fun y9 => leR)) leR))) leR) (fun x5 => leR))
def reticentref04_Made.l0_g : Nat → (a0 : List Int) → (v169 : List Int) → (v170 : Int) → Option (Int ⊕ (List Int))
  | 0 => fun _ _ _ => none
  | k + 1 => fun a0 v169 v170 => if v170 < (a0.length : Int) then (((lAt a0 v170 >>= fun y215 => ((if y215 = 1 then (some true) else (some (decide (y215 = 2))) : Option Bool) >>= fun x217 => if x217 = true then (if (v169.length + ([1] : List Int).length) * 8 ≤ big then (some (.inr (v169 ++ ([1] : List Int)))) else none) else (((if y215 ≥ 6 then (some (decide (y215 ≤ 11))) else (some false) : Option Bool) >>= fun x222 => if x222 = true then (if (v169.length + ([2] : List Int).length) * 8 ≤ big then (some (.inr (v169 ++ ([2] : List Int)))) else none) else (((if y215 = 3 then ((reticentref04_two.f_g k) v169 1 >>= fun y232 => some y232) else (if y215 = 4 then ((reticentref04_two.f_g k) v169 1 >>= fun y234 => some y234) else (some false)) : Option Bool) >>= fun x230 => if x230 = true then (if (0 : Int) ≤ IntKind.i64.wrap ((v169.length : Int) - 1) ∧ IntKind.i64.wrap ((v169.length : Int) - 1) ≤ (v169.length : Int) then (some (.inr (v169.take (IntKind.i64.wrap ((v169.length : Int) - 1)).toNat))) else none) else (((if y215 = 5 then ((reticentref04_two.f_g k) v169 2 >>= fun y241 => some y241) else (some false) : Option Bool) >>= fun x239 => if x239 = true then (if (0 : Int) ≤ IntKind.i64.wrap ((v169.length : Int) - 2) ∧ IntKind.i64.wrap ((v169.length : Int) - 2) ≤ (v169.length : Int) then (if ((v169.take (IntKind.i64.wrap ((v169.length : Int) - 2)).toNat).length + ([1] : List Int).length) * 8 ≤ big then (some (.inr ((v169.take (IntKind.i64.wrap ((v169.length : Int) - 2)).toNat) ++ ([1] : List Int)))) else none) else none) else (((if y215 = 12 then ((reticentref04_two.f_g k) v169 2 >>= fun y251 => some y251) else (if y215 = 13 then ((reticentref04_two.f_g k) v169 2 >>= fun y253 => some y253) else (some false)) : Option Bool) >>= fun x249 => if x249 = true then (if (0 : Int) ≤ IntKind.i64.wrap ((v169.length : Int) - 1) ∧ IntKind.i64.wrap ((v169.length : Int) - 1) ≤ (v169.length : Int) then (some (.inr (v169.take (IntKind.i64.wrap ((v169.length : Int) - 1)).toNat))) else none) else (some (.inl 0))))))))))) : Option (Int ⊕ (List Int))) >>= fun o => match o with | .inl r => some (.inl r) | .inr x214 => (reticentref04_Made.l0_g k) a0 x214 (IntKind.i64.wrap (v170 + 1)))) else (some (.inr v169))
theorem reticentref04_Made.l0_le : ∀ (k : Nat) (a0 : List Int) (v169 : List Int) (v170 : Int) , LeO (reticentref04_Made.l0_g k a0 v169 v170) (reticentref04_Made.l0 a0 v169 v170) := by
  intro k
  induction k with
  | zero => intros; exact leN
  | succ k ih =>
    intro a0 v169 v170
    rw [reticentref04_Made.l0]
    exact (leI (leB (leB leR (fun y215 => (leB (leI leR leR) (fun x217 => (leI (leI leR leR) (leB (leI leR leR) (fun x222 => (leI (leI leR leR) (leB (leI (leB (reticentref04_two.f_le k _ _) (fun y232 => leR)) (leI (leB (reticentref04_two.f_le k _ _) (fun y234 => leR)) leR)) (fun x230 => (leI (leI leR leR) (leB (leI (leB (reticentref04_two.f_le k _ _) (fun y241 => leR)) leR) (fun x239 => (leI (leI (leI leR leR) leR) (leB (leI (leB (reticentref04_two.f_le k _ _) (fun y251 => leR)) (leI (leB (reticentref04_two.f_le k _ _) (fun y253 => leR)) leR)) (fun x249 => (leI (leI leR leR) leR))))))))))))))))) (fun o => (match o with | .inl r => leR | .inr x214 => (ih _ _ _)))) leR)
def reticentref04_Made.f_g (k : Nat) (a0 : List Int) : Option Int := ((reticentref04_Made.l0_g k) a0 ([] : List Int) 0 >>= fun o => match o with | .inl r => some r | .inr x171 => ((if (x171.length : Int) = 1 then (some (decide ((a0.length : Int) > 40))) else (some true) : Option Bool) >>= fun x257 => if x257 = true then (some 0) else (lAt x171 0 >>= fun y260 => some y260)))
theorem reticentref04_Made.f_le (k : Nat) (a0 : List Int) : LeO (reticentref04_Made.f_g k a0) (reticentref04_Made.f a0) := by
  unfold reticentref04_Made.f_g reticentref04_Made.f
  exact (leB (reticentref04_Made.l0_le k _ _ _) (fun o => (match o with | .inl r => leR | .inr x171 => (leB (leI leR leR) (fun x257 => (leI leR (leB leR (fun y260 => leR))))))))
def reticentref04_Right.f_g (k : Nat) (a0 : List Int) (a1 : Bool) : Option Bool := if a1 = true then ((reticentref04_Made.f_g k) a0 >>= fun y2 => some (decide (y2 = 2))) else ((reticentref04_Made.f_g k) a0 >>= fun y3 => some (decide (y3 = 1)))
theorem reticentref04_Right.f_le (k : Nat) (a0 : List Int) (a1 : Bool) : LeO (reticentref04_Right.f_g k a0 a1) (reticentref04_Right.f a0 a1) := by
  unfold reticentref04_Right.f_g reticentref04_Right.f
  exact (leI (leB (reticentref04_Made.f_le k _) (fun y2 => leR)) (leB (reticentref04_Made.f_le k _) (fun y3 => leR)))
def reticentref06_Arity.f_g (k : Nat) (a0 : Int) : Option Int := lAt ([0, 1, 1, 2, 2, 2, 3, 1, 1, 1, 2, 1, 0] : List Int) a0 >>= fun y1 => some y1
theorem reticentref06_Arity.f_le (k : Nat) (a0 : Int) : LeO (reticentref06_Arity.f_g k a0) (reticentref06_Arity.f a0) := by
  unfold reticentref06_Arity.f_g reticentref06_Arity.f
  exact (leB leR (fun y1 => leR))
def reticentref04_Has.l0_g : Nat → (a0 : List Int) → (a1 : Int) → (v7 : Int) → Option (Bool ⊕ Unit)
  | 0 => fun _ _ _ => none
  | k + 1 => fun a0 a1 v7 => if v7 < (a0.length : Int) then (lAt a0 v7 >>= fun y9 => if y9 = IntKind.i64.wrap (8 + a1) then (some (.inl true)) else ((reticentref04_Has.l0_g k) a0 a1 (IntKind.i64.wrap (v7 + 1)))) else (some (.inr ()))
theorem reticentref04_Has.l0_le : ∀ (k : Nat) (a0 : List Int) (a1 : Int) (v7 : Int) , LeO (reticentref04_Has.l0_g k a0 a1 v7) (reticentref04_Has.l0 a0 a1 v7) := by
  intro k
  induction k with
  | zero => intros; exact leN
  | succ k ih =>
    intro a0 a1 v7
    rw [reticentref04_Has.l0]
    exact (leI (leB leR (fun y9 => (leI leR (ih _ _ _)))) leR)
def reticentref04_Has.f_g (k : Nat) (a0 : List Int) (a1 : Int) : Option Bool := ((reticentref04_Has.l0_g k) a0 a1 0 >>= fun o => match o with | .inl r => some r | .inr () => some false)
theorem reticentref04_Has.f_le (k : Nat) (a0 : List Int) (a1 : Int) : LeO (reticentref04_Has.f_g k a0 a1) (reticentref04_Has.f a0 a1) := by
  unfold reticentref04_Has.f_g reticentref04_Has.f
  exact (leB (reticentref04_Has.l0_le k _ _ _) (fun o => (match o with | .inl r => leR | .inr () => leR)))
def reticentref06_has.l0_g : Nat → (a1 : List Int) → (v8 : Int) → Option (Bool ⊕ Unit)
  | 0 => fun _ _ => none
  | k + 1 => fun a1 v8 => if v8 < 4 then ((reticentref04_Has.f_g k) a1 v8 >>= fun y10 => if y10 = true then (some (.inl false)) else ((reticentref06_has.l0_g k) a1 (IntKind.i64.wrap (v8 + 1)))) else (some (.inr ()))
theorem reticentref06_has.l0_le : ∀ (k : Nat) (a1 : List Int) (v8 : Int) , LeO (reticentref06_has.l0_g k a1 v8) (reticentref06_has.l0 a1 v8) := by
  intro k
  induction k with
  | zero => intros; exact leN
  | succ k ih =>
    intro a1 v8
    rw [reticentref06_has.l0]
    exact (leI (leB (reticentref04_Has.f_le k _ _) (fun y10 => (leI leR (ih _ _)))) leR)
def reticentref06_has.f_g (k : Nat) (a0 : Int) (a1 : List Int) : Option Bool := (reticentref06_Arity.f_g k) a0 >>= fun y1 => ((reticentref06_has.l0_g k) a1 (IntKind.i64.wrap (y1 + 1)) >>= fun o => match o with | .inl r => some r | .inr () => some true)
theorem reticentref06_has.f_le (k : Nat) (a0 : Int) (a1 : List Int) : LeO (reticentref06_has.f_g k a0 a1) (reticentref06_has.f a0 a1) := by
  unfold reticentref06_has.f_g reticentref06_has.f
  exact (leB (reticentref06_Arity.f_le k _) (fun y1 => (leB (reticentref06_has.l0_le k _ _) (fun o => (match o with | .inl r => leR | .inr () => leR)))))
def reticentref06_Row.f_g (k : Nat) (a0 : Int) (a1 : api_Row) : Option Int := (((reticentref04_Right.f_g k) a1.May false >>= fun y7 => if (!y7) = true then (some true) else ((reticentref04_Right.f_g k) a1.Res true >>= fun y9 => if (!y9) = true then (some true) else ((reticentref04_Right.f_g k) a1.Pc true >>= fun y11 => some (!y11))) : Option Bool) >>= fun x6 => if x6 = true then (some 1) else ((((reticentref06_has.f_g k) a0 a1.May >>= fun y19 => if (!y19) = true then (some true) else ((reticentref06_has.f_g k) a0 a1.Res >>= fun y21 => if (!y21) = true then (some true) else ((reticentref06_has.f_g k) a0 a1.Pc >>= fun y23 => some (!y23))) : Option Bool) >>= fun x18 => if x18 = true then (some 7) else (some 0))))
theorem reticentref06_Row.f_le (k : Nat) (a0 : Int) (a1 : api_Row) : LeO (reticentref06_Row.f_g k a0 a1) (reticentref06_Row.f a0 a1) := by
  unfold reticentref06_Row.f_g reticentref06_Row.f
  exact (leB (leB (reticentref04_Right.f_le k _ _) (fun y7 => (leI leR (leB (reticentref04_Right.f_le k _ _) (fun y9 => (leI leR (leB (reticentref04_Right.f_le k _ _) (fun y11 => leR)))))))) (fun x6 => (leI leR (leB (leB (reticentref06_has.f_le k _ _) (fun y19 => (leI leR (leB (reticentref06_has.f_le k _ _) (fun y21 => (leI leR (leB (reticentref06_has.f_le k _ _) (fun y23 => leR)))))))) (fun x18 => (leI leR leR))))))
def reticentref06_Parse.l0_g : Nat → (v9 : List api_Row) → (v10 : List Bool) → (v11 : Int) → Option ((List api_Row) × (List Bool))
  | 0 => fun _ _ _ => none
  | k + 1 => fun v9 v10 v11 => if v11 < 13 then (if (v9.length + ([(⟨[], [], []⟩ : api_Row)] : List api_Row).length) * 72 ≤ big then (if (v10.length + ([false] : List Bool).length) * 1 ≤ big then ((reticentref06_Parse.l0_g k) (v9 ++ ([(⟨[], [], []⟩ : api_Row)] : List api_Row)) (v10 ++ ([false] : List Bool)) (IntKind.i64.wrap (v11 + 1))) else none) else none) else (some (v9, v10))
theorem reticentref06_Parse.l0_le : ∀ (k : Nat) (v9 : List api_Row) (v10 : List Bool) (v11 : Int) , LeO (reticentref06_Parse.l0_g k v9 v10 v11) (reticentref06_Parse.l0 v9 v10 v11) := by
  intro k
  induction k with
  | zero => intros; exact leN
  | succ k ih =>
    intro v9 v10 v11
    rw [reticentref06_Parse.l0]
    exact (leI (leI (leI (ih _ _ _) leR) leR) leR)
def reticentref06_Parse.l1_g : Nat → (y1 : reticentref03_R) → (v61 : List api_Row) → (v62 : List Bool) → (v63 : Int) → Option (reticentref06_R ⊕ ((List api_Row) × (List Bool) × Int))
  | 0 => fun _ _ _ _ => none
  | k + 1 => fun y1 v61 v62 v63 => lAt y1.L v63 >>= fun y67 => if y67.Kind = 0 then (some (.inr (v61, v62, v63))) else (lAt y1.L v63 >>= fun y69 => if y69.Kind = 1 then (lAt y1.L v63 >>= fun y71 => (reticentref06_Op.f_g k) y71.Text >>= fun y72 => ((if y72 < 0 then (some true) else (lAt v62 y72 >>= fun y77 => some y77) : Option Bool) >>= fun x75 => if x75 = true then (lAt y1.L v63 >>= fun y79 => some (.inl (⟨⟨[]⟩, y79.At, 6⟩ : reticentref06_R))) else ((reticentref06_row.f_g k) y1.L (IntKind.i64.wrap (v63 + 1)) >>= fun y80 => if y80.E = 0 then ((reticentref06_Row.f_g k) y72 y80.R >>= fun y82 => if y82 = 0 then (lAt v61 y72 >>= fun y84 => lAt v62 y72 >>= fun y85 => (reticentref06_Parse.l1_g k) y1 (v61.set y72.toNat y80.R) (v62.set y72.toNat true) y80.I) else (lAt y1.L v63 >>= fun y86 => some (.inl (⟨⟨[]⟩, y86.At, 7⟩ : reticentref06_R)))) else (lAt y1.L y80.I >>= fun y87 => some (.inl (⟨⟨[]⟩, y87.At, y80.E⟩ : reticentref06_R)))))) else (lAt y1.L v63 >>= fun y88 => some (.inl (⟨⟨[]⟩, y88.At, 4⟩ : reticentref06_R))))
theorem reticentref06_Parse.l1_le : ∀ (k : Nat) (y1 : reticentref03_R) (v61 : List api_Row) (v62 : List Bool) (v63 : Int) , LeO (reticentref06_Parse.l1_g k y1 v61 v62 v63) (reticentref06_Parse.l1 y1 v61 v62 v63) := by
  intro k
  induction k with
  | zero => intros; exact leN
  | succ k ih =>
    intro y1 v61 v62 v63
    rw [reticentref06_Parse.l1]
    exact (leB leR (fun y67 => (leI leR (leB leR (fun y69 => (leI (leB leR (fun y71 => (leB (reticentref06_Op.f_le k _) (fun y72 => (leB (leI leR (leB leR (fun y77 => leR))) (fun x75 => (leI (leB leR (fun y79 => leR)) (leB (reticentref06_row.f_le k _ _) (fun y80 => (leI (leB (reticentref06_Row.f_le k _ _) (fun y82 => (leI (leB leR (fun y84 => (leB leR (fun y85 => (ih _ _ _ _))))) (leB leR (fun y86 => leR))))) (leB leR (fun y87 => leR)))))))))))) (leB leR (fun y88 => leR))))))))
def reticentref06_Parse.l2_g : Nat → (y1 : reticentref03_R) → (x65 : List Bool) → (x66 : Int) → (v97 : Int) → Option (reticentref06_R ⊕ (List Bool))
  | 0 => fun _ _ _ _ => none
  | k + 1 => fun y1 x65 x66 v97 => if v97 < (x65.length : Int) then (lAt x65 v97 >>= fun y100 => if (!y100) = true then (lAt y1.L x66 >>= fun y102 => some (.inl (⟨⟨[]⟩, y102.At, 9⟩ : reticentref06_R))) else ((reticentref06_Parse.l2_g k) y1 x65 x66 (IntKind.i64.wrap (v97 + 1)))) else (some (.inr x65))
theorem reticentref06_Parse.l2_le : ∀ (k : Nat) (y1 : reticentref03_R) (x65 : List Bool) (x66 : Int) (v97 : Int) , LeO (reticentref06_Parse.l2_g k y1 x65 x66 v97) (reticentref06_Parse.l2 y1 x65 x66 v97) := by
  intro k
  induction k with
  | zero => intros; exact leN
  | succ k ih =>
    intro y1 x65 x66 v97
    rw [reticentref06_Parse.l2]
    exact (leI (leB leR (fun y100 => (leI (leB leR (fun y102 => leR)) (ih _ _ _ _)))) leR)
def reticentref06_Parse.f_g (k : Nat) (a0 : Str) : Option reticentref06_R := (reticentref03_Lex.f_g k) a0 >>= fun y1 => if y1.E = 0 then (((reticentref06_Parse.l0_g k) ([] : List api_Row) ([] : List Bool) 0 >>= fun o => match o with | (x12, x13) => ((reticentref06_Parse.l1_g k) y1 x12 x13 0 >>= fun o => match o with | .inl r => some r | .inr (x64, x65, x66) => ((reticentref06_Parse.l2_g k) y1 x65 x66 0 >>= fun o => match o with | .inl r => some r | .inr x98 => some (⟨⟨x64⟩, 0, 0⟩ : reticentref06_R))))) else (some (⟨⟨[]⟩, y1.At, y1.E⟩ : reticentref06_R))
theorem reticentref06_Parse.f_le (k : Nat) (a0 : Str) : LeO (reticentref06_Parse.f_g k a0) (reticentref06_Parse.f a0) := by
  unfold reticentref06_Parse.f_g reticentref06_Parse.f
  exact (leB (reticentref03_Lex.f_le k _) (fun y1 => (leI (leB (reticentref06_Parse.l0_le k _ _ _) (fun o => (match o with | (x12, x13) => (leB (reticentref06_Parse.l1_le k _ _ _ _) (fun o => (match o with | .inl r => leR | .inr (x64, x65, x66) => (leB (reticentref06_Parse.l2_le k _ _ _ _) (fun o => (match o with | .inl r => leR | .inr x98 => leR))))))))) leR)))
def rule_made_1.f_g (k : Nat) (a0 : Bool) (a1 : List Bool) : Option ((List Bool) × Bool) := ((if IntKind.i64.wrap ((a1.length : Int) - 1) < 1 then (some true) else (lAt a1 (IntKind.i64.wrap ((a1.length : Int) - 1)) >>= fun y7 => if y7 = a0 then (lAt a1 (IntKind.i64.wrap ((IntKind.i64.wrap ((a1.length : Int) - 1)) - 1)) >>= fun y9 => some (!decide (y9 = a0))) else (some true)) : Option Bool) >>= fun x5 => if x5 = true then (some (a1, false)) else (if (0 : Int) ≤ IntKind.i64.wrap ((IntKind.i64.wrap ((a1.length : Int) - 1)) - 1) ∧ IntKind.i64.wrap ((IntKind.i64.wrap ((a1.length : Int) - 1)) - 1) ≤ (a1.length : Int) then (some (a1.take (IntKind.i64.wrap ((IntKind.i64.wrap ((a1.length : Int) - 1)) - 1)).toNat, true)) else none))
theorem rule_made_1.f_le (k : Nat) (a0 : Bool) (a1 : List Bool) : LeO (rule_made_1.f_g k a0 a1) (rule_made_1.f a0 a1) := by
  unfold rule_made_1.f_g rule_made_1.f
  exact (leB (leI leR (leB leR (fun y7 => (leI (leB leR (fun y9 => leR)) leR)))) (fun x5 => (leI leR (leI leR leR))))
def rule_made.l0_g : Nat → (a0 : List Int) → (v269 : List Bool) → (v270 : Int) → Option ((Bool × Bool) ⊕ (List Bool))
  | 0 => fun _ _ _ => none
  | k + 1 => fun a0 v269 v270 => if v270 < (a0.length : Int) then (((lAt a0 v270 >>= fun y340 => ((if y340 = 1 then (if (v269.length + ([false] : List Bool).length) * 1 ≤ big then (some (v269 ++ ([false] : List Bool), true)) else none) else (if y340 = 2 then (if (v269.length + ([false] : List Bool).length) * 1 ≤ big then (some (v269 ++ ([false] : List Bool), true)) else none) else (if y340 = 6 then (if (v269.length + ([true] : List Bool).length) * 1 ≤ big then (some (v269 ++ ([true] : List Bool), true)) else none) else (if y340 = 7 then (if (v269.length + ([true] : List Bool).length) * 1 ≤ big then (some (v269 ++ ([true] : List Bool), true)) else none) else (if y340 = 8 then (if (v269.length + ([true] : List Bool).length) * 1 ≤ big then (some (v269 ++ ([true] : List Bool), true)) else none) else (if y340 = 9 then (if (v269.length + ([true] : List Bool).length) * 1 ≤ big then (some (v269 ++ ([true] : List Bool), true)) else none) else (if y340 = 10 then (if (v269.length + ([true] : List Bool).length) * 1 ≤ big then (some (v269 ++ ([true] : List Bool), true)) else none) else (if y340 = 11 then (if (v269.length + ([true] : List Bool).length) * 1 ≤ big then (some (v269 ++ ([true] : List Bool), true)) else none) else (if y340 = 3 then ((rule_made_1.f_g k) false v269 >>= fun y391 => if (y391.1.length + ([false] : List Bool).length) * 1 ≤ big then (some (y391.1 ++ ([false] : List Bool), y391.2)) else none) else (if y340 = 4 then ((rule_made_1.f_g k) false v269 >>= fun y394 => if (y394.1.length + ([false] : List Bool).length) * 1 ≤ big then (some (y394.1 ++ ([false] : List Bool), y394.2)) else none) else (if y340 = 5 then ((rule_made_1.f_g k) true v269 >>= fun y397 => if (y397.1.length + ([false] : List Bool).length) * 1 ≤ big then (some (y397.1 ++ ([false] : List Bool), y397.2)) else none) else (if y340 = 12 then ((rule_made_1.f_g k) true v269 >>= fun y400 => if (y400.1.length + ([true] : List Bool).length) * 1 ≤ big then (some (y400.1 ++ ([true] : List Bool), y400.2)) else none) else (if y340 = 13 then ((rule_made_1.f_g k) true v269 >>= fun y403 => if (y403.1.length + ([true] : List Bool).length) * 1 ≤ big then (some (y403.1 ++ ([true] : List Bool), y403.2)) else none) else (some (v269, false)))))))))))))) : Option ((List Bool) × Bool)) >>= fun o => match o with | (x372, x373) => if (!x373) = true then (some (.inl (false, false))) else (some (.inr x372))) : Option ((Bool × Bool) ⊕ (List Bool))) >>= fun o => match o with | .inl r => some (.inl r) | .inr x339 => (rule_made.l0_g k) a0 x339 (IntKind.i64.wrap (v270 + 1)))) else (some (.inr v269))
theorem rule_made.l0_le : ∀ (k : Nat) (a0 : List Int) (v269 : List Bool) (v270 : Int) , LeO (rule_made.l0_g k a0 v269 v270) (rule_made.l0 a0 v269 v270) := by
  intro k
  induction k with
  | zero => intros; exact leN
  | succ k ih =>
    intro a0 v269 v270
    rw [rule_made.l0]
    exact (leI (leB (leB leR (fun y340 => (leB (leI (leI leR leR) (leI (leI leR leR) (leI (leI leR leR) (leI (leI leR leR) (leI (leI leR leR) (leI (leI leR leR) (leI (leI leR leR) (leI (leI leR leR) (leI (leB (rule_made_1.f_le k _ _) (fun y391 => (leI leR leR))) (leI (leB (rule_made_1.f_le k _ _) (fun y394 => (leI leR leR))) (leI (leB (rule_made_1.f_le k _ _) (fun y397 => (leI leR leR))) (leI (leB (rule_made_1.f_le k _ _) (fun y400 => (leI leR leR))) (leI (leB (rule_made_1.f_le k _ _) (fun y403 => (leI leR leR))) leR))))))))))))) (fun o => (match o with | (x372, x373) => (leI leR leR)))))) (fun o => (match o with | .inl r => leR | .inr x339 => (ih _ _ _)))) leR)
def rule_made.f_g (k : Nat) (a0 : List Int) : Option (Bool × Bool) := ((rule_made.l0_g k) a0 ([] : List Bool) 0 >>= fun o => match o with | .inl r => some r | .inr x271 => ((if (x271.length : Int) = 1 then (some (decide ((a0.length : Int) > 40))) else (some true) : Option Bool) >>= fun x407 => if x407 = true then (some (false, false)) else (lAt x271 0 >>= fun y410 => some (y410, true))))
theorem rule_made.f_le (k : Nat) (a0 : List Int) : LeO (rule_made.f_g k a0) (rule_made.f a0) := by
  unfold rule_made.f_g rule_made.f
  exact (leB (rule_made.l0_le k _ _ _) (fun o => (match o with | .inl r => leR | .inr x271 => (leB (leI leR leR) (fun x407 => (leI leR (leB leR (fun y410 => leR))))))))
def rule_Right.f_g (k : Nat) (a0 : List Int) (a1 : Bool) : Option Bool := (rule_made.f_g k) a0 >>= fun y1 => ((if y1.2 = true then (some (decide (y1.1 = a1))) else (some false) : Option Bool) >>= fun x3 => some x3)
theorem rule_Right.f_le (k : Nat) (a0 : List Int) (a1 : Bool) : LeO (rule_Right.f_g k a0 a1) (rule_Right.f a0 a1) := by
  unfold rule_Right.f_g rule_Right.f
  exact (leB (rule_made.f_le k _) (fun y1 => (leB (leI leR leR) (fun x3 => leR))))
def table_right.f_g (k : Nat) (a0 : api_Row) : Option Bool := (((rule_Right.f_g k) a0.May false >>= fun y7 => if y7 = true then ((rule_Right.f_g k) a0.Res true >>= fun y9 => if y9 = true then ((rule_Right.f_g k) a0.Pc true >>= fun y11 => some y11) else (some false)) else (some false) : Option Bool) >>= fun x6 => some x6)
theorem table_right.f_le (k : Nat) (a0 : api_Row) : LeO (table_right.f_g k a0) (table_right.f a0) := by
  unfold table_right.f_g table_right.f
  exact (leB (leB (rule_Right.f_le k _ _) (fun y7 => (leI (leB (rule_Right.f_le k _ _) (fun y9 => (leI (leB (rule_Right.f_le k _ _) (fun y11 => leR)) leR))) leR))) (fun x6 => leR))
def rule_Uses.l0_g : Nat → (a0 : List Int) → (v31 : Int) → (v32 : Int) → Option Int
  | 0 => fun _ _ _ => none
  | k + 1 => fun a0 v31 v32 => if v31 < (a0.length : Int) then (((lAt a0 v31 >>= fun y42 => ((if y42 ≥ 8 then (some (decide (y42 ≤ 11))) else (some false) : Option Bool) >>= fun x44 => if x44 = true then (if ¬ IntKind.i64.wrap (y42 - 8) < 0 then (some (bOr .u32 v32 (bShl .u32 1 (IntKind.i64.wrap (y42 - 8))))) else none) else (some v32)) : Option Int) >>= fun x41 => (rule_Uses.l0_g k) a0 (IntKind.i64.wrap (v31 + 1)) x41)) else (some v32)
theorem rule_Uses.l0_le : ∀ (k : Nat) (a0 : List Int) (v31 : Int) (v32 : Int) , LeO (rule_Uses.l0_g k a0 v31 v32) (rule_Uses.l0 a0 v31 v32) := by
  intro k
  induction k with
  | zero => intros; exact leN
  | succ k ih =>
    intro a0 v31 v32
    rw [rule_Uses.l0]
    exact (leI (leB (leB leR (fun y42 => (leB (leI leR leR) (fun x44 => (leI (leI leR leR) leR))))) (fun x41 => (ih _ _ _))) leR)
def rule_Uses.f_g (k : Nat) (a0 : List Int) : Option (Int × Int) := (rule_made.f_g k) a0 >>= fun y1 => if (!y1.2) = true then (some (0, 1)) else (((rule_Uses.l0_g k) a0 0 0 >>= fun x33 => some (x33, 0)))
theorem rule_Uses.f_le (k : Nat) (a0 : List Int) : LeO (rule_Uses.f_g k a0) (rule_Uses.f a0) := by
  unfold rule_Uses.f_g rule_Uses.f
  exact (leB (rule_made.f_le k _) (fun y1 => (leI leR (leB (rule_Uses.l0_le k _ _ _) (fun x33 => leR)))))
def table_has.f_g (k : Nat) (a0 : Int) (a1 : List Int) : Option Bool := (rule_Uses.f_g k) a1 >>= fun y1 => ((if y1.2 = 0 then (lAt gl1 a0 >>= fun y7 => if ¬ IntKind.i64.wrap (y7 + 1) < 0 then (some (decide (bShr .u32 y1.1 (IntKind.i64.wrap (y7 + 1)) = 0))) else none) else (some false) : Option Bool) >>= fun x5 => some x5)
theorem table_has.f_le (k : Nat) (a0 : Int) (a1 : List Int) : LeO (table_has.f_g k a0 a1) (table_has.f a0 a1) := by
  unfold table_has.f_g table_has.f
  exact (leB (rule_Uses.f_le k _) (fun y1 => (leB (leI (leB leR (fun y7 => (leI leR leR))) leR) (fun x5 => leR))))
def table_suits.f_g (k : Nat) (a0 : Int) (a1 : api_Row) : Option Bool := (((table_has.f_g k) a0 a1.May >>= fun y7 => if y7 = true then ((table_has.f_g k) a0 a1.Res >>= fun y9 => if y9 = true then ((table_has.f_g k) a0 a1.Pc >>= fun y11 => some y11) else (some false)) else (some false) : Option Bool) >>= fun x6 => some x6)
theorem table_suits.f_le (k : Nat) (a0 : Int) (a1 : api_Row) : LeO (table_suits.f_g k a0 a1) (table_suits.f a0 a1) := by
  unfold table_suits.f_g table_suits.f
  exact (leB (leB (table_has.f_le k _ _) (fun y7 => (leI (leB (table_has.f_le k _ _) (fun y9 => (leI (leB (table_has.f_le k _ _) (fun y11 => leR)) leR))) leR))) (fun x6 => leR))
def table_Check.l0_g : Nat → (a0 : api_Table) → (v14 : Int) → Option ((Int × Int) ⊕ Unit)
  | 0 => fun _ _ => none
  | k + 1 => fun a0 v14 => if v14 < (a0.Rows.length : Int) then (lAt a0.Rows v14 >>= fun y16 => (table_right.f_g k) y16 >>= fun y17 => if (!y17) = true then (some (.inl (v14, 1))) else ((table_suits.f_g k) v14 y16 >>= fun y19 => if (!y19) = true then (some (.inl (v14, 7))) else ((table_Check.l0_g k) a0 (IntKind.i64.wrap (v14 + 1))))) else (some (.inr ()))
theorem table_Check.l0_le : ∀ (k : Nat) (a0 : api_Table) (v14 : Int) , LeO (table_Check.l0_g k a0 v14) (table_Check.l0 a0 v14) := by
  intro k
  induction k with
  | zero => intros; exact leN
  | succ k ih =>
    intro a0 v14
    rw [table_Check.l0]
    exact (leI (leB leR (fun y16 => (leB (table_right.f_le k _) (fun y17 => (leI leR (leB (table_suits.f_le k _ _) (fun y19 => (leI leR (ih _ _))))))))) leR)
def table_Check.f_g (k : Nat) (a0 : api_Table) : Option (Int × Int) := if (a0.Rows.length : Int) = 13 then (((table_Check.l0_g k) a0 0 >>= fun o => match o with | .inl r => some r | .inr () => some (0, 0))) else (some (0, 1))
theorem table_Check.f_le (k : Nat) (a0 : api_Table) : LeO (table_Check.f_g k a0) (table_Check.f a0) := by
  unfold table_Check.f_g table_Check.f
  exact (leI (leB (table_Check.l0_le k _ _) (fun o => (match o with | .inl r => leR | .inr () => leR))) leR)
def strings_Builder_WriteString.f_g (k : Nat) (a0 : Str) (a1 : Str) : Option (Str × Int × Unit) := if (a0.length + a1.length) * 1 ≤ big then (some (a0 ++ a1, (a1.length : Int), ())) else none
theorem strings_Builder_WriteString.f_le (k : Nat) (a0 : Str) (a1 : Str) : LeO (strings_Builder_WriteString.f_g k a0 a1) (strings_Builder_WriteString.f a0 a1) := by
  unfold strings_Builder_WriteString.f_g strings_Builder_WriteString.f
  exact (leI leR leR)
def show_word.f_g (k : Nat) (a0 : Int) : Option (Str × Int × Bool) := if a0 = 1 then (some (([116, 114, 117, 101] : Str), 3, false)) else (if a0 = 2 then (some (([102, 97, 108, 115, 101] : Str), 3, false)) else (if a0 = 3 then (some (([97, 110, 100] : Str), 2, true)) else (if a0 = 4 then (some (([111, 114] : Str), 1, true)) else (if a0 = 5 then (some (([60, 61] : Str), 3, true)) else (if a0 = 12 then (some (([106, 111, 105, 110] : Str), 1, true)) else (if a0 = 13 then (some (([109, 101, 101, 116] : Str), 2, true)) else (lAt ([([98, 111, 116] : Str), ([116, 111, 112] : Str), ([112, 99] : Str), ([111, 110, 101] : Str), ([116, 119, 111] : Str), ([116, 104, 114, 101, 101] : Str)] : List Str) (IntKind.i64.wrap (a0 - 6)) >>= fun y8 => some (y8, 3, false))))))))
theorem show_word.f_le (k : Nat) (a0 : Int) : LeO (show_word.f_g k a0) (show_word.f a0) := by
  unfold show_word.f_g show_word.f
  exact (leI leR (leI leR (leI leR (leI leR (leI leR (leI leR (leI leR (leB leR (fun y8 => leR)))))))))
def show_pile_show_piece_put.f_g (k : Nat) (a0 : show_piece_171) (a1 : show_piece) : Option show_piece_171 := if (a0.l_.length + ([a1] : List show_piece).length) * 32 ≤ big then (some (⟨a0.l_ ++ ([a1] : List show_piece)⟩ : show_piece_171)) else none
theorem show_pile_show_piece_put.f_le (k : Nat) (a0 : show_piece_171) (a1 : show_piece) : LeO (show_pile_show_piece_put.f_g k a0 a1) (show_pile_show_piece_put.f a0 a1) := by
  unfold show_pile_show_piece_put.f_g show_pile_show_piece_put.f
  exact (leI leR leR)
def show_pile_show_piece_take.f_g (k : Nat) (a0 : show_piece_171) : Option (show_piece_171 × show_piece) := lAt a0.l_ (IntKind.i64.wrap ((a0.l_.length : Int) - 1)) >>= fun y1 => if (0 : Int) ≤ IntKind.i64.wrap ((a0.l_.length : Int) - 1) ∧ IntKind.i64.wrap ((a0.l_.length : Int) - 1) ≤ (a0.l_.length : Int) then (some ((⟨a0.l_.take (IntKind.i64.wrap ((a0.l_.length : Int) - 1)).toNat⟩ : show_piece_171), y1)) else none
theorem show_pile_show_piece_take.f_le (k : Nat) (a0 : show_piece_171) : LeO (show_pile_show_piece_take.f_g k a0) (show_pile_show_piece_take.f a0) := by
  unfold show_pile_show_piece_take.f_g show_pile_show_piece_take.f
  exact (leB leR (fun y1 => (leI leR leR)))
def show_within.f_g (k : Nat) (a0 : show_piece) (a1 : Int) (a2 : Str) (a3 : Str) : Option show_piece := if a0.binds_ ≥ a1 then (some a0) else (if (a2.length + a0.text_.length : Int) ≤ 9223372036854775807 then (if ((a2 ++ a0.text_).length + a3.length : Int) ≤ 9223372036854775807 then (some (⟨(a2 ++ a0.text_) ++ a3, 3, IntKind.i64.wrap (a0.deep_ + 1)⟩ : show_piece)) else none) else none)
theorem show_within.f_le (k : Nat) (a0 : show_piece) (a1 : Int) (a2 : Str) (a3 : Str) : LeO (show_within.f_g k a0 a1 a2 a3) (show_within.f a0 a1 a2 a3) := by
  unfold show_within.f_g show_within.f
  exact (leI leR (leI (leI leR leR) leR))
def show_Text.l0_g : Nat → (a0 : List Int) → (v157 : List show_piece) → (v158 : Int) → Option (List show_piece)
  | 0 => fun _ _ _ => none
  | k + 1 => fun a0 v157 v158 => if v158 < (a0.length : Int) then (((lAt a0 v158 >>= fun y198 => (show_word.f_g k) y198 >>= fun y199 => if (!y199.2.2) = true then ((show_pile_show_piece_put.f_g k) (⟨v157⟩ : show_piece_171) (⟨y199.1, y199.2.1, 0⟩ : show_piece) >>= fun y201 => some y201.l_) else ((show_pile_show_piece_take.f_g k) (⟨v157⟩ : show_piece_171) >>= fun y202 => (show_pile_show_piece_take.f_g k) y202.1 >>= fun y203 => ((if y198 = 12 then (some true) else (some (decide (y198 = 13))) : Option Bool) >>= fun x205 => if x205 = true then (if y198 = 5 then (if (y203.2.text_.length + ([32] : Str).length : Int) ≤ 9223372036854775807 then (if ((y203.2.text_ ++ ([32] : Str)).length + y199.1.length : Int) ≤ 9223372036854775807 then (if (((y203.2.text_ ++ ([32] : Str)) ++ y199.1).length + ([32] : Str).length : Int) ≤ 9223372036854775807 then (if ((((y203.2.text_ ++ ([32] : Str)) ++ y199.1) ++ ([32] : Str)).length + y202.2.text_.length : Int) ≤ 9223372036854775807 then ((show_pile_show_piece_put.f_g k) y203.1 (⟨(((y203.2.text_ ++ ([32] : Str)) ++ y199.1) ++ ([32] : Str)) ++ y202.2.text_, y199.2.1, (if y203.2.deep_ < y202.2.deep_ then y202.2.deep_ else y203.2.deep_)⟩ : show_piece) >>= fun y213 => some y213.l_) else none) else none) else none) else none) else ((show_within.f_g k) y203.2 y199.2.1 ([91] : Str) ([93] : Str) >>= fun y214 => (show_within.f_g k) y202.2 (IntKind.i64.wrap (y199.2.1 + 1)) ([91] : Str) ([93] : Str) >>= fun y215 => if (y214.text_.length + ([32] : Str).length : Int) ≤ 9223372036854775807 then (if ((y214.text_ ++ ([32] : Str)).length + y199.1.length : Int) ≤ 9223372036854775807 then (if (((y214.text_ ++ ([32] : Str)) ++ y199.1).length + ([32] : Str).length : Int) ≤ 9223372036854775807 then (if ((((y214.text_ ++ ([32] : Str)) ++ y199.1) ++ ([32] : Str)).length + y215.text_.length : Int) ≤ 9223372036854775807 then ((show_pile_show_piece_put.f_g k) y203.1 (⟨(((y214.text_ ++ ([32] : Str)) ++ y199.1) ++ ([32] : Str)) ++ y215.text_, y199.2.1, (if y214.deep_ < y215.deep_ then y215.deep_ else y214.deep_)⟩ : show_piece) >>= fun y220 => some y220.l_) else none) else none) else none) else none)) else (if y198 = 5 then (if (y203.2.text_.length + ([32] : Str).length : Int) ≤ 9223372036854775807 then (if ((y203.2.text_ ++ ([32] : Str)).length + y199.1.length : Int) ≤ 9223372036854775807 then (if (((y203.2.text_ ++ ([32] : Str)) ++ y199.1).length + ([32] : Str).length : Int) ≤ 9223372036854775807 then (if ((((y203.2.text_ ++ ([32] : Str)) ++ y199.1) ++ ([32] : Str)).length + y202.2.text_.length : Int) ≤ 9223372036854775807 then ((show_pile_show_piece_put.f_g k) y203.1 (⟨(((y203.2.text_ ++ ([32] : Str)) ++ y199.1) ++ ([32] : Str)) ++ y202.2.text_, y199.2.1, (if y203.2.deep_ < y202.2.deep_ then y202.2.deep_ else y203.2.deep_)⟩ : show_piece) >>= fun y226 => some y226.l_) else none) else none) else none) else none) else ((show_within.f_g k) y203.2 y199.2.1 ([40] : Str) ([41] : Str) >>= fun y227 => (show_within.f_g k) y202.2 (IntKind.i64.wrap (y199.2.1 + 1)) ([40] : Str) ([41] : Str) >>= fun y228 => if (y227.text_.length + ([32] : Str).length : Int) ≤ 9223372036854775807 then (if ((y227.text_ ++ ([32] : Str)).length + y199.1.length : Int) ≤ 9223372036854775807 then (if (((y227.text_ ++ ([32] : Str)) ++ y199.1).length + ([32] : Str).length : Int) ≤ 9223372036854775807 then (if ((((y227.text_ ++ ([32] : Str)) ++ y199.1) ++ ([32] : Str)).length + y228.text_.length : Int) ≤ 9223372036854775807 then ((show_pile_show_piece_put.f_g k) y203.1 (⟨(((y227.text_ ++ ([32] : Str)) ++ y199.1) ++ ([32] : Str)) ++ y228.text_, y199.2.1, (if y227.deep_ < y228.deep_ then y228.deep_ else y227.deep_)⟩ : show_piece) >>= fun y233 => some y233.l_) else none) else none) else none) else none)))) : Option (List show_piece)) >>= fun x197 => (show_Text.l0_g k) a0 x197 (IntKind.i64.wrap (v158 + 1)))) else (some v157)
theorem show_Text.l0_le : ∀ (k : Nat) (a0 : List Int) (v157 : List show_piece) (v158 : Int) , LeO (show_Text.l0_g k a0 v157 v158) (show_Text.l0 a0 v157 v158) := by
  intro k
  induction k with
  | zero => intros; exact leN
  | succ k ih =>
    intro a0 v157 v158
    rw [show_Text.l0]
    exact (leI (leB (leB leR (fun y198 => (leB (show_word.f_le k _) (fun y199 => (leI (leB (show_pile_show_piece_put.f_le k _ _) (fun y201 => leR)) (leB (show_pile_show_piece_take.f_le k _) (fun y202 => (leB (show_pile_show_piece_take.f_le k _) (fun y203 => (leB (leI leR leR) (fun x205 => (leI (leI (leI (leI (leI (leI (leB (show_pile_show_piece_put.f_le k _ _) (fun y213 => leR)) leR) leR) leR) leR) (leB (show_within.f_le k _ _ _ _) (fun y214 => (leB (show_within.f_le k _ _ _ _) (fun y215 => (leI (leI (leI (leI (leB (show_pile_show_piece_put.f_le k _ _) (fun y220 => leR)) leR) leR) leR) leR)))))) (leI (leI (leI (leI (leI (leB (show_pile_show_piece_put.f_le k _ _) (fun y226 => leR)) leR) leR) leR) leR) (leB (show_within.f_le k _ _ _ _) (fun y227 => (leB (show_within.f_le k _ _ _ _) (fun y228 => (leI (leI (leI (leI (leB (show_pile_show_piece_put.f_le k _ _) (fun y233 => leR)) leR) leR) leR) leR)))))))))))))))))) (fun x197 => (ih _ _ _))) leR)
def show_Text.f_g (k : Nat) (a0 : List Int) : Option (Str × Int) := (((rule_Right.f_g k) a0 false >>= fun y5 => if (!y5) = true then ((rule_Right.f_g k) a0 true >>= fun y7 => some (!y7)) else (some false) : Option Bool) >>= fun x4 => if x4 = true then (some (([] : Str), 1)) else (((show_Text.l0_g k) a0 ([] : List show_piece) 0 >>= fun x159 => (show_pile_show_piece_take.f_g k) (⟨x159⟩ : show_piece_171) >>= fun y234 => if y234.2.deep_ > 12 then (some (([] : Str), 5)) else (some (y234.2.text_, 0)))))
theorem show_Text.f_le (k : Nat) (a0 : List Int) : LeO (show_Text.f_g k a0) (show_Text.f a0) := by
  unfold show_Text.f_g show_Text.f
  exact (leB (leB (rule_Right.f_le k _ _) (fun y5 => (leI (leB (rule_Right.f_le k _ _) (fun y7 => leR)) leR))) (fun x4 => (leI leR (leB (show_Text.l0_le k _ _ _) (fun x159 => (leB (show_pile_show_piece_take.f_le k _) (fun y234 => (leI leR leR))))))))
def table_Text.l3_g : Nat → (y145 : api_Row) → (v189 : List UInt8) → (v190 : Int) → Option ((Str × Int) ⊕ (List UInt8))
  | 0 => fun _ _ _ => none
  | k + 1 => fun y145 v189 v190 => if v190 < (([y145.May, y145.Res, y145.Pc] : List (List Int)).length : Int) then (((lAt ([y145.May, y145.Res, y145.Pc] : List (List Int)) v190 >>= fun y203 => (show_Text.f_g k) y203 >>= fun y204 => if y204.2 = 0 then (if v190 > 0 then ((strings_Builder_WriteString.f_g k) v189 ([32, 59] : Str) >>= fun y207 => if (([32] : Str).length + y204.1.length : Int) ≤ 9223372036854775807 then ((strings_Builder_WriteString.f_g k) y207.1 (([32] : Str) ++ y204.1) >>= fun y209 => some (.inr y209.1)) else none) else (if (([32] : Str).length + y204.1.length : Int) ≤ 9223372036854775807 then ((strings_Builder_WriteString.f_g k) v189 (([32] : Str) ++ y204.1) >>= fun y211 => some (.inr y211.1)) else none)) else (some (.inl (([] : Str), y204.2))) : Option ((Str × Int) ⊕ (List UInt8))) >>= fun o => match o with | .inl r => some (.inl r) | .inr x202 => (table_Text.l3_g k) y145 x202 (IntKind.i64.wrap (v190 + 1)))) else (some (.inr v189))
theorem table_Text.l3_le : ∀ (k : Nat) (y145 : api_Row) (v189 : List UInt8) (v190 : Int) , LeO (table_Text.l3_g k y145 v189 v190) (table_Text.l3 y145 v189 v190) := by
  intro k
  induction k with
  | zero => intros; exact leN
  | succ k ih =>
    intro y145 v189 v190
    rw [table_Text.l3]
    exact (leI (leB (leB leR (fun y203 => (leB (show_Text.f_le k _) (fun y204 => (leI (leI (leB (strings_Builder_WriteString.f_le k _ _) (fun y207 => (leI (leB (strings_Builder_WriteString.f_le k _ _) (fun y209 => leR)) leR))) (leI (leB (strings_Builder_WriteString.f_le k _ _) (fun y211 => leR)) leR)) leR))))) (fun o => (match o with | .inl r => leR | .inr x202 => (ih _ _ _)))) leR)
def table_Text.l2_g : Nat → (a0 : api_Table) → (v141 : List UInt8) → (v142 : Int) → Option ((Str × Int) ⊕ (List UInt8))
  | 0 => fun _ _ _ => none
  | k + 1 => fun a0 v141 v142 => if v142 < (a0.Rows.length : Int) then (lAt a0.Rows v142 >>= fun y145 => lAt gl0 v142 >>= fun y146 => if (y146.length + ([32, 58] : Str).length : Int) ≤ 9223372036854775807 then ((strings_Builder_WriteString.f_g k) v141 (y146 ++ ([32, 58] : Str)) >>= fun y148 => ((table_Text.l3_g k) y145 y148.1 0 >>= fun o => match o with | .inl r => some (.inl r) | .inr x191 => (strings_Builder_WriteString.f_g k) x191 ([32, 59, 10] : Str) >>= fun y212 => (table_Text.l2_g k) a0 y212.1 (IntKind.i64.wrap (v142 + 1)))) else none) else (some (.inr v141))
theorem table_Text.l2_le : ∀ (k : Nat) (a0 : api_Table) (v141 : List UInt8) (v142 : Int) , LeO (table_Text.l2_g k a0 v141 v142) (table_Text.l2 a0 v141 v142) := by
  intro k
  induction k with
  | zero => intros; exact leN
  | succ k ih =>
    intro a0 v141 v142
    rw [table_Text.l2]
    exact (leI (leB leR (fun y145 => (leB leR (fun y146 => (leI (leB (strings_Builder_WriteString.f_le k _ _) (fun y148 => (leB (table_Text.l3_le k _ _ _) (fun o => (match o with | .inl r => leR | .inr x191 => (leB (strings_Builder_WriteString.f_le k _ _) (fun y212 => (ih _ _ _)))))))) leR))))) leR)
def table_Text.f_g (k : Nat) (a0 : api_Table) : Option (Str × Int) := (table_Check.f_g k) a0 >>= fun y1 => if y1.2 = 0 then (((table_Text.l2_g k) a0 ([] : List UInt8) 0 >>= fun o => match o with | .inl r => some r | .inr x143 => lib_String x143 >>= fun y213 => some (y213, 0))) else (some (([] : Str), y1.2))
theorem table_Text.f_le (k : Nat) (a0 : api_Table) : LeO (table_Text.f_g k a0) (table_Text.f a0) := by
  unfold table_Text.f_g table_Text.f
  exact (leB (table_Check.f_le k _) (fun y1 => (leI (leB (table_Text.l2_le k _ _ _) (fun o => (match o with | .inl r => leR | .inr x143 => (leB leR (fun y213 => leR))))) leR)))
def reticentlaw06_alive.f_g (k : Nat) : Option Bool := (table_Usual.f_g k) >>= fun y1 => (table_Text.f_g k) y1 >>= fun y2 => ((if y2.2 = 0 then (if (y2.1.length : Int) > 40 then (lib_Contains y2.1 ([97, 100, 100, 32, 58, 32, 116, 114, 117, 101, 32, 59, 32, 111, 110, 101, 32, 106, 111, 105, 110, 32, 116, 119, 111, 32, 59, 32, 112, 99, 32, 59, 10] : Str) >>= fun y9 => some y9) else (some false)) else (some false) : Option Bool) >>= fun x6 => some x6)
theorem reticentlaw06_alive.f_le (k : Nat) : LeO (reticentlaw06_alive.f_g k ) (reticentlaw06_alive.f ) := by
  unfold reticentlaw06_alive.f_g reticentlaw06_alive.f
  exact (leB (table_Usual.f_le k) (fun y1 => (leB (table_Text.f_le k _) (fun y2 => (leB (leI (leI (leB leR (fun y9 => leR)) leR) leR) (fun x6 => leR))))))
end Go.Proofs.YtjkijjhjffodcaaDoor.TN
