import Derived.Test.YtjkijjhjffodcaaDoorAb28
set_option linter.unusedVariables false
namespace Go.Proofs.YtjkijjhjffodcaaDoor.TN
open Go Go.Proofs.YtjkijjhjffodcaaDoor.Ab

structure api_Row where
  May : List Int
  Res : List Int
  Pc : List Int
structure api_Table where
  Rows : List api_Row
structure api_Tok where
  Kind : Int
  Text : Str
  At : Int
structure reticentref03_R where
  L : List api_Tok
  At : Int
  E : Int
structure reticentref06_P where
  I : Int
  R : api_Row
  E : Int
structure reticentref04_P where
  L : List api_Tok
  I : Int
  Out : List Int
  Deep : Int
  E : Int
structure reticentref06_R where
  T : api_Table
  At : Int
  E : Int
structure show_piece where
  text_ : Str
  binds_ : Int
  deep_ : Int
structure show_piece_171 where
  l_ : List show_piece
def ks0 : Str := [110, 111, 111, 112, 58, 32, 116, 114, 117, 101, 59, 32, 98, 111, 116, 59, 32, 112, 99, 59, 32, 112, 117, 115, 104, 58, 32, 116, 114, 117, 101, 59, 32, 111, 110, 101, 59, 32, 112, 99, 59, 32, 112, 111, 112, 58, 32, 116, 114, 117, 101, 59, 32, 98, 111, 116, 59, 32, 112, 99, 59, 32, 97, 100, 100, 58, 32, 116, 114, 117, 101, 59, 32, 111, 110, 101, 32, 106, 111, 105, 110, 32, 116, 119, 111, 59, 32, 112, 99, 59, 32, 115, 117, 98, 58, 32, 116, 114, 117, 101, 59, 32, 111, 110, 101, 32, 106, 111, 105, 110, 32, 116, 119, 111, 59, 32, 112, 99, 59, 32, 108, 111, 97, 100, 58, 32, 116, 114, 117, 101, 59, 32, 111, 110, 101, 32, 106, 111, 105, 110, 32, 116, 119, 111, 59, 32, 112, 99, 59, 32, 115, 116, 111, 114, 101, 58, 32, 111, 110, 101, 32, 106, 111, 105, 110, 32, 112, 99, 32, 60, 61, 32, 116, 104, 114, 101, 101, 59, 32, 111, 110, 101, 32, 106, 111, 105, 110, 32, 116, 119, 111, 32, 106, 111, 105, 110, 32, 112, 99, 59, 32, 112, 99, 59, 32, 106, 117, 109, 112, 58, 32, 116, 114, 117, 101, 59, 32, 98, 111, 116, 59, 32, 111, 110, 101, 32, 106, 111, 105, 110, 32, 112, 99, 59, 32, 98, 110, 122, 58, 32, 116, 114, 117, 101, 59, 32, 98, 111, 116, 59, 32, 111, 110, 101, 32, 106, 111, 105, 110, 32, 112, 99, 59, 32, 99, 97, 108, 108, 58, 32, 116, 114, 117, 101, 59, 32, 98, 111, 116, 59, 32, 111, 110, 101, 32, 106, 111, 105, 110, 32, 112, 99, 59, 32, 114, 101, 116, 117, 114, 110, 58, 32, 116, 114, 117, 101, 59, 32, 111, 110, 101, 32, 106, 111, 105, 110, 32, 112, 99, 59, 32, 116, 119, 111, 59, 32, 111, 117, 116, 112, 117, 116, 58, 32, 116, 114, 117, 101, 59, 32, 111, 110, 101, 32, 106, 111, 105, 110, 32, 112, 99, 59, 32, 112, 99, 59, 32, 104, 97, 108, 116, 58, 32, 116, 114, 117, 101, 59, 32, 98, 111, 116, 59, 32, 112, 99, 59]
def f_api_Row : List (Fld api_Row) := [⟨(kL (kI .i64)), api_Row.May⟩, ⟨(kL (kI .i64)), api_Row.Res⟩, ⟨(kL (kI .i64)), api_Row.Pc⟩]
def f_api_Table : List (Fld api_Table) := [⟨(kL (kR f_api_Row)), api_Table.Rows⟩]
def f_api_Tok : List (Fld api_Tok) := [⟨(kI .i64), api_Tok.Kind⟩, ⟨kS, api_Tok.Text⟩, ⟨(kI .i64), api_Tok.At⟩]
def f_reticentref03_R : List (Fld reticentref03_R) := [⟨(kL (kR f_api_Tok)), reticentref03_R.L⟩, ⟨(kI .i64), reticentref03_R.At⟩, ⟨(kI .i64), reticentref03_R.E⟩]
def f_reticentref06_P : List (Fld reticentref06_P) := [⟨(kI .i64), reticentref06_P.I⟩, ⟨(kR f_api_Row), reticentref06_P.R⟩, ⟨(kI .i64), reticentref06_P.E⟩]
def f_reticentref04_P : List (Fld reticentref04_P) := [⟨(kL (kR f_api_Tok)), reticentref04_P.L⟩, ⟨(kI .i64), reticentref04_P.I⟩, ⟨(kL (kI .i64)), reticentref04_P.Out⟩, ⟨(kI .i64), reticentref04_P.Deep⟩, ⟨(kI .i64), reticentref04_P.E⟩]
def f_reticentref06_R : List (Fld reticentref06_R) := [⟨(kR f_api_Table), reticentref06_R.T⟩, ⟨(kI .i64), reticentref06_R.At⟩, ⟨(kI .i64), reticentref06_R.E⟩]
def f_show_piece : List (Fld show_piece) := [⟨kS, show_piece.text_⟩, ⟨(kI .i64), show_piece.binds_⟩, ⟨(kI .i64), show_piece.deep_⟩]
def f_show_piece_171 : List (Fld show_piece_171) := [⟨(kL (kR f_show_piece)), show_piece_171.l_⟩]
def reticentlaw06_few.l0 (a0 : api_Table) (v14 : List api_Row) (v15 : Int) : Option (List api_Row) :=
  if v15 < ((lCut a0.Rows 0 (if 15 < (a0.Rows.length : Int) then 15 else (a0.Rows.length : Int))).length : Int) then (lAt (lCut a0.Rows 0 (if 15 < (a0.Rows.length : Int) then 15 else (a0.Rows.length : Int))) v15 >>= fun y18 => if (0 : Int) ≤ (if 45 < (y18.May.length : Int) then 45 else (y18.May.length : Int)) ∧ (if 45 < (y18.May.length : Int) then 45 else (y18.May.length : Int)) ≤ (y18.May.length : Int) then (if (0 : Int) ≤ (if 45 < (y18.Res.length : Int) then 45 else (y18.Res.length : Int)) ∧ (if 45 < (y18.Res.length : Int) then 45 else (y18.Res.length : Int)) ≤ (y18.Res.length : Int) then (if (0 : Int) ≤ (if 45 < (y18.Pc.length : Int) then 45 else (y18.Pc.length : Int)) ∧ (if 45 < (y18.Pc.length : Int) then 45 else (y18.Pc.length : Int)) ≤ (y18.Pc.length : Int) then (if (v14.length + ([(⟨lCut y18.May 0 (if 45 < (y18.May.length : Int) then 45 else (y18.May.length : Int)), lCut y18.Res 0 (if 45 < (y18.Res.length : Int) then 45 else (y18.Res.length : Int)), lCut y18.Pc 0 (if 45 < (y18.Pc.length : Int) then 45 else (y18.Pc.length : Int))⟩ : api_Row)] : List api_Row).length) * 72 ≤ big then (reticentlaw06_few.l0 a0 (v14 ++ ([(⟨lCut y18.May 0 (if 45 < (y18.May.length : Int) then 45 else (y18.May.length : Int)), lCut y18.Res 0 (if 45 < (y18.Res.length : Int) then 45 else (y18.Res.length : Int)), lCut y18.Pc 0 (if 45 < (y18.Pc.length : Int) then 45 else (y18.Pc.length : Int))⟩ : api_Row)] : List api_Row)) (IntKind.i64.wrap (v15 + 1))) else none) else none) else none) else none) else (some v14)
partial_fixpoint
def reticentlaw06_few.f (a0 : api_Table) : Option api_Table :=
  if (0 : Int) ≤ (if 15 < (a0.Rows.length : Int) then 15 else (a0.Rows.length : Int)) ∧ (if 15 < (a0.Rows.length : Int) then 15 else (a0.Rows.length : Int)) ≤ (a0.Rows.length : Int) then ((reticentlaw06_few.l0 a0 ([] : List api_Row) 0 >>= fun x16 => some (⟨x16⟩ : api_Table))) else none
def table_Name.f (a0 : Int) : Option (Str × Int) :=
  ((if a0 < 0 then (some true) else (some (decide (a0 ≥ 13))) : Option Bool) >>= fun x2 => if x2 = true then (some (([] : Str), 9)) else (lAt gl0 a0 >>= fun y5 => some (y5, 0)))
def table_Arity.f (a0 : Int) : Option (Int × Int) :=
  ((if a0 < 0 then (some true) else (some (decide (a0 ≥ 13))) : Option Bool) >>= fun x2 => if x2 = true then (some (0, 9)) else (lAt gl1 a0 >>= fun y5 => some (y5, 0)))
def table_Usual.f : Option api_Table :=
  some (⟨([(⟨([1] : List Int), ([6] : List Int), ([8] : List Int)⟩ : api_Row), (⟨([1] : List Int), ([9] : List Int), ([8] : List Int)⟩ : api_Row), (⟨([1] : List Int), ([6] : List Int), ([8] : List Int)⟩ : api_Row), (⟨([1] : List Int), ([9, 10, 12] : List Int), ([8] : List Int)⟩ : api_Row), (⟨([1] : List Int), ([9, 10, 12] : List Int), ([8] : List Int)⟩ : api_Row), (⟨([1] : List Int), ([9, 10, 12] : List Int), ([8] : List Int)⟩ : api_Row), (⟨([9, 8, 12, 11, 5] : List Int), ([9, 10, 12, 8, 12] : List Int), ([8] : List Int)⟩ : api_Row), (⟨([1] : List Int), ([6] : List Int), ([9, 8, 12] : List Int)⟩ : api_Row), (⟨([1] : List Int), ([6] : List Int), ([9, 8, 12] : List Int)⟩ : api_Row), (⟨([1] : List Int), ([6] : List Int), ([9, 8, 12] : List Int)⟩ : api_Row), (⟨([1] : List Int), ([9, 8, 12] : List Int), ([10] : List Int)⟩ : api_Row), (⟨([1] : List Int), ([9, 8, 12] : List Int), ([8] : List Int)⟩ : api_Row), (⟨([1] : List Int), ([6] : List Int), ([8] : List Int)⟩ : api_Row)] : List api_Row)⟩ : api_Table)
def reticentref06_Usual.f : Option Str :=
  some ks0
def reticentref03_letter.f (a0 : Int) : Option Bool :=
  ((if a0 ≥ 97 then (some (decide (a0 ≤ 122))) else (some false) : Option Bool) >>= fun x2 => some x2)
def reticentref03_digit.f (a0 : Int) : Option Bool :=
  ((if a0 ≥ 48 then (some (decide (a0 ≤ 57))) else (some false) : Option Bool) >>= fun x2 => some x2)
def reticentref03_mark.l0 (a0 : Int) (v7 : Int) : Option (Bool ⊕ Unit) :=
  if v7 < (([40, 41, 91, 93, 59, 58, 44, 60, 62, 64, 45, 61] : List Int).length : Int) then (lAt ([40, 41, 91, 93, 59, 58, 44, 60, 62, 64, 45, 61] : List Int) v7 >>= fun y9 => if a0 = y9 then (some (.inl true)) else (reticentref03_mark.l0 a0 (IntKind.i64.wrap (v7 + 1)))) else (some (.inr ()))
partial_fixpoint
def reticentref03_mark.f (a0 : Int) : Option Bool :=
  (reticentref03_mark.l0 a0 0 >>= fun o => match o with | .inl r => some r | .inr () => some false)
def reticentref03_end.l0 (a0 : Str) (v20 : Int) : Option Int :=
  ((if v20 < (a0.length : Int) then (if (0 : Int) ≤ v20 ∧ v20 < (a0.length : Int) then (reticentref03_letter.f (sAt a0 v20) >>= fun y28 => some y28) else none) else (some false) : Option Bool) >>= fun x25 => if x25 = true then (reticentref03_end.l0 a0 (IntKind.i64.wrap (v20 + 1))) else (some v20))
partial_fixpoint
def reticentref03_end.l1 (a0 : Str) (v49 : Int) : Option Int :=
  ((if v49 < (a0.length : Int) then (if (0 : Int) ≤ v49 ∧ v49 < (a0.length : Int) then (reticentref03_digit.f (sAt a0 v49) >>= fun y57 => some y57) else none) else (some false) : Option Bool) >>= fun x54 => if x54 = true then (reticentref03_end.l1 a0 (IntKind.i64.wrap (v49 + 1))) else (some v49))
partial_fixpoint
def reticentref03_end.f (a0 : Str) (a1 : Int) : Option Int :=
  if (0 : Int) ≤ a1 ∧ a1 < (a0.length : Int) then (reticentref03_letter.f (sAt a0 a1) >>= fun y2 => if y2 = true then ((reticentref03_end.l0 a0 a1 >>= fun x21 => some x21)) else (if (0 : Int) ≤ a1 ∧ a1 < (a0.length : Int) then (reticentref03_digit.f (sAt a0 a1) >>= fun y31 => if y31 = true then ((reticentref03_end.l1 a0 a1 >>= fun x50 => some x50)) else (((if (0 : Int) ≤ a1 ∧ a1 < (a0.length : Int) then (if sAt a0 a1 = 60 then (if IntKind.i64.wrap (a1 + 1) < (a0.length : Int) then (if (0 : Int) ≤ IntKind.i64.wrap (a1 + 1) ∧ IntKind.i64.wrap (a1 + 1) < (a0.length : Int) then (some (decide (sAt a0 (IntKind.i64.wrap (a1 + 1)) = 61))) else none) else (some false)) else (some false)) else none : Option Bool) >>= fun x63 => if x63 = true then (some (IntKind.i64.wrap (a1 + 2))) else (if (0 : Int) ≤ a1 ∧ a1 < (a0.length : Int) then (reticentref03_mark.f (sAt a0 a1) >>= fun y70 => if y70 = true then (some (IntKind.i64.wrap (a1 + 1))) else (some a1)) else none)))) else none)) else none
def reticentref03_kind.f (a0 : Int) : Option Int :=
  reticentref03_letter.f a0 >>= fun y1 => if y1 = true then (some 1) else (reticentref03_digit.f a0 >>= fun y3 => if y3 = true then (some 2) else (some 3))
def reticentref03_Lex.l6 (a0 : Str) (v240 : Int) : Option Int :=
  ((if v240 < (a0.length : Int) then (if (0 : Int) ≤ v240 ∧ v240 < (a0.length : Int) then (some (!decide (sAt a0 v240 = 10))) else none) else (some false) : Option Bool) >>= fun x244 => if x244 = true then (reticentref03_Lex.l6 a0 (IntKind.i64.wrap (v240 + 1))) else (some v240))
partial_fixpoint
def reticentref03_Lex.l4 (a0 : Str) (v168 : List api_Tok) (v169 : Int) : Option (reticentref03_R ⊕ (List api_Tok)) :=
  if v169 < (a0.length : Int) then (((((if (0 : Int) ≤ v169 ∧ v169 < (a0.length : Int) then (if sAt a0 v169 = 9 then (some true) else (if (0 : Int) ≤ v169 ∧ v169 < (a0.length : Int) then (if sAt a0 v169 = 10 then (some true) else (if (0 : Int) ≤ v169 ∧ v169 < (a0.length : Int) then (some (decide (sAt a0 v169 = 32))) else none)) else none)) else none : Option Bool) >>= fun x219 => if x219 = true then (some (.inr (v168, IntKind.i64.wrap (v169 + 1)))) else (if (0 : Int) ≤ v169 ∧ v169 < (a0.length : Int) then (if sAt a0 v169 = 35 then ((reticentref03_Lex.l6 a0 v169 >>= fun x241 => some (.inr (v168, x241)))) else (reticentref03_end.f a0 v169 >>= fun y248 => if y248 = v169 then (some (.inl (⟨[], v169, 4⟩ : reticentref03_R))) else (if (0 : Int) ≤ v169 ∧ v169 < (a0.length : Int) then (reticentref03_kind.f (sAt a0 v169) >>= fun y251 => if (0 : Int) ≤ v169 ∧ v169 ≤ y248 ∧ y248 ≤ (a0.length : Int) then (if (v168.length + ([(⟨y251, sCut a0 v169 y248, v169⟩ : api_Tok)] : List api_Tok).length) * 32 ≤ big then (some (.inr (v168 ++ ([(⟨y251, sCut a0 v169 y248, v169⟩ : api_Tok)] : List api_Tok), y248))) else none) else none) else none))) else none)) : Option (reticentref03_R ⊕ ((List api_Tok) × Int))) >>= fun o => match o with | .inl r => some (.inl r) | .inr (x212, x213) => reticentref03_Lex.l4 a0 x212 x213)) else (some (.inr v168))
partial_fixpoint
def reticentref03_Lex.f (a0 : Str) : Option reticentref03_R :=
  if (a0.length : Int) > 2000 then (some (⟨[], 0, 8⟩ : reticentref03_R)) else ((reticentref03_Lex.l4 a0 ([] : List api_Tok) 0 >>= fun o => match o with | .inl r => some r | .inr x170 => if (x170.length + ([(⟨0, [], (a0.length : Int)⟩ : api_Tok)] : List api_Tok).length) * 32 ≤ big then (if ((x170 ++ ([(⟨0, [], (a0.length : Int)⟩ : api_Tok)] : List api_Tok)).length : Int) > 200 then (some (⟨[], 0, 8⟩ : reticentref03_R)) else (some (⟨x170 ++ ([(⟨0, [], (a0.length : Int)⟩ : api_Tok)] : List api_Tok), 0, 0⟩ : reticentref03_R))) else none))
def reticentref06_Word.f (a0 : Int) : Option Str :=
  lAt ([([110, 111, 111, 112] : Str), ([112, 117, 115, 104] : Str), ([112, 111, 112] : Str), ([97, 100, 100] : Str), ([115, 117, 98] : Str), ([108, 111, 97, 100] : Str), ([115, 116, 111, 114, 101] : Str), ([106, 117, 109, 112] : Str), ([98, 110, 122] : Str), ([99, 97, 108, 108] : Str), ([114, 101, 116, 117, 114, 110] : Str), ([111, 117, 116, 112, 117, 116] : Str), ([104, 97, 108, 116] : Str)] : List Str) a0 >>= fun y1 => some y1
def reticentref06_Op.l0 (a0 : Str) (v7 : Int) : Option (Int ⊕ Unit) :=
  if v7 < 13 then (reticentref06_Word.f v7 >>= fun y9 => if y9 = a0 then (some (.inl v7)) else (reticentref06_Op.l0 a0 (IntKind.i64.wrap (v7 + 1)))) else (some (.inr ()))
partial_fixpoint
def reticentref06_Op.f (a0 : Str) : Option Int :=
  (reticentref06_Op.l0 a0 0 >>= fun o => match o with | .inl r => some r | .inr () => some (-1))
def reticentref06_mark.f (a0 : List api_Tok) (a1 : reticentref06_P) (a2 : Str) : Option reticentref06_P :=
  if a1.E = 0 then (((lAt a0 a1.I >>= fun y6 => if y6.Kind = 3 then (lAt a0 a1.I >>= fun y8 => some (!decide (y8.Text = a2))) else (some true) : Option Bool) >>= fun x5 => if x5 = true then (some (⟨a1.I, a1.R, 4⟩ : reticentref06_P)) else (some (⟨IntKind.i64.wrap (a1.I + 1), a1.R, a1.E⟩ : reticentref06_P)))) else (some a1)
def reticentref04_here.f (a0 : reticentref04_P) (a1 : Str) : Option Bool :=
  lAt a0.L a0.I >>= fun y1 => ((if a0.E = 0 then (if y1.Kind = 1 then (some (decide (y1.Text = a1))) else (if y1.Kind = 3 then (some (decide (y1.Text = a1))) else (some false))) else (some false) : Option Bool) >>= fun x5 => some x5)
def reticentref04_next.f (a0 : reticentref04_P) : Option reticentref04_P :=
  if IntKind.i64.wrap (a0.I + 1) < (a0.L.length : Int) then (some (⟨a0.L, IntKind.i64.wrap (a0.I + 1), a0.Out, a0.Deep, a0.E⟩ : reticentref04_P)) else (some a0)
def reticentref04_fail.f (a0 : reticentref04_P) (a1 : Int) : Option reticentref04_P :=
  if a0.E = 0 then (some (⟨a0.L, a0.I, a0.Out, a0.Deep, a1⟩ : reticentref04_P)) else (some a0)
def reticentref04_put.f (a0 : reticentref04_P) (a1 : Int) : Option reticentref04_P :=
  if a0.E = 0 then (if (a0.Out.length : Int) = 40 then (reticentref04_fail.f a0 8 >>= fun y3 => some y3) else (if (([] : List Int).length + a0.Out.length) * 8 ≤ big then (if ((([] : List Int) ++ a0.Out).length + ([a1] : List Int).length) * 8 ≤ big then (some (⟨a0.L, a0.I, (([] : List Int) ++ a0.Out) ++ ([a1] : List Int), a0.Deep, a0.E⟩ : reticentref04_P)) else none) else none)) else (some a0)
def reticentref04_must.f (a0 : reticentref04_P) (a1 : Str) : Option reticentref04_P :=
  if a0.E = 0 then (reticentref04_here.f a0 a1 >>= fun y2 => if (!y2) = true then (reticentref04_fail.f a0 4 >>= fun y4 => some y4) else (reticentref04_next.f a0 >>= fun y5 => some y5)) else (some a0)
def reticentref04_inside.f (rc218 : reticentref04_P → Int → Option reticentref04_P) (a0 : reticentref04_P) (a1 : Int) (a2 : Str) : Option reticentref04_P :=
  if a0.Deep = 12 then (reticentref04_fail.f a0 5 >>= fun y2 => some y2) else (reticentref04_next.f a0 >>= fun y3 => rc218 (⟨y3.L, y3.I, y3.Out, IntKind.i64.wrap (y3.Deep + 1), y3.E⟩ : reticentref04_P) a1 >>= fun y4 => reticentref04_must.f (⟨y4.L, y4.I, y4.Out, IntKind.i64.wrap (y4.Deep - 1), y4.E⟩ : reticentref04_P) a2 >>= fun y5 => some y5)
def reticentref04_prim.f (rc218 : reticentref04_P → Int → Option reticentref04_P) (a0 : reticentref04_P) : Option reticentref04_P :=
  reticentref04_here.f a0 ([116, 114, 117, 101] : Str) >>= fun y1 => if y1 = true then (reticentref04_next.f a0 >>= fun y3 => reticentref04_put.f y3 1 >>= fun y4 => some y4) else (reticentref04_here.f a0 ([102, 97, 108, 115, 101] : Str) >>= fun y5 => if y5 = true then (reticentref04_next.f a0 >>= fun y7 => reticentref04_put.f y7 2 >>= fun y8 => some y8) else (reticentref04_here.f a0 ([40] : Str) >>= fun y9 => if y9 = true then (reticentref04_inside.f rc218 a0 0 ([41] : Str) >>= fun y11 => some y11) else (rc218 a0 2 >>= fun y12 => reticentref04_must.f y12 ([60, 61] : Str) >>= fun y13 => rc218 y13 2 >>= fun y14 => reticentref04_put.f y14 5 >>= fun y15 => some y15)))
def reticentref04_atom.l0 (a0 : reticentref04_P) (v26 : Int) : Option (reticentref04_P ⊕ Unit) :=
  if v26 < (([([98, 111, 116] : Str), ([116, 111, 112] : Str), ([112, 99] : Str), ([111, 110, 101] : Str), ([116, 119, 111] : Str), ([116, 104, 114, 101, 101] : Str)] : List Str).length : Int) then (lAt ([([98, 111, 116] : Str), ([116, 111, 112] : Str), ([112, 99] : Str), ([111, 110, 101] : Str), ([116, 119, 111] : Str), ([116, 104, 114, 101, 101] : Str)] : List Str) v26 >>= fun y28 => ((lAt a0.L a0.I >>= fun y33 => if y33.Kind = 1 then (lAt a0.L a0.I >>= fun y35 => some (decide (y35.Text = y28))) else (some false) : Option Bool) >>= fun x32 => if x32 = true then (reticentref04_next.f a0 >>= fun y37 => reticentref04_put.f y37 (IntKind.i64.wrap (6 + v26)) >>= fun y38 => some (.inl y38)) else (reticentref04_atom.l0 a0 (IntKind.i64.wrap (v26 + 1))))) else (some (.inr ()))
partial_fixpoint
def reticentref04_atom.f (rc218 : reticentref04_P → Int → Option reticentref04_P) (a0 : reticentref04_P) : Option reticentref04_P :=
  if a0.E = 0 then ((reticentref04_atom.l0 a0 0 >>= fun o => match o with | .inl r => some r | .inr () => reticentref04_here.f a0 ([91] : Str) >>= fun y39 => if y39 = true then (reticentref04_inside.f rc218 a0 2 ([93] : Str) >>= fun y41 => some y41) else (reticentref04_fail.f a0 4 >>= fun y42 => some y42))) else (some a0)
def reticentref04_one.f (rc218 : reticentref04_P → Int → Option reticentref04_P) (a0 : reticentref04_P) (a1 : Int) : Option reticentref04_P :=
  if a1 = 0 then (rc218 a0 1 >>= fun y2 => some y2) else (if a1 = 1 then (reticentref04_prim.f rc218 a0 >>= fun y4 => some y4) else (if a1 = 2 then (rc218 a0 3 >>= fun y6 => some y6) else (reticentref04_atom.f rc218 a0 >>= fun y7 => some y7)))
def reticentref04_row.l0 (a1 : Int) (y1 : Str) (y2 : Int) (rc218 : reticentref04_P → Int → Option reticentref04_P) (v14 : List api_Tok) (v15 : Int) (v16 : List Int) (v17 : Int) (v18 : Int) : Option ((List api_Tok) × Int × (List Int) × Int × Int) :=
  reticentref04_here.f (⟨v14, v15, v16, v17, v18⟩ : reticentref04_P) y1 >>= fun y24 => if y24 = true then (reticentref04_next.f (⟨v14, v15, v16, v17, v18⟩ : reticentref04_P) >>= fun y26 => reticentref04_one.f rc218 y26 a1 >>= fun y27 => reticentref04_put.f y27 y2 >>= fun y28 => reticentref04_row.l0 a1 y1 y2 rc218 y28.L y28.I y28.Out y28.Deep y28.E) else (some (v14, v15, v16, v17, v18))
partial_fixpoint
def reticentref04_row.B (rc218 : reticentref04_P → Int → Option reticentref04_P) (a0 : reticentref04_P) (a1 : Int) : Option reticentref04_P :=
  lAt ([([111, 114] : Str), ([97, 110, 100] : Str), ([106, 111, 105, 110] : Str), ([109, 101, 101, 116] : Str)] : List Str) a1 >>= fun y1 => lAt ([4, 3, 12, 13] : List Int) a1 >>= fun y2 => reticentref04_one.f rc218 a0 a1 >>= fun y3 => (reticentref04_row.l0 a1 y1 y2 rc218 y3.L y3.I y3.Out y3.Deep y3.E >>= fun o => match o with | (x19, x20, x21, x22, x23) => some (⟨x19, x20, x21, x22, x23⟩ : reticentref04_P))
def reticentref04_row.F : Nat → reticentref04_P → Int → Option reticentref04_P
  | 0 => fun _ _ => none
  | k + 1 => reticentref04_row.B (reticentref04_row.F k) 
def reticentref04_row.f (a0 : reticentref04_P) (a1 : Int) : Option reticentref04_P := reticentref04_row.F 1000 a0 a1 
def reticentref04_From.f (a0 : List api_Tok) (a1 : Int) (a2 : Bool) : Option reticentref04_P :=
  if a2 = true then (reticentref04_row.f (⟨a0, a1, [], 0, 0⟩ : reticentref04_P) 2 >>= fun y2 => some y2) else (reticentref04_row.f (⟨a0, a1, [], 0, 0⟩ : reticentref04_P) 0 >>= fun y3 => some y3)
def reticentref06_part.f (a0 : List api_Tok) (a1 : reticentref06_P) (a2 : Int) : Option reticentref06_P :=
  if a1.E = 0 then (reticentref04_From.f a0 a1.I (decide (a2 > 0)) >>= fun y2 => if a2 = 0 then (reticentref06_mark.f a0 (⟨y2.I, ⟨y2.Out, a1.R.Res, a1.R.Pc⟩, y2.E⟩ : reticentref06_P) ([59] : Str) >>= fun y4 => some y4) else (if a2 = 1 then (reticentref06_mark.f a0 (⟨y2.I, ⟨a1.R.May, y2.Out, a1.R.Pc⟩, y2.E⟩ : reticentref06_P) ([59] : Str) >>= fun y6 => some y6) else (reticentref06_mark.f a0 (⟨y2.I, ⟨a1.R.May, a1.R.Res, y2.Out⟩, y2.E⟩ : reticentref06_P) ([59] : Str) >>= fun y7 => some y7))) else (some a1)
def reticentref06_row.l0 (a0 : List api_Tok) (v6 : Int) (v7 : List Int) (v8 : List Int) (v9 : List Int) (v10 : Int) (v11 : Int) : Option (Int × (List Int) × (List Int) × (List Int) × Int) :=
  if v11 < 3 then (reticentref06_part.f a0 (⟨v6, ⟨v7, v8, v9⟩, v10⟩ : reticentref06_P) v11 >>= fun y18 => reticentref06_row.l0 a0 y18.I y18.R.May y18.R.Res y18.R.Pc y18.E (IntKind.i64.wrap (v11 + 1))) else (some (v6, v7, v8, v9, v10))
partial_fixpoint
def reticentref06_row.f (a0 : List api_Tok) (a1 : Int) : Option reticentref06_P :=
  reticentref06_mark.f a0 (⟨a1, (⟨[], [], []⟩ : api_Row), 0⟩ : reticentref06_P) ([58] : Str) >>= fun y1 => (reticentref06_row.l0 a0 y1.I y1.R.May y1.R.Res y1.R.Pc y1.E 0 >>= fun o => match o with | (x12, x13, x14, x15, x16) => some (⟨x12, ⟨x13, x14, x15⟩, x16⟩ : reticentref06_P))
def reticentref04_two.f (a0 : List Int) (a1 : Int) : Option Bool :=
  ((if (a0.length : Int) ≥ 2 then (lAt a0 (IntKind.i64.wrap ((a0.length : Int) - 1)) >>= fun y7 => if y7 = a1 then (lAt a0 (IntKind.i64.wrap ((a0.length : Int) - 2)) >>= fun y9 => some (decide (y9 = a1))) else (some false)) else (some false) : Option Bool) >>= fun x5 => some x5)
def reticentref04_Made.l0 (a0 : List Int) (v169 : List Int) (v170 : Int) : Option (Int ⊕ (List Int)) :=
  if v170 < (a0.length : Int) then (((lAt a0 v170 >>= fun y215 => ((if y215 = 1 then (some true) else (some (decide (y215 = 2))) : Option Bool) >>= fun x217 => if x217 = true then (if (v169.length + ([1] : List Int).length) * 8 ≤ big then (some (.inr (v169 ++ ([1] : List Int)))) else none) else (((if y215 ≥ 6 then (some (decide (y215 ≤ 11))) else (some false) : Option Bool) >>= fun x222 => if x222 = true then (if (v169.length + ([2] : List Int).length) * 8 ≤ big then (some (.inr (v169 ++ ([2] : List Int)))) else none) else (((if y215 = 3 then (reticentref04_two.f v169 1 >>= fun y232 => some y232) else (if y215 = 4 then (reticentref04_two.f v169 1 >>= fun y234 => some y234) else (some false)) : Option Bool) >>= fun x230 => if x230 = true then (if (0 : Int) ≤ IntKind.i64.wrap ((v169.length : Int) - 1) ∧ IntKind.i64.wrap ((v169.length : Int) - 1) ≤ (v169.length : Int) then (some (.inr (v169.take (IntKind.i64.wrap ((v169.length : Int) - 1)).toNat))) else none) else (((if y215 = 5 then (reticentref04_two.f v169 2 >>= fun y241 => some y241) else (some false) : Option Bool) >>= fun x239 => if x239 = true then (if (0 : Int) ≤ IntKind.i64.wrap ((v169.length : Int) - 2) ∧ IntKind.i64.wrap ((v169.length : Int) - 2) ≤ (v169.length : Int) then (if ((v169.take (IntKind.i64.wrap ((v169.length : Int) - 2)).toNat).length + ([1] : List Int).length) * 8 ≤ big then (some (.inr ((v169.take (IntKind.i64.wrap ((v169.length : Int) - 2)).toNat) ++ ([1] : List Int)))) else none) else none) else (((if y215 = 12 then (reticentref04_two.f v169 2 >>= fun y251 => some y251) else (if y215 = 13 then (reticentref04_two.f v169 2 >>= fun y253 => some y253) else (some false)) : Option Bool) >>= fun x249 => if x249 = true then (if (0 : Int) ≤ IntKind.i64.wrap ((v169.length : Int) - 1) ∧ IntKind.i64.wrap ((v169.length : Int) - 1) ≤ (v169.length : Int) then (some (.inr (v169.take (IntKind.i64.wrap ((v169.length : Int) - 1)).toNat))) else none) else (some (.inl 0))))))))))) : Option (Int ⊕ (List Int))) >>= fun o => match o with | .inl r => some (.inl r) | .inr x214 => reticentref04_Made.l0 a0 x214 (IntKind.i64.wrap (v170 + 1)))) else (some (.inr v169))
partial_fixpoint
def reticentref04_Made.f (a0 : List Int) : Option Int :=
  (reticentref04_Made.l0 a0 ([] : List Int) 0 >>= fun o => match o with | .inl r => some r | .inr x171 => ((if (x171.length : Int) = 1 then (some (decide ((a0.length : Int) > 40))) else (some true) : Option Bool) >>= fun x257 => if x257 = true then (some 0) else (lAt x171 0 >>= fun y260 => some y260)))
def reticentref04_Right.f (a0 : List Int) (a1 : Bool) : Option Bool :=
  if a1 = true then (reticentref04_Made.f a0 >>= fun y2 => some (decide (y2 = 2))) else (reticentref04_Made.f a0 >>= fun y3 => some (decide (y3 = 1)))
def reticentref06_Arity.f (a0 : Int) : Option Int :=
  lAt ([0, 1, 1, 2, 2, 2, 3, 1, 1, 1, 2, 1, 0] : List Int) a0 >>= fun y1 => some y1
def reticentref04_Has.l0 (a0 : List Int) (a1 : Int) (v7 : Int) : Option (Bool ⊕ Unit) :=
  if v7 < (a0.length : Int) then (lAt a0 v7 >>= fun y9 => if y9 = IntKind.i64.wrap (8 + a1) then (some (.inl true)) else (reticentref04_Has.l0 a0 a1 (IntKind.i64.wrap (v7 + 1)))) else (some (.inr ()))
partial_fixpoint
def reticentref04_Has.f (a0 : List Int) (a1 : Int) : Option Bool :=
  (reticentref04_Has.l0 a0 a1 0 >>= fun o => match o with | .inl r => some r | .inr () => some false)
def reticentref06_has.l0 (a1 : List Int) (v8 : Int) : Option (Bool ⊕ Unit) :=
  if v8 < 4 then (reticentref04_Has.f a1 v8 >>= fun y10 => if y10 = true then (some (.inl false)) else (reticentref06_has.l0 a1 (IntKind.i64.wrap (v8 + 1)))) else (some (.inr ()))
partial_fixpoint
def reticentref06_has.f (a0 : Int) (a1 : List Int) : Option Bool :=
  reticentref06_Arity.f a0 >>= fun y1 => (reticentref06_has.l0 a1 (IntKind.i64.wrap (y1 + 1)) >>= fun o => match o with | .inl r => some r | .inr () => some true)
def reticentref06_Row.f (a0 : Int) (a1 : api_Row) : Option Int :=
  ((reticentref04_Right.f a1.May false >>= fun y7 => if (!y7) = true then (some true) else (reticentref04_Right.f a1.Res true >>= fun y9 => if (!y9) = true then (some true) else (reticentref04_Right.f a1.Pc true >>= fun y11 => some (!y11))) : Option Bool) >>= fun x6 => if x6 = true then (some 1) else (((reticentref06_has.f a0 a1.May >>= fun y19 => if (!y19) = true then (some true) else (reticentref06_has.f a0 a1.Res >>= fun y21 => if (!y21) = true then (some true) else (reticentref06_has.f a0 a1.Pc >>= fun y23 => some (!y23))) : Option Bool) >>= fun x18 => if x18 = true then (some 7) else (some 0))))
def reticentref06_Parse.l0 (v9 : List api_Row) (v10 : List Bool) (v11 : Int) : Option ((List api_Row) × (List Bool)) :=
  if v11 < 13 then (if (v9.length + ([(⟨[], [], []⟩ : api_Row)] : List api_Row).length) * 72 ≤ big then (if (v10.length + ([false] : List Bool).length) * 1 ≤ big then (reticentref06_Parse.l0 (v9 ++ ([(⟨[], [], []⟩ : api_Row)] : List api_Row)) (v10 ++ ([false] : List Bool)) (IntKind.i64.wrap (v11 + 1))) else none) else none) else (some (v9, v10))
partial_fixpoint
def reticentref06_Parse.l1 (y1 : reticentref03_R) (v61 : List api_Row) (v62 : List Bool) (v63 : Int) : Option (reticentref06_R ⊕ ((List api_Row) × (List Bool) × Int)) :=
  lAt y1.L v63 >>= fun y67 => if y67.Kind = 0 then (some (.inr (v61, v62, v63))) else (lAt y1.L v63 >>= fun y69 => if y69.Kind = 1 then (lAt y1.L v63 >>= fun y71 => reticentref06_Op.f y71.Text >>= fun y72 => ((if y72 < 0 then (some true) else (lAt v62 y72 >>= fun y77 => some y77) : Option Bool) >>= fun x75 => if x75 = true then (lAt y1.L v63 >>= fun y79 => some (.inl (⟨⟨[]⟩, y79.At, 6⟩ : reticentref06_R))) else (reticentref06_row.f y1.L (IntKind.i64.wrap (v63 + 1)) >>= fun y80 => if y80.E = 0 then (reticentref06_Row.f y72 y80.R >>= fun y82 => if y82 = 0 then (lAt v61 y72 >>= fun y84 => lAt v62 y72 >>= fun y85 => reticentref06_Parse.l1 y1 (v61.set y72.toNat y80.R) (v62.set y72.toNat true) y80.I) else (lAt y1.L v63 >>= fun y86 => some (.inl (⟨⟨[]⟩, y86.At, 7⟩ : reticentref06_R)))) else (lAt y1.L y80.I >>= fun y87 => some (.inl (⟨⟨[]⟩, y87.At, y80.E⟩ : reticentref06_R)))))) else (lAt y1.L v63 >>= fun y88 => some (.inl (⟨⟨[]⟩, y88.At, 4⟩ : reticentref06_R))))
partial_fixpoint
def reticentref06_Parse.l2 (y1 : reticentref03_R) (x65 : List Bool) (x66 : Int) (v97 : Int) : Option (reticentref06_R ⊕ (List Bool)) :=
  if v97 < (x65.length : Int) then (lAt x65 v97 >>= fun y100 => if (!y100) = true then (lAt y1.L x66 >>= fun y102 => some (.inl (⟨⟨[]⟩, y102.At, 9⟩ : reticentref06_R))) else (reticentref06_Parse.l2 y1 x65 x66 (IntKind.i64.wrap (v97 + 1)))) else (some (.inr x65))
partial_fixpoint
def reticentref06_Parse.f (a0 : Str) : Option reticentref06_R :=
  reticentref03_Lex.f a0 >>= fun y1 => if y1.E = 0 then ((reticentref06_Parse.l0 ([] : List api_Row) ([] : List Bool) 0 >>= fun o => match o with | (x12, x13) => (reticentref06_Parse.l1 y1 x12 x13 0 >>= fun o => match o with | .inl r => some r | .inr (x64, x65, x66) => (reticentref06_Parse.l2 y1 x65 x66 0 >>= fun o => match o with | .inl r => some r | .inr x98 => some (⟨⟨x64⟩, 0, 0⟩ : reticentref06_R))))) else (some (⟨⟨[]⟩, y1.At, y1.E⟩ : reticentref06_R))
def slices_EqualFunc_api_Row_api_Row_api_Row_api_Row.l0 (a0 : List api_Row) (a1 : List api_Row) (a2 : api_Row → api_Row → Option Bool) (v12 : Int) : Option (Bool ⊕ Unit) :=
  if v12 < (a0.length : Int) then (lAt a0 v12 >>= fun y14 => lAt a1 v12 >>= fun y15 => a2 y14 y15 >>= fun y16 => if (!y16) = true then (some (.inl false)) else (slices_EqualFunc_api_Row_api_Row_api_Row_api_Row.l0 a0 a1 a2 (IntKind.i64.wrap (v12 + 1)))) else (some (.inr ()))
partial_fixpoint
def slices_EqualFunc_api_Row_api_Row_api_Row_api_Row.f (a0 : List api_Row) (a1 : List api_Row) (a2 : api_Row → api_Row → Option Bool) : Option Bool :=
  if (a0.length : Int) = (a1.length : Int) then ((slices_EqualFunc_api_Row_api_Row_api_Row_api_Row.l0 a0 a1 a2 0 >>= fun o => match o with | .inl r => some r | .inr () => some true)) else (some false)
def slices_Equal_int_int.l0 (a0 : List Int) (a1 : List Int) (v10 : Int) : Option (Bool ⊕ Unit) :=
  if v10 < (a0.length : Int) then (lAt a0 v10 >>= fun y12 => lAt a1 v10 >>= fun y13 => if y12 = y13 then (slices_Equal_int_int.l0 a0 a1 (IntKind.i64.wrap (v10 + 1))) else (some (.inl false))) else (some (.inr ()))
partial_fixpoint
def slices_Equal_int_int.f (a0 : List Int) (a1 : List Int) : Option Bool :=
  if (a0.length : Int) = (a1.length : Int) then ((slices_Equal_int_int.l0 a0 a1 0 >>= fun o => match o with | .inl r => some r | .inr () => some true)) else (some false)
def table_likeRow.f (a0 : api_Row) (a1 : api_Row) : Option Bool :=
  ((slices_Equal_int_int.f a0.May a1.May >>= fun y7 => if y7 = true then (slices_Equal_int_int.f a0.Res a1.Res >>= fun y9 => if y9 = true then (slices_Equal_int_int.f a0.Pc a1.Pc >>= fun y11 => some y11) else (some false)) else (some false) : Option Bool) >>= fun x6 => some x6)
def table_Like.f (a0 : api_Table) (a1 : api_Table) : Option Bool :=
  slices_EqualFunc_api_Row_api_Row_api_Row_api_Row.f a0.Rows a1.Rows table_likeRow.f >>= fun y1 => some y1
def reticentref04_Same.l0 (a0 : List Int) (a1 : List Int) (v10 : Int) : Option (Bool ⊕ Unit) :=
  if v10 < (a0.length : Int) then (lAt a0 v10 >>= fun y12 => lAt a1 v10 >>= fun y13 => if y12 = y13 then (reticentref04_Same.l0 a0 a1 (IntKind.i64.wrap (v10 + 1))) else (some (.inl false))) else (some (.inr ()))
partial_fixpoint
def reticentref04_Same.f (a0 : List Int) (a1 : List Int) : Option Bool :=
  if (a0.length : Int) = (a1.length : Int) then ((reticentref04_Same.l0 a0 a1 0 >>= fun o => match o with | .inl r => some r | .inr () => some true)) else (some false)
def reticentref06_Like.l0 (a0 : api_Table) (a1 : api_Table) (v52 : Int) : Option (Bool ⊕ Unit) :=
  if v52 < (a0.Rows.length : Int) then (((lAt a0.Rows v52 >>= fun y66 => lAt a1.Rows v52 >>= fun y67 => reticentref04_Same.f y66.May y67.May >>= fun y68 => if (!y68) = true then (some true) else (lAt a0.Rows v52 >>= fun y70 => lAt a1.Rows v52 >>= fun y71 => reticentref04_Same.f y70.Res y71.Res >>= fun y72 => if (!y72) = true then (some true) else (lAt a0.Rows v52 >>= fun y74 => lAt a1.Rows v52 >>= fun y75 => reticentref04_Same.f y74.Pc y75.Pc >>= fun y76 => some (!y76))) : Option Bool) >>= fun x65 => if x65 = true then (some (.inl false)) else (reticentref06_Like.l0 a0 a1 (IntKind.i64.wrap (v52 + 1))))) else (some (.inr ()))
partial_fixpoint
def reticentref06_Like.f (a0 : api_Table) (a1 : api_Table) : Option Bool :=
  if (a0.Rows.length : Int) = (a1.Rows.length : Int) then ((reticentref06_Like.l0 a0 a1 0 >>= fun o => match o with | .inl r => some r | .inr () => some true)) else (some false)
def rule_made_1.f (a0 : Bool) (a1 : List Bool) : Option ((List Bool) × Bool) :=
  ((if IntKind.i64.wrap ((a1.length : Int) - 1) < 1 then (some true) else (lAt a1 (IntKind.i64.wrap ((a1.length : Int) - 1)) >>= fun y7 => if y7 = a0 then (lAt a1 (IntKind.i64.wrap ((IntKind.i64.wrap ((a1.length : Int) - 1)) - 1)) >>= fun y9 => some (!decide (y9 = a0))) else (some true)) : Option Bool) >>= fun x5 => if x5 = true then (some (a1, false)) else (if (0 : Int) ≤ IntKind.i64.wrap ((IntKind.i64.wrap ((a1.length : Int) - 1)) - 1) ∧ IntKind.i64.wrap ((IntKind.i64.wrap ((a1.length : Int) - 1)) - 1) ≤ (a1.length : Int) then (some (a1.take (IntKind.i64.wrap ((IntKind.i64.wrap ((a1.length : Int) - 1)) - 1)).toNat, true)) else none))
def rule_made.l0 (a0 : List Int) (v269 : List Bool) (v270 : Int) : Option ((Bool × Bool) ⊕ (List Bool)) :=
  if v270 < (a0.length : Int) then (((lAt a0 v270 >>= fun y340 => ((if y340 = 1 then (if (v269.length + ([false] : List Bool).length) * 1 ≤ big then (some (v269 ++ ([false] : List Bool), true)) else none) else (if y340 = 2 then (if (v269.length + ([false] : List Bool).length) * 1 ≤ big then (some (v269 ++ ([false] : List Bool), true)) else none) else (if y340 = 6 then (if (v269.length + ([true] : List Bool).length) * 1 ≤ big then (some (v269 ++ ([true] : List Bool), true)) else none) else (if y340 = 7 then (if (v269.length + ([true] : List Bool).length) * 1 ≤ big then (some (v269 ++ ([true] : List Bool), true)) else none) else (if y340 = 8 then (if (v269.length + ([true] : List Bool).length) * 1 ≤ big then (some (v269 ++ ([true] : List Bool), true)) else none) else (if y340 = 9 then (if (v269.length + ([true] : List Bool).length) * 1 ≤ big then (some (v269 ++ ([true] : List Bool), true)) else none) else (if y340 = 10 then (if (v269.length + ([true] : List Bool).length) * 1 ≤ big then (some (v269 ++ ([true] : List Bool), true)) else none) else (if y340 = 11 then (if (v269.length + ([true] : List Bool).length) * 1 ≤ big then (some (v269 ++ ([true] : List Bool), true)) else none) else (if y340 = 3 then (rule_made_1.f false v269 >>= fun y391 => if (y391.1.length + ([false] : List Bool).length) * 1 ≤ big then (some (y391.1 ++ ([false] : List Bool), y391.2)) else none) else (if y340 = 4 then (rule_made_1.f false v269 >>= fun y394 => if (y394.1.length + ([false] : List Bool).length) * 1 ≤ big then (some (y394.1 ++ ([false] : List Bool), y394.2)) else none) else (if y340 = 5 then (rule_made_1.f true v269 >>= fun y397 => if (y397.1.length + ([false] : List Bool).length) * 1 ≤ big then (some (y397.1 ++ ([false] : List Bool), y397.2)) else none) else (if y340 = 12 then (rule_made_1.f true v269 >>= fun y400 => if (y400.1.length + ([true] : List Bool).length) * 1 ≤ big then (some (y400.1 ++ ([true] : List Bool), y400.2)) else none) else (if y340 = 13 then (rule_made_1.f true v269 >>= fun y403 => if (y403.1.length + ([true] : List Bool).length) * 1 ≤ big then (some (y403.1 ++ ([true] : List Bool), y403.2)) else none) else (some (v269, false)))))))))))))) : Option ((List Bool) × Bool)) >>= fun o => match o with | (x372, x373) => if (!x373) = true then (some (.inl (false, false))) else (some (.inr x372))) : Option ((Bool × Bool) ⊕ (List Bool))) >>= fun o => match o with | .inl r => some (.inl r) | .inr x339 => rule_made.l0 a0 x339 (IntKind.i64.wrap (v270 + 1)))) else (some (.inr v269))
partial_fixpoint
def rule_made.f (a0 : List Int) : Option (Bool × Bool) :=
  (rule_made.l0 a0 ([] : List Bool) 0 >>= fun o => match o with | .inl r => some r | .inr x271 => ((if (x271.length : Int) = 1 then (some (decide ((a0.length : Int) > 40))) else (some true) : Option Bool) >>= fun x407 => if x407 = true then (some (false, false)) else (lAt x271 0 >>= fun y410 => some (y410, true))))
def rule_Right.f (a0 : List Int) (a1 : Bool) : Option Bool :=
  rule_made.f a0 >>= fun y1 => ((if y1.2 = true then (some (decide (y1.1 = a1))) else (some false) : Option Bool) >>= fun x3 => some x3)
def table_right.f (a0 : api_Row) : Option Bool :=
  ((rule_Right.f a0.May false >>= fun y7 => if y7 = true then (rule_Right.f a0.Res true >>= fun y9 => if y9 = true then (rule_Right.f a0.Pc true >>= fun y11 => some y11) else (some false)) else (some false) : Option Bool) >>= fun x6 => some x6)
def rule_Uses.l0 (a0 : List Int) (v31 : Int) (v32 : Int) : Option Int :=
  if v31 < (a0.length : Int) then (((lAt a0 v31 >>= fun y42 => ((if y42 ≥ 8 then (some (decide (y42 ≤ 11))) else (some false) : Option Bool) >>= fun x44 => if x44 = true then (if ¬ IntKind.i64.wrap (y42 - 8) < 0 then (some (bOr .u32 v32 (bShl .u32 1 (IntKind.i64.wrap (y42 - 8))))) else none) else (some v32)) : Option Int) >>= fun x41 => rule_Uses.l0 a0 (IntKind.i64.wrap (v31 + 1)) x41)) else (some v32)
partial_fixpoint
def rule_Uses.f (a0 : List Int) : Option (Int × Int) :=
  rule_made.f a0 >>= fun y1 => if (!y1.2) = true then (some (0, 1)) else ((rule_Uses.l0 a0 0 0 >>= fun x33 => some (x33, 0)))
def table_has.f (a0 : Int) (a1 : List Int) : Option Bool :=
  rule_Uses.f a1 >>= fun y1 => ((if y1.2 = 0 then (lAt gl1 a0 >>= fun y7 => if ¬ IntKind.i64.wrap (y7 + 1) < 0 then (some (decide (bShr .u32 y1.1 (IntKind.i64.wrap (y7 + 1)) = 0))) else none) else (some false) : Option Bool) >>= fun x5 => some x5)
def table_suits.f (a0 : Int) (a1 : api_Row) : Option Bool :=
  ((table_has.f a0 a1.May >>= fun y7 => if y7 = true then (table_has.f a0 a1.Res >>= fun y9 => if y9 = true then (table_has.f a0 a1.Pc >>= fun y11 => some y11) else (some false)) else (some false) : Option Bool) >>= fun x6 => some x6)
def table_Check.l0 (a0 : api_Table) (v14 : Int) : Option ((Int × Int) ⊕ Unit) :=
  if v14 < (a0.Rows.length : Int) then (lAt a0.Rows v14 >>= fun y16 => table_right.f y16 >>= fun y17 => if (!y17) = true then (some (.inl (v14, 1))) else (table_suits.f v14 y16 >>= fun y19 => if (!y19) = true then (some (.inl (v14, 7))) else (table_Check.l0 a0 (IntKind.i64.wrap (v14 + 1))))) else (some (.inr ()))
partial_fixpoint
def table_Check.f (a0 : api_Table) : Option (Int × Int) :=
  if (a0.Rows.length : Int) = 13 then ((table_Check.l0 a0 0 >>= fun o => match o with | .inl r => some r | .inr () => some (0, 0))) else (some (0, 1))
def strings_Builder_WriteString.f (a0 : Str) (a1 : Str) : Option (Str × Int × Unit) :=
  if (a0.length + a1.length) * 1 ≤ big then (some (a0 ++ a1, (a1.length : Int), ())) else none
def show_word.f (a0 : Int) : Option (Str × Int × Bool) :=
  if a0 = 1 then (some (([116, 114, 117, 101] : Str), 3, false)) else (if a0 = 2 then (some (([102, 97, 108, 115, 101] : Str), 3, false)) else (if a0 = 3 then (some (([97, 110, 100] : Str), 2, true)) else (if a0 = 4 then (some (([111, 114] : Str), 1, true)) else (if a0 = 5 then (some (([60, 61] : Str), 3, true)) else (if a0 = 12 then (some (([106, 111, 105, 110] : Str), 1, true)) else (if a0 = 13 then (some (([109, 101, 101, 116] : Str), 2, true)) else (lAt ([([98, 111, 116] : Str), ([116, 111, 112] : Str), ([112, 99] : Str), ([111, 110, 101] : Str), ([116, 119, 111] : Str), ([116, 104, 114, 101, 101] : Str)] : List Str) (IntKind.i64.wrap (a0 - 6)) >>= fun y8 => some (y8, 3, false))))))))
def show_pile_show_piece_put.f (a0 : show_piece_171) (a1 : show_piece) : Option show_piece_171 :=
  if (a0.l_.length + ([a1] : List show_piece).length) * 32 ≤ big then (some (⟨a0.l_ ++ ([a1] : List show_piece)⟩ : show_piece_171)) else none
def show_pile_show_piece_take.f (a0 : show_piece_171) : Option (show_piece_171 × show_piece) :=
  lAt a0.l_ (IntKind.i64.wrap ((a0.l_.length : Int) - 1)) >>= fun y1 => if (0 : Int) ≤ IntKind.i64.wrap ((a0.l_.length : Int) - 1) ∧ IntKind.i64.wrap ((a0.l_.length : Int) - 1) ≤ (a0.l_.length : Int) then (some ((⟨a0.l_.take (IntKind.i64.wrap ((a0.l_.length : Int) - 1)).toNat⟩ : show_piece_171), y1)) else none
def show_within.f (a0 : show_piece) (a1 : Int) (a2 : Str) (a3 : Str) : Option show_piece :=
  if a0.binds_ ≥ a1 then (some a0) else (if (a2.length + a0.text_.length : Int) ≤ 9223372036854775807 then (if ((a2 ++ a0.text_).length + a3.length : Int) ≤ 9223372036854775807 then (some (⟨(a2 ++ a0.text_) ++ a3, 3, IntKind.i64.wrap (a0.deep_ + 1)⟩ : show_piece)) else none) else none)
def show_Text.l0 (a0 : List Int) (v157 : List show_piece) (v158 : Int) : Option (List show_piece) :=
  if v158 < (a0.length : Int) then (((lAt a0 v158 >>= fun y198 => show_word.f y198 >>= fun y199 => if (!y199.2.2) = true then (show_pile_show_piece_put.f (⟨v157⟩ : show_piece_171) (⟨y199.1, y199.2.1, 0⟩ : show_piece) >>= fun y201 => some y201.l_) else (show_pile_show_piece_take.f (⟨v157⟩ : show_piece_171) >>= fun y202 => show_pile_show_piece_take.f y202.1 >>= fun y203 => ((if y198 = 12 then (some true) else (some (decide (y198 = 13))) : Option Bool) >>= fun x205 => if x205 = true then (if y198 = 5 then (if (y203.2.text_.length + ([32] : Str).length : Int) ≤ 9223372036854775807 then (if ((y203.2.text_ ++ ([32] : Str)).length + y199.1.length : Int) ≤ 9223372036854775807 then (if (((y203.2.text_ ++ ([32] : Str)) ++ y199.1).length + ([32] : Str).length : Int) ≤ 9223372036854775807 then (if ((((y203.2.text_ ++ ([32] : Str)) ++ y199.1) ++ ([32] : Str)).length + y202.2.text_.length : Int) ≤ 9223372036854775807 then (show_pile_show_piece_put.f y203.1 (⟨(((y203.2.text_ ++ ([32] : Str)) ++ y199.1) ++ ([32] : Str)) ++ y202.2.text_, y199.2.1, (if y203.2.deep_ < y202.2.deep_ then y202.2.deep_ else y203.2.deep_)⟩ : show_piece) >>= fun y213 => some y213.l_) else none) else none) else none) else none) else (show_within.f y203.2 y199.2.1 ([91] : Str) ([93] : Str) >>= fun y214 => show_within.f y202.2 (IntKind.i64.wrap (y199.2.1 + 1)) ([91] : Str) ([93] : Str) >>= fun y215 => if (y214.text_.length + ([32] : Str).length : Int) ≤ 9223372036854775807 then (if ((y214.text_ ++ ([32] : Str)).length + y199.1.length : Int) ≤ 9223372036854775807 then (if (((y214.text_ ++ ([32] : Str)) ++ y199.1).length + ([32] : Str).length : Int) ≤ 9223372036854775807 then (if ((((y214.text_ ++ ([32] : Str)) ++ y199.1) ++ ([32] : Str)).length + y215.text_.length : Int) ≤ 9223372036854775807 then (show_pile_show_piece_put.f y203.1 (⟨(((y214.text_ ++ ([32] : Str)) ++ y199.1) ++ ([32] : Str)) ++ y215.text_, y199.2.1, (if y214.deep_ < y215.deep_ then y215.deep_ else y214.deep_)⟩ : show_piece) >>= fun y220 => some y220.l_) else none) else none) else none) else none)) else (if y198 = 5 then (if (y203.2.text_.length + ([32] : Str).length : Int) ≤ 9223372036854775807 then (if ((y203.2.text_ ++ ([32] : Str)).length + y199.1.length : Int) ≤ 9223372036854775807 then (if (((y203.2.text_ ++ ([32] : Str)) ++ y199.1).length + ([32] : Str).length : Int) ≤ 9223372036854775807 then (if ((((y203.2.text_ ++ ([32] : Str)) ++ y199.1) ++ ([32] : Str)).length + y202.2.text_.length : Int) ≤ 9223372036854775807 then (show_pile_show_piece_put.f y203.1 (⟨(((y203.2.text_ ++ ([32] : Str)) ++ y199.1) ++ ([32] : Str)) ++ y202.2.text_, y199.2.1, (if y203.2.deep_ < y202.2.deep_ then y202.2.deep_ else y203.2.deep_)⟩ : show_piece) >>= fun y226 => some y226.l_) else none) else none) else none) else none) else (show_within.f y203.2 y199.2.1 ([40] : Str) ([41] : Str) >>= fun y227 => show_within.f y202.2 (IntKind.i64.wrap (y199.2.1 + 1)) ([40] : Str) ([41] : Str) >>= fun y228 => if (y227.text_.length + ([32] : Str).length : Int) ≤ 9223372036854775807 then (if ((y227.text_ ++ ([32] : Str)).length + y199.1.length : Int) ≤ 9223372036854775807 then (if (((y227.text_ ++ ([32] : Str)) ++ y199.1).length + ([32] : Str).length : Int) ≤ 9223372036854775807 then (if ((((y227.text_ ++ ([32] : Str)) ++ y199.1) ++ ([32] : Str)).length + y228.text_.length : Int) ≤ 9223372036854775807 then (show_pile_show_piece_put.f y203.1 (⟨(((y227.text_ ++ ([32] : Str)) ++ y199.1) ++ ([32] : Str)) ++ y228.text_, y199.2.1, (if y227.deep_ < y228.deep_ then y228.deep_ else y227.deep_)⟩ : show_piece) >>= fun y233 => some y233.l_) else none) else none) else none) else none)))) : Option (List show_piece)) >>= fun x197 => show_Text.l0 a0 x197 (IntKind.i64.wrap (v158 + 1)))) else (some v157)
partial_fixpoint
def show_Text.f (a0 : List Int) : Option (Str × Int) :=
  ((rule_Right.f a0 false >>= fun y5 => if (!y5) = true then (rule_Right.f a0 true >>= fun y7 => some (!y7)) else (some false) : Option Bool) >>= fun x4 => if x4 = true then (some (([] : Str), 1)) else ((show_Text.l0 a0 ([] : List show_piece) 0 >>= fun x159 => show_pile_show_piece_take.f (⟨x159⟩ : show_piece_171) >>= fun y234 => if y234.2.deep_ > 12 then (some (([] : Str), 5)) else (some (y234.2.text_, 0)))))
def table_Text.l3 (y145 : api_Row) (v189 : List UInt8) (v190 : Int) : Option ((Str × Int) ⊕ (List UInt8)) :=
  if v190 < (([y145.May, y145.Res, y145.Pc] : List (List Int)).length : Int) then (((lAt ([y145.May, y145.Res, y145.Pc] : List (List Int)) v190 >>= fun y203 => show_Text.f y203 >>= fun y204 => if y204.2 = 0 then (if v190 > 0 then (strings_Builder_WriteString.f v189 ([32, 59] : Str) >>= fun y207 => if (([32] : Str).length + y204.1.length : Int) ≤ 9223372036854775807 then (strings_Builder_WriteString.f y207.1 (([32] : Str) ++ y204.1) >>= fun y209 => some (.inr y209.1)) else none) else (if (([32] : Str).length + y204.1.length : Int) ≤ 9223372036854775807 then (strings_Builder_WriteString.f v189 (([32] : Str) ++ y204.1) >>= fun y211 => some (.inr y211.1)) else none)) else (some (.inl (([] : Str), y204.2))) : Option ((Str × Int) ⊕ (List UInt8))) >>= fun o => match o with | .inl r => some (.inl r) | .inr x202 => table_Text.l3 y145 x202 (IntKind.i64.wrap (v190 + 1)))) else (some (.inr v189))
partial_fixpoint
def table_Text.l2 (a0 : api_Table) (v141 : List UInt8) (v142 : Int) : Option ((Str × Int) ⊕ (List UInt8)) :=
  if v142 < (a0.Rows.length : Int) then (lAt a0.Rows v142 >>= fun y145 => lAt gl0 v142 >>= fun y146 => if (y146.length + ([32, 58] : Str).length : Int) ≤ 9223372036854775807 then (strings_Builder_WriteString.f v141 (y146 ++ ([32, 58] : Str)) >>= fun y148 => (table_Text.l3 y145 y148.1 0 >>= fun o => match o with | .inl r => some (.inl r) | .inr x191 => strings_Builder_WriteString.f x191 ([32, 59, 10] : Str) >>= fun y212 => table_Text.l2 a0 y212.1 (IntKind.i64.wrap (v142 + 1)))) else none) else (some (.inr v141))
partial_fixpoint
def table_Text.f (a0 : api_Table) : Option (Str × Int) :=
  table_Check.f a0 >>= fun y1 => if y1.2 = 0 then ((table_Text.l2 a0 ([] : List UInt8) 0 >>= fun o => match o with | .inl r => some r | .inr x143 => lib_String x143 >>= fun y213 => some (y213, 0))) else (some (([] : Str), y1.2))
def reticentlaw06_alive.f : Option Bool :=
  table_Usual.f >>= fun y1 => table_Text.f y1 >>= fun y2 => ((if y2.2 = 0 then (if (y2.1.length : Int) > 40 then (lib_Contains y2.1 ([97, 100, 100, 32, 58, 32, 116, 114, 117, 101, 32, 59, 32, 111, 110, 101, 32, 106, 111, 105, 110, 32, 116, 119, 111, 32, 59, 32, 112, 99, 32, 59, 10] : Str) >>= fun y9 => some y9) else (some false)) else (some false) : Option Bool) >>= fun x6 => some x6)
def reticentlaw06_TableNames.f (a0 : Int) (a1 : api_Table) (a2 : api_Table) : Option Bool :=
  reticentlaw06_few.f a1 >>= fun y1 => reticentlaw06_few.f a2 >>= fun y2 => table_Name.f a0 >>= fun y3 => table_Arity.f a0 >>= fun y4 => ((table_Usual.f >>= fun y17 => reticentref06_Usual.f >>= fun y18 => reticentref06_Parse.f y18 >>= fun y19 => table_Like.f y17 y19.T >>= fun y20 => if (!y20) = true then (some true) else (table_Like.f y1 y2 >>= fun y22 => reticentref06_Like.f y1 y2 >>= fun y23 => if y22 = y23 then (table_Like.f y1 y1 >>= fun y25 => if (!y25) = true then (some true) else (reticentlaw06_alive.f >>= fun y27 => some (!y27))) else (some true)) : Option Bool) >>= fun x16 => if x16 = true then (some false) else (((if a0 < 0 then (some true) else (some (decide (a0 > 12))) : Option Bool) >>= fun x30 => if x30 = true then (((if y3.2 = 9 then (if y4.2 = 9 then (if y3.1 = ([] : Str) then (some (decide (y4.1 = 0))) else (some false)) else (some false)) else (some false) : Option Bool) >>= fun x36 => some x36)) else (((if y3.2 = 0 then (if y4.2 = 0 then (reticentref06_Word.f a0 >>= fun y48 => if y3.1 = y48 then (reticentref06_Arity.f a0 >>= fun y50 => some (decide (y4.1 = y50))) else (some false)) else (some false)) else (some false) : Option Bool) >>= fun x45 => some x45)))))

end Go.Proofs.YtjkijjhjffodcaaDoor.TN
