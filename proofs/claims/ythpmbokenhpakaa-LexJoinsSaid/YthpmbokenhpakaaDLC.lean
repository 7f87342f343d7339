import Derived.Test.YthpmbokenhpakaaAb19
set_option linter.unusedVariables false
namespace Go.Proofs.Ythpmbokenhpakaa.LC
open Go Go.Proofs.Ythpmbokenhpakaa.Ab

structure api_Tok where
  Kind : Int
  Text : Str
  At : Int
def f_api_Tok : List (Fld api_Tok) := [⟨(kI .i64), api_Tok.Kind⟩, ⟨kS, api_Tok.Text⟩, ⟨(kI .i64), api_Tok.At⟩]
def lex_while.l0 (a0 : Str) (a1 : Int → Option Bool) (v17 : Int) : Option Int :=
  ((if v17 < (a0.length : Int) then (if (0 : Int) ≤ v17 ∧ v17 < (a0.length : Int) then (a1 (sAt a0 v17) >>= fun y25 => some y25) else none) else (some false) : Option Bool) >>= fun x22 => if x22 = true then (lex_while.l0 a0 a1 (IntKind.i64.wrap (v17 + 1))) else (some v17))
partial_fixpoint
def lex_while.f (a0 : Str) (a1 : Int → Option Bool) : Option Int :=
  (lex_while.l0 a0 a1 0 >>= fun x18 => some x18)
def lex_token_1.f (a0 : Int) : Option Bool :=
  some (!decide (a0 = 10))
def lex_letter.f (a0 : Int) : Option Bool :=
  ((if a0 ≥ 97 then (some (decide (a0 ≤ 122))) else (some false) : Option Bool) >>= fun x2 => some x2)
def lex_digit.f (a0 : Int) : Option Bool :=
  ((if a0 ≥ 48 then (some (decide (a0 ≤ 57))) else (some false) : Option Bool) >>= fun x2 => some x2)
def stringslite_HasPrefix.f (a0 : Str) (a1 : Str) : Option Bool :=
  ((if (a0.length : Int) ≥ (a1.length : Int) then (if (0 : Int) ≤ (a1.length : Int) ∧ (a1.length : Int) ≤ (a0.length : Int) then (some (decide (sCut a0 0 (a1.length : Int) = a1))) else none) else (some false) : Option Bool) >>= fun x3 => some x3)
def strings_HasPrefix.f (a0 : Str) (a1 : Str) : Option Bool :=
  stringslite_HasPrefix.f a0 a1 >>= fun y1 => some y1
def lex_token.f (a0 : Str) : Option (Int × Int) :=
  if (0 : Int) ≤ 0 ∧ 0 < (a0.length : Int) then (((if sAt a0 0 = 32 then (some true) else (if sAt a0 0 = 9 then (some true) else (some (decide (sAt a0 0 = 10)))) : Option Bool) >>= fun x4 => if x4 = true then (some (0, 1)) else (if sAt a0 0 = 35 then (lex_while.f a0 lex_token_1.f >>= fun y9 => some (0, y9)) else (lex_letter.f (sAt a0 0) >>= fun y10 => if y10 = true then (lex_while.f a0 lex_letter.f >>= fun y12 => some (1, y12)) else (lex_digit.f (sAt a0 0) >>= fun y13 => if y13 = true then (lex_while.f a0 lex_digit.f >>= fun y15 => some (2, y15)) else (strings_HasPrefix.f a0 ([60, 61] : Str) >>= fun y16 => if y16 = true then (some (3, 2)) else (lib_IndexByte ([40, 41, 91, 93, 59, 58, 44, 60, 62, 64, 45, 61] : Str) (sAt a0 0) >>= fun y18 => if y18 ≥ 0 then (some (3, 1)) else (some (0, 0))))))))) else none
def lex_Lex.l0 (a0 : Str) (v32 : List api_Tok) (v33 : Int) : Option (((List api_Tok) × Int × Int) ⊕ (List api_Tok)) :=
  if v33 < (a0.length : Int) then (((if (0 : Int) ≤ v33 ∧ v33 ≤ (a0.length : Int) then (lex_token.f (sCut a0 v33 (a0.length : Int)) >>= fun y45 => if y45.2 = 0 then (some (.inl (([] : List api_Tok), v33, 4))) else (if y45.1 = 0 then (some (.inr (v32, IntKind.i64.wrap (v33 + y45.2)))) else (if (0 : Int) ≤ v33 ∧ v33 ≤ IntKind.i64.wrap (v33 + y45.2) ∧ IntKind.i64.wrap (v33 + y45.2) ≤ (a0.length : Int) then (if (v32.length + ([(⟨y45.1, sCut a0 v33 (IntKind.i64.wrap (v33 + y45.2)), v33⟩ : api_Tok)] : List api_Tok).length) * 32 ≤ big then (some (.inr (v32 ++ ([(⟨y45.1, sCut a0 v33 (IntKind.i64.wrap (v33 + y45.2)), v33⟩ : api_Tok)] : List api_Tok), IntKind.i64.wrap (v33 + y45.2)))) else none) else none))) else none : Option (((List api_Tok) × Int × Int) ⊕ ((List api_Tok) × Int))) >>= fun o => match o with | .inl r => some (.inl r) | .inr (x42, x43) => lex_Lex.l0 a0 x42 x43)) else (some (.inr v32))
partial_fixpoint
def lex_Lex.f (a0 : Str) : Option ((List api_Tok) × Int × Int) :=
  if (a0.length : Int) > 2000 then (some (([] : List api_Tok), 0, 8)) else ((lex_Lex.l0 a0 ([] : List api_Tok) 0 >>= fun o => match o with | .inl r => some r | .inr x34 => if (x34.length + ([(⟨0, [], (a0.length : Int)⟩ : api_Tok)] : List api_Tok).length) * 32 ≤ big then (if ((x34 ++ ([(⟨0, [], (a0.length : Int)⟩ : api_Tok)] : List api_Tok)).length : Int) > 200 then (some (([] : List api_Tok), 0, 8)) else (some (x34 ++ ([(⟨0, [], (a0.length : Int)⟩ : api_Tok)] : List api_Tok), 0, 0))) else none))
def lex_Join.l0 (a0 : List api_Tok) (v17 : List Str) (v18 : Int) : Option (List Str) :=
  if v18 < (a0.length : Int) then (((lAt a0 v18 >>= fun y25 => if y25.Text = ([] : Str) then (some v17) else (if (v17.length + ([y25.Text] : List Str).length) * 16 ≤ big then (some (v17 ++ ([y25.Text] : List Str))) else none) : Option (List Str)) >>= fun x24 => lex_Join.l0 a0 x24 (IntKind.i64.wrap (v18 + 1)))) else (some v17)
partial_fixpoint
def lex_Join.f (a0 : List api_Tok) : Option Str :=
  (lex_Join.l0 a0 ([] : List Str) 0 >>= fun x19 => lib_Join x19 ([32] : Str) >>= fun y28 => some y28)
def reticentlaw03_alive.f : Option Bool :=
  lex_Lex.f ([111, 110, 101, 60, 61, 116, 119, 111, 32, 35, 32, 99] : Str) >>= fun y1 => ((if y1.2.2 = 0 then (if (y1.1.length : Int) = 4 then (lAt y1.1 1 >>= fun y10 => if y10.Text = ([60, 61] : Str) then (lex_Join.f y1.1 >>= fun y12 => some (decide (y12 = ([111, 110, 101, 32, 60, 61, 32, 116, 119, 111] : Str)))) else (some false)) else (some false)) else (some false) : Option Bool) >>= fun x7 => some x7)
def reticentref03_Join.l0 (a0 : List api_Tok) (v29 : Str) (v30 : Int) : Option Str :=
  if v30 < (a0.length : Int) then (((lAt a0 v30 >>= fun y40 => if y40.Text = ([] : Str) then (some v29) else (if v29 = ([] : Str) then (if (v29.length + y40.Text.length : Int) ≤ 9223372036854775807 then (some (v29 ++ y40.Text)) else none) else (if (v29.length + ([32] : Str).length : Int) ≤ 9223372036854775807 then (if ((v29 ++ ([32] : Str)).length + y40.Text.length : Int) ≤ 9223372036854775807 then (some ((v29 ++ ([32] : Str)) ++ y40.Text)) else none) else none)) : Option Str) >>= fun x39 => reticentref03_Join.l0 a0 x39 (IntKind.i64.wrap (v30 + 1)))) else (some v29)
partial_fixpoint
def reticentref03_Join.f (a0 : List api_Tok) : Option Str :=
  (reticentref03_Join.l0 a0 ([] : Str) 0 >>= fun x31 => some x31)
def reticentlaw03_LexJoins.l0 (a0 : List api_Tok) (v10 : List api_Tok) (v11 : Int) : Option (List api_Tok) :=
  if v11 < ((lCut a0 0 (if 60 < (a0.length : Int) then 60 else (a0.length : Int))).length : Int) then (lAt (lCut a0 0 (if 60 < (a0.length : Int) then 60 else (a0.length : Int))) v11 >>= fun y14 => if (0 : Int) ≤ (if 30 < (y14.Text.length : Int) then 30 else (y14.Text.length : Int)) ∧ (if 30 < (y14.Text.length : Int) then 30 else (y14.Text.length : Int)) ≤ (y14.Text.length : Int) then (if (v10.length + ([(⟨y14.Kind, sCut y14.Text 0 (if 30 < (y14.Text.length : Int) then 30 else (y14.Text.length : Int)), y14.At⟩ : api_Tok)] : List api_Tok).length) * 32 ≤ big then (reticentlaw03_LexJoins.l0 a0 (v10 ++ ([(⟨y14.Kind, sCut y14.Text 0 (if 30 < (y14.Text.length : Int) then 30 else (y14.Text.length : Int)), y14.At⟩ : api_Tok)] : List api_Tok)) (IntKind.i64.wrap (v11 + 1))) else none) else none) else (some v10)
partial_fixpoint
def reticentlaw03_LexJoins.f (a0 : List api_Tok) : Option Bool :=
  if (0 : Int) ≤ (if 60 < (a0.length : Int) then 60 else (a0.length : Int)) ∧ (if 60 < (a0.length : Int) then 60 else (a0.length : Int)) ≤ (a0.length : Int) then ((reticentlaw03_LexJoins.l0 a0 ([] : List api_Tok) 0 >>= fun x12 => ((reticentlaw03_alive.f >>= fun y22 => if y22 = true then (lex_Join.f x12 >>= fun y24 => reticentref03_Join.f x12 >>= fun y25 => some (decide (y24 = y25))) else (some false) : Option Bool) >>= fun x21 => some x21))) else none

end Go.Proofs.Ythpmbokenhpakaa.LC
