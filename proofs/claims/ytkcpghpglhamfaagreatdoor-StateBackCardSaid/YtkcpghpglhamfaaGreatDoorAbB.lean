/- The package's own variables, of which this claim's row speaks. -/
import Derived.Orders
import Derived.OrdersIn
import Derived.RangeFuncRecord
import Derived.Calls
import Derived.WalkKit
import Derived.Maps.AppendAt
import Derived.Laws.Rows
import Derived.Laws.Tables
import Derived.KernelRfl
set_option linter.unusedVariables false
namespace Go.Proofs.YtkcpghpglhamfaaGreatDoor.Ab
open Go Go.RowKit

abbrev Str := List UInt8
/-! ### Frozen memory -/
abbrev FH := Nat → Option Obj
def FH.le (H H' : FH) : Prop := ∀ b o, H b = some o → H' b = some o
def gl3 : List Int := [0, 1, 28, 2, 29, 14, 24, 3, 30, 22, 20, 15, 25, 17, 4, 8, 31, 27, 13, 23, 21, 19, 16, 7, 26, 12, 18, 6, 11, 5, 10, 9]
def gl4 : List Int := [0, 1, 56, 2, 57, 49, 28, 3, 61, 58, 42, 50, 38, 29, 17, 4, 62, 47, 59, 36, 45, 43, 51, 22, 53, 39, 33, 30, 24, 18, 12, 5, 63, 55, 48, 27, 60, 41, 37, 16, 46, 35, 44, 21, 52, 32, 23, 11, 54, 26, 40, 15, 34, 20, 31, 10, 25, 14, 19, 9, 13, 8, 7, 6]
def gl1 : List Int := [1, 10, 100, 1000, 10000, 100000, 1000000, 10000000, 100000000, 1000000000, 10000000000, 100000000000, 1000000000000, 10000000000000, 100000000000000, 1000000000000000, 10000000000000000, 100000000000000000, 1000000000000000000, 10000000000000000000]
def gl0 : List Str := [[110, 111, 111, 112], [112, 117, 115, 104], [112, 111, 112], [97, 100, 100], [115, 117, 98], [108, 111, 97, 100], [115, 116, 111, 114, 101], [106, 117, 109, 112], [98, 110, 122], [99, 97, 108, 108], [114, 101, 116, 117, 114, 110], [111, 117, 116, 112, 117, 116], [104, 97, 108, 116]]
def globs : List (Nat × List Value) := [(3, gl3.map (Value.int .u8)), (4, gl4.map (Value.int .u8)), (1, gl1.map (Value.int .u64)), (0, gl0.map fun s => Value.string ⟨⟨s⟩⟩)]
def ints : List Nat := [2]
structure Base (H : FH) : Prop where
  tab : ∀ q ∈ globs, ∃ t fr, H q.1 = some (.cells q.2.toArray t fr)
  int_ : ∀ b ∈ ints, ∃ (m : Int) (t : TypeId) (fr : Nat × Nat), H b = some (.cells #[.int .i64 m] t fr)
theorem Base.mono {H H' : FH} (h : Base H) (hl : FH.le H H') : Base H' := ⟨fun q hq => let ⟨t, fr, e⟩ := h.tab q hq; ⟨t, fr, hl _ _ e⟩, fun q hq => let ⟨m, t, fr, e⟩ := h.int_ q hq; ⟨m, t, fr, hl _ _ e⟩⟩
end Go.Proofs.YtkcpghpglhamfaaGreatDoor.Ab
