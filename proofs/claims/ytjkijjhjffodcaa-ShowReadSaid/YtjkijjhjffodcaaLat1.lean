/- Plain facts of the numbers in printed functions. -/
import Derived.Test.YtjkijjhjffodcaaAb17
set_option linter.unusedVariables false
namespace Go.Proofs.Ytjkijjhjffodcaa.Lat
open Go Go.Proofs.Ytjkijjhjffodcaa.Ab
theorem wrap64 {x : Int} (h0 : 0 ≤ x) (h1 : x < 9223372036854775808) : IntKind.i64.wrap x = x := by
  have e : x % (18446744073709551616 : Int) = x := Int.emod_eq_of_lt h0 (by omega)
  show (if (true && decide (x % 18446744073709551616 ≥ 9223372036854775808)) = true then x % 18446744073709551616 - 18446744073709551616 else x % 18446744073709551616) = x
  rw [e, if_neg]
  simp
  omega
theorem lAt_some {α : Type} {xs : List α} {i : Nat} (h : i < xs.length) : lAt xs (i : Int) = some xs[i] := by
  simp [lAt, h]
end Go.Proofs.Ytjkijjhjffodcaa.Lat
