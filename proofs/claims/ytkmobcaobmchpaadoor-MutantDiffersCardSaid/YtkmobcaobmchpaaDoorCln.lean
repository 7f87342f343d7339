/- slices.Clone of nil. -/
import Derived.Test.YtkmobcaobmchpaaDoorProg
import Derived.Test.YtkmobcaobmchpaaDoorAb20
import Derived.WalkKit
import Derived.Lib.Walk
import Derived.Lib.SliceRun
import Derived.Shelf.RegionOpenPlain
namespace Go.Proofs.YtkmobcaobmchpaaDoor.Ab
open Go Go.Shelf Go.RowKit Go.Lib
set_option maxHeartbeats 1000000 in
theorem clone32_nil (n c : Nat) (w : World) : Calls Tryd.prog 32 #[.slice none n c] w fun e w' => e = .returned (.slice none 0 0) ∧ w' = w := by
  have mixed : Tryd.prog.follows .mixedOrders = true := by kernel_rfl
  have q : ∀ (w : World) (a : Option Addr) (n c n' c' : Nat), (binOp .eql 22 (.slice a n c) (.slice none n' c')).run Tryd.prog w = .ok (.bool a.isNone) w := fun w a n c n' c' => Lib.run_eql_slice_nil w _ _ a n c n' c' Tryd.underlying22
  go_enter Tryd.func32, Tryd.ntmps32
  go_wp2
  go_ret
  exact ⟨rfl, rfl⟩
end Go.Proofs.YtkmobcaobmchpaaDoor.Ab
