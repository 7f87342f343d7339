import Derived.Test.YtmjcpkmongafnaaGreatDoorProg
import Derived.Test.YtmjcpkmongafnaaGreatDoorAb20
import Derived.WalkKit
import Derived.Lib.Walk
import Derived.Lib.SliceRun
import Derived.Shelf.RegionOpenPlain
namespace Go.Proofs.YtmjcpkmongafnaaGreatDoor.Ab
open Go Go.Shelf Go.RowKit Go.Lib
set_option maxHeartbeats 1000000 in
theorem om(n c:Nat)(w:World):Calls Tryz.prog 95 #[.slice none n c] w fun e w'=>e=.returned (.slice none 0 0)/\w'=w:=by
 have mixed:Tryz.prog.follows .mixedOrders=true:=by kernel_rfl
 have q:∀(w:World) (a:Option Addr) (n c n' c':Nat),(binOp .eql 32 (.slice a n c) (.slice none n' c')).run Tryz.prog w=.ok (.bool a.isNone) w:=fun w a n c n' c'=>Lib.run_eql_slice_nil w _ _ a n c n' c' Tryz.underlying32
 go_enter Tryz.func95,Tryz.ntmps95
 go_wp2
 go_ret
 exact⟨rfl,rfl⟩
set_option maxHeartbeats 1000000 in
theorem nk(n c:Nat)(w:World):Calls Tryz.prog 184 #[.slice none n c] w fun e w'=>e=.returned (.slice none 0 0)/\w'=w:=by
 have mixed:Tryz.prog.follows .mixedOrders=true:=by kernel_rfl
 have q:∀(w:World) (a:Option Addr) (n c n' c':Nat),(binOp .eql 33 (.slice a n c) (.slice none n' c')).run Tryz.prog w=.ok (.bool a.isNone) w:=fun w a n c n' c'=>Lib.run_eql_slice_nil w _ _ a n c n' c' Tryz.underlying33
 go_enter Tryz.func184,Tryz.ntmps184
 go_wp2
 go_ret
 exact⟨rfl,rfl⟩
end Go.Proofs.YtmjcpkmongafnaaGreatDoor.Ab
