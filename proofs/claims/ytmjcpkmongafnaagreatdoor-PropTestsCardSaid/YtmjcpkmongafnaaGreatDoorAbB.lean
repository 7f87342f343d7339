import Derived.Orders
import Derived.OrdersIn
import Derived.RangeFuncRecord
import Derived.Calls
import Derived.WalkKit
import Derived.Maps.AppendAt
import Derived.Laws.Rows
import Derived.Laws.Tables
import Derived.KernelRfl
set_option linter.unusedVariables false
namespace Go.Proofs.YtmjcpkmongafnaaGreatDoor.Ab
open Go Go.RowKit
abbrev Str:=List UInt8
abbrev FH:=Nat->Option Obj
def FH.le(H H':FH):Prop:=∀b o,H b=some o->H' b=some o
def gl0:List Int:=[0,1,1,2,2,2,3,1,1,1,2,1,0]
def globs:List (Nat×List Value):=[(0,gl0.map (Value.int .i64))]
def ints:List Nat:=[]
structure Base(H:FH):Prop where
 tab:∀q∈globs,∃t fr,H q.1=some (.cells q.2.toArray t fr)
 int_:∀b∈ints,∃(m:Int) (t:TypeId) (fr:Nat×Nat),H b=some (.cells #[.int .i64 m] t fr)
theorem Base.mono{H H':FH}(h:Base H)(hl:FH.le H H'):Base H':=⟨fun q hq=>let ⟨t,fr,e⟩:=h.tab q hq;⟨t,fr,hl _ _ e⟩,fun q hq=>let ⟨m,t,fr,e⟩:=h.int_ q hq;⟨m,t,fr,hl _ _ e⟩⟩
end Go.Proofs.YtmjcpkmongafnaaGreatDoor.Ab
