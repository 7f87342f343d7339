import Derived.Test.YtmjcpkmongafnaaGreatDoorAb26
import Derived.Lib.AppendStr
import Derived.Lib.Builder
set_option linter.unusedVariables false
set_option linter.unusedSimpArgs false
namespace Go.Proofs.YtmjcpkmongafnaaGreatDoor.Ab
open Go Go.RowKit
section
variable{P:Program} {x y z:Operand} {i j k3:Env} {dst:Option Nat} {T T' ty:TypeId} {pos:String} {af:Array Edge} {gd:Option (Nat×Bool)} {R:List Res}
structure CopyCheck(P:Program)(f:FuncId)(TB:TypeId):Prop where
 bodied:((P.funcs[f]?).map fun fn=>fn.body.isSome&& !(fn.name== "runtime.NumGoroutine"))=some true
 used:∀(b:Nat) (w:World),w.cell? ⟨b,0,none⟩=some (.pointer (some ⟨b,0,none⟩))->Calls P f #[.pointer (some ⟨b,0,none⟩)] w fun e w'=>e=.returned (.tuple #[])/\w'=w
 fresh:∀(b:Nat) (w:World),w.cell? ⟨b,0,none⟩=some (.pointer none)->w.shape? b=some (TB,2)->w.frozen? ⟨b,0,none⟩=false->Calls P f #[.pointer (some ⟨b,0,none⟩)] w fun e w'=>e=.returned (.tuple #[])/\w'=w.setCell ⟨b,0,none⟩ (.pointer (some ⟨b,0,none⟩))
structure BldString(P:Program)(f:FuncId)(TB E:TypeId):Prop where
 bodied:((P.funcs[f]?).map fun fn=>fn.body.isSome&& !(fn.name== "runtime.NumGoroutine"))=some true
 some_:∀(b g cap:Nat) (p:Value) (cur:Array Value) (l:List UInt8) (w:World),l≠ []->w.heap[b]?=some (.cells #[p,.slice (some ⟨g,0,none⟩) l.length cap] TB (0,0))->w.ownsRow 0 E 1 (.slice (some ⟨g,0,none⟩) l.length cap) l.length (l.map fun b=>Value.int .u8 b.toNat)->
  w.heap[g]?=some (.cells cur E (0,0))->l.length<=cap->cap<=maxLen->cur.size=cap*1->Calls P f #[.pointer (some ⟨b,0,none⟩)] w fun e w'=>e=.returned (.string ⟨l.toArray⟩)/\w'=w.drew.freeze ⟨g,0,none⟩ l.length
end
end Go.Proofs.YtmjcpkmongafnaaGreatDoor.Ab
