import Derived.Test.YtmjcpkmongafnaaGreatDoorAb27
import Derived.Shelf.Strings.Search3
import Derived.Shelf.Vars
import Derived.Lib.ItoaNum
set_option linter.unusedVariables false
set_option linter.unusedSimpArgs false
namespace Go.Proofs.YtmjcpkmongafnaaGreatDoor.Ab
open Go Go.RowKit
theorem int_block{P:Program} {w:World} {g:Nat} {t:TypeId} {zero:Array Value}(h:w.ShapedOpen P)(hg:g<P.globals.size)
  (h0:((begin P (fun _ _=>0) default).world.heap[g]?).bind Obj.row?=some (zero,t)) (hz:zero.size=1) (hb:P.buildable t=true) (hc:P.cellTypes P.depth t=some [t]) (hu:P.underlying t=some (.int .i64)):
  ∃(m:Int) (t:TypeId) (fr:Nat×Nat),w.heap[g]?=some (.cells #[.int .i64 m] t fr):=by
 obtain⟨m,hm⟩:=Go.Proofs.cell_of_shapedOpen_int h hg h0 hz hb hc hu
 obtain⟨cs,hh,hs,_⟩:=h.1 g zero t hg h0
 rw[hz] at hs
 have:cs[0]?=some (Value.int .i64 m):=by simpa [World.cell?,hh] using hm
 have e:cs= #[.int .i64 m]:=by
  apply Array.ext
  ·simpa using hs
  ·intro i h1 h2
   obtain rfl:i=0:=by simp at h2;omega
   have:=(Array.getElem?_eq_some_iff.1 this).2
   simpa using this
 exact⟨m,t,_,by rw[hh,e]⟩
end Go.Proofs.YtmjcpkmongafnaaGreatDoor.Ab
