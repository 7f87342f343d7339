import Derived.Test.YtmjcpkmongafnaaGreatDoorAb27
import Derived.Shelf.Strings.Search3
import Derived.Shelf.Vars
import Derived.Lib.ItoaNum
set_option linter.unusedVariables false
set_option linter.unusedSimpArgs false
namespace Go.Proofs.YtmjcpkmongafnaaGreatDoor.Ab
open Go Go.RowKit
def iS(s sub:Str):Option Bool:=if s.length<4294967281 then some (Lib.contains s sub) else none
theorem libContains{P:Program} {f:FuncId} {b:Nat}(hm:b∈ints)(h:∀(s sub:ByteArray) (m:Int) (w:World),s.size<4294967281->w.cell? ⟨b,0,none⟩=some (.int .i64 m)->Calls P f #[.string s,.string sub] w fun e w'=>e=.returned (.bool (Lib.contains s.data.toList sub.data.toList))/\w'=w)
  {s sub:Str} {r:Bool} (hr:iS s sub=some r):FnA P f [kS.sig s,kS.sig sub] (kB.sig r):=by
 intro H w args hA ⟨v,vr,e1,h1,v2,vr2,e2,h2,e3⟩
 obtain⟨rfl,hl1⟩:=kS_sig.1 h1
 obtain⟨rfl,hl2⟩:=kS_sig.1 h2
 subst e3 e2 e1
 unfold iS at hr
 split at hr
 ·rename_i hs
  cases hr
  obtain⟨m,t,fr,e⟩:=hA.base.int_ b hm
  have hw:=hA b _ e
  have hc:w.cell? ⟨b,0,none⟩=some (.int .i64 m):=by simp[World.cell?,hw]
  refine(h ⟨⟨s⟩⟩ ⟨⟨sub⟩⟩ m w hs hc).mono ?_
  rintro e w' ⟨rfl,rfl⟩
  exact⟨_,H,rfl,Keep.refl hA,kB_sig.2 rfl⟩
 ·cases hr
theorem int_block{P:Program} {w:World} {g:Nat} {t:TypeId} {zero:Array Value}(h:w.ShapedOpen P)(hg:g<P.globals.size)
  (h0:((begin P (fun _ _=>0) default).world.heap[g]?).bind Obj.row?=some (zero,t)) (hz:zero.size=1) (hb:P.buildable t=true) (hc:P.cellTypes P.depth t=some [t]) (hu:P.underlying t=some (.int .i64)):
  ∃(m:Int) (t:TypeId) (fr:Nat×Nat),w.heap[g]?=some (.cells #[.int .i64 m] t fr):=by
 obtain⟨m,hm⟩:=Go.Proofs.cell_of_shapedOpen_int h hg h0 hz hb hc hu
 obtain⟨cs,hh,hs,_⟩:=h.1 g zero t hg h0
 rw[hz] at hs
 have:cs[0]?=some (Value.int .i64 m):=by simpa [World.cell?,hh] using hm
 have e:cs= #[.int .i64 m]:=by
  apply Array.ext
  ·simpa using hs
  ·intro i h1 h2
   obtain rfl:i=0:=by simp at h2;omega
   have:=(Array.getElem?_eq_some_iff.1 this).2
   simpa using this
 exact⟨m,t,_,by rw[hh,e]⟩
theorem iH:∀(u:Nat),u<100->(Lib.decDigits u).length<=2:=by
 intro u h
 rw[Lib.decDigits]
 split
 ·simp
 ·rw[Lib.decDigits,dif_pos (by omega)];simp
def lu(n:Int):Option Str:=if 0<=n/\n<100 then some (Lib.decDigits n.toNat) else none
theorem libItoa{P:Program} {f:FuncId}(h:∀(i:Nat) (hi:i<100) (w:World),Calls P f #[.int .i64 i] w fun e w'=>e=.returned (.string ⟨(Lib.decDigits i).toArray⟩)/\w'=w)
  {n:Int} {r:Str} (hr:lu n=some r):FnA P f [(kI .i64).sig n] (kS.sig r):=by
 intro H w args hA ⟨v,vr,e1,h1,e3⟩
 obtain⟨e4,hl1⟩:=kI_sig.1 h1
 unfold lu at hr
 split at hr
 ·rename_i hs
  cases hr
  subst e3 e1 e4
  obtain⟨m,rfl⟩:∃m:Nat,n=(m:Int):=⟨n.toNat,by omega⟩
  refine(h m (by omega) w).mono ?_
  rintro e w' ⟨rfl,rfl⟩
  refine⟨_,H,rfl,Keep.refl hA,kS_sig.2 ⟨rfl,?_⟩⟩
  have:=iH m (by omega)
  simp only[Int.toNat_natCast]
  omega
 ·cases hr
end Go.Proofs.YtmjcpkmongafnaaGreatDoor.Ab
