import Derived.Test.YtmjcpkmongafnaaGreatDoorAb30
import Derived.Lib.ItoaNum
import Derived.Lib.LaidTab
import Derived.Deep.Draws
import Derived.Sort.Grow
set_option linter.unusedVariables false
set_option linter.unusedSimpArgs false
namespace Go.Proofs.YtmjcpkmongafnaaGreatDoor.Ab
open Go Go.RowKit
def km(n:Int):Option Str:=if 0<=n/\n<100 then some (Lib.decDigits n.toNat) else if-9223372036854775808<=n/\n<=9223372036854775807 then (if (Lib.itoa n).length<=100 then some (Lib.itoa n) else none) else none
theorem itoaA_nn{n:Int}(h0:0<=n):Lib.itoa n=Lib.decDigits n.toNat:=by
 unfold Lib.itoa;rw[if_neg (by omega)]
def TabAt(P:Program)(b:Nat):Prop:=P.globalNamed "internal/strconv.uint64pow10" =some b/\(b,Lib.pow10Tab.map (Value.int .u64))∈globs
theorem tabAt{P:Program} {b:Nat}(h:TabAt P b){H:FH} {w:World}(hA:Agree H w):Lib.TabIs P w "internal/strconv.uint64pow10" .u64 Lib.pow10Tab:=by
 obtain⟨h1,h2⟩:=h
 obtain⟨t,fr,e⟩:=hA.base.tab _ h2
 have hw:=hA _ _ e
 unfold Lib.TabIs World.var?
 rw[h1]
 show (match w.heap[b]? with|some (.cells cs _ _)=>some cs|_=>none)=_
 rw[hw]
theorem libItoaA{P:Program} {f:FuncId} {b:Nat}(hb:TabAt P b)(h:∀(n:Int) (h0: -9223372036854775808<=n) (h1:n<=9223372036854775807) (w:World) (htab:Lib.TabIs P w "internal/strconv.uint64pow10" .u64 Lib.pow10Tab),Calls P f #[.int .i64 n] w fun e w'=>e=.returned (.string ⟨(Lib.itoa n).toArray⟩)/\∃k os,w'=Sort.grow (w.drewN k) os)
  {n:Int} {r:Str} (hr:km n=some r):FnA P f [(kI .i64).sig n] (kS.sig r):=by
 intro H w args hA ⟨v,vr,e1,h1,e3⟩
 obtain⟨e4,hl1⟩:=kI_sig.1 h1
 have key: -9223372036854775808<=n/\n<=9223372036854775807/\r=Lib.itoa n/\r.length<=100:=by
  unfold km at hr
  split at hr
  ·rename_i hs
   cases hr
   refine⟨by omega,by omega,(itoaA_nn hs.1).symm,?_⟩
   have:=iH n.toNat (by omega)
   omega
  ·split at hr
   ·rename_i hs
    split at hr
    ·rename_i hq
     cases hr
     exact⟨hs.1,hs.2,rfl,hq⟩
    ·cases hr
   ·cases hr
 obtain⟨k0,k1,rfl,hl⟩:=key
 subst e3 e1 e4
 refine(h n k0 k1 w (tabAt hb hA)).mono ?_
 rintro e w' ⟨rfl,k,os,rfl⟩
 have hold:∀b,b<w.heap.size->(Sort.grow (w.drewN k) os).heap[b]?=w.heap[b]?:=by
  intro b hb
  show (w.heap++os)[b]?=_
  rw[Array.getElem?_append_left hb]
 refine⟨_,H,rfl,⟨rfl,rfl,rfl,?_,fun b hb _=>hold b hb,fun b hb _=>rfl,⟨hA.base,fun b o e=>(hold b (hA.lt e)).trans (hA b o e)⟩⟩,kS_sig.2 ⟨rfl,by omega⟩⟩
 show w.heap.size<=(w.heap++os).size
 simp
end Go.Proofs.YtmjcpkmongafnaaGreatDoor.Ab
