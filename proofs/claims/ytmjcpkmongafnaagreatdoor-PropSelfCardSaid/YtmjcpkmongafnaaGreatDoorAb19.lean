import Derived.Test.YtmjcpkmongafnaaGreatDoorAb18
import Derived.Lib.Join
import Derived.Lib.Bytealg
set_option linter.unusedVariables false
set_option linter.unusedSimpArgs false
namespace Go.Proofs.YtmjcpkmongafnaaGreatDoor.Ab
open Go Go.RowKit
def kQ(s:Str)(c:Int):Option Int:=some (Lib.indexByte s c.toNat.toUInt8)
theorem iK:∀(s:List UInt8) (c:UInt8),-1<=Lib.indexByte s c/\Lib.indexByte s c<s.length
 |[],c=>by simp[Lib.indexByte]
 |b::l,c=>by
  have ih:=iK l c
  unfold Lib.indexByte
  split
  ·simp
   try omega
  ·split
   ·simp
    try omega
   ·simp
    omega
theorem libIndexByte{P:Program} {f:FuncId}(h:∀(s:ByteArray) (c:Int) (w:World),Calls P f #[.string s,.int .u8 c] w fun e w'=>e=.returned (.int .i64 (Lib.indexByte s.data.toList c.toNat.toUInt8))/\w'=w)
  {s:Str} {c r:Int} (hr:kQ s c=some r):FnA P f [kS.sig s,(kI .u8).sig c] ((kI .i64).sig r):=by
 intro H w args hA ⟨v,vr,e1,h1,v2,vr2,e2,h2,e3⟩
 obtain⟨e4,hlen⟩:=kS_sig.1 h1
 obtain⟨e5,_⟩:=kI_sig.1 h2
 subst e3 e2 e1 e4 e5
 cases hr
 refine(h ⟨⟨s⟩⟩ c w).mono ?_
 rintro e w' ⟨rfl,rfl⟩
 have:=iK s c.toNat.toUInt8
 show∃v H',Ending.returned (.int .i64 (Lib.indexByte s c.toNat.toUInt8))=.returned v/\Keep No H w' H' w'/\((kI .i64).sig (Lib.indexByte s c.toNat.toUInt8)).p H' v
 generalize Lib.indexByte s c.toNat.toUInt8=z at*
 refine⟨_,H,rfl,Keep.refl hA,kI_sig.2 ⟨rfl,?_⟩⟩
 unfold InR IntKind.min IntKind.max;simp[IntKind.signed,IntKind.bits];omega
def kZ(xs:List Str)(sep:Str):Option Str:=if (Lib.join xs sep).length<=140737488355328 then some (Lib.join xs sep) else none
theorem l8{H:FH} {w w':World}(hA:Agree H w)(hb:Below w.heap.size w w'):Keep No H w H w':=
 ⟨hb.os,hb.tape,hb.output,hb.size,fun b hb' _=>hb.block b hb',fun _ _ _=>rfl,⟨hA.base,fun b o e=>(hb.block b (hA.lt e)).trans (hA b o e)⟩⟩
theorem libJoin{P:Program} {f:FuncId}(h0:∀(a:Option Addr) (c:Nat) (sep:ByteArray) (w:World),Calls P f #[.slice a 0 c,.string sep] w fun e w'=>e=.returned (.string ⟨#[]⟩)/\w'=w)
  (h:∀(bk o c:Nat) (xs:List ByteArray) (sep:ByteArray) (w:World) (hcells:∀(j:Nat) x,xs[j]?=some x->w.cell? ⟨bk,o+j,none⟩=some (.string x)) (hbk:bk<w.heap.size) (hN:xs.length<=140737488355328) (hcap:xs.length<=c) (hlen:(Lib.join (xs.map (·.data.toList)) sep.data.toList).length<=140737488355328),
   Calls P f #[.slice (some ⟨bk,o,none⟩) xs.length c,.string sep] w fun e w'=>e=.returned (.string ⟨(Lib.join (xs.map (·.data.toList)) sep.data.toList).toArray⟩)/\Below w.heap.size w w')
  {xs:List Str} {sep r:Str} (hr:kZ xs sep=some r):FnA P f [(kL kS).sig xs,kS.sig sep] (kS.sig r):=by
 intro H w args hA ⟨v,vr,e1,h1,v2,vr2,e2,h2,e3⟩
 obtain⟨A,c,e4,hc1,hc2,hb,hs⟩:=kL_sig.1 h1
 obtain⟨e5,hlen⟩:=kS_sig.1 h2
 subst e3 e2 e1 e4 e5
 unfold kZ at hr
 split at hr
 ·rename_i hj
  cases hr
  rcases hs with rfl|⟨b,off,cells,t,fr,rfl,hH,hro⟩
  ·refine(h0 A c ⟨⟨sep⟩⟩ w).mono ?_
   rintro e w' ⟨rfl,rfl⟩
   exact⟨_,H,rfl,Keep.refl hA,kS_sig.2 ⟨rfl,by simp[Lib.join,List.intercalate]⟩⟩
  ·have hw:=hA b _ hH
   have hbk:b<w.heap.size:=hA.lt hH
   have key:=h b off c (xs.map fun x=>(⟨⟨x⟩⟩:ByteArray)) ⟨⟨sep⟩⟩ w ?_ hbk (by simpa [big] using hb) (by simpa using hc1) ?_
   ·simp only[List.length_map] at key
    refine key.mono ?_
    rintro e w' ⟨rfl,hbel⟩
    have hm:(xs.map fun x=>(⟨⟨x⟩⟩:ByteArray)).map (·.data.toList)=xs:=by rw[List.map_map];exact List.map_id' xs
    refine⟨_,H,rfl,l8 hA hbel,kS_sig.2 ⟨?_,by omega⟩⟩
    rw[hm]
   ·intro j x hx
    obtain⟨y,hy,rfl⟩:=List.getElem?_map .. ▸hx|>Option.map_eq_some_iff.1
    have hr1:=hro.2 j y hy
    have hcell:((cells.toList.drop off).take (xs.length*1))[j]?=some (.string ⟨⟨y⟩⟩):=by
     have h3:=hr1.1
     have h4:(((cells.toList.drop off).take (xs.length*1)).drop (j*1)).take 1=[Value.string ⟨⟨y⟩⟩]:=h3
     have h5:=congrArg (fun l=>l[0]?) h4
     simpa using h5
    have hjl:j<xs.length:=(List.getElem?_eq_some_iff.1 hy).1
    rw[List.getElem?_take,if_pos (by omega),List.getElem?_drop] at hcell
    have:cells[off+j]?=some (.string ⟨⟨y⟩⟩):=by simpa using hcell
    simp only[World.cell?,hw]
    exact this
   ·rw[List.map_map]
    have hm:xs.map ((fun x:ByteArray=>x.data.toList)∘fun x=>(⟨⟨x⟩⟩:ByteArray))=xs:=List.map_id' xs
    rw[hm];exact hj
 ·cases hr
end Go.Proofs.YtmjcpkmongafnaaGreatDoor.Ab
