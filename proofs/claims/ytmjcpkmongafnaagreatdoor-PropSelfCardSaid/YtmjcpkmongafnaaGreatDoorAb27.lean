import Derived.Test.YtmjcpkmongafnaaGreatDoorAb26
import Derived.Lib.AppendStr
import Derived.Lib.Builder
set_option linter.unusedVariables false
set_option linter.unusedSimpArgs false
namespace Go.Proofs.YtmjcpkmongafnaaGreatDoor.Ab
open Go Go.RowKit
def kU:Kd UInt8:=⟨1,false,fun _ cs x=>cs=[.int .u8 x.toNat],fun _ h=>h,fun h=>by rw[h];rfl,fun h c hc=>by rw[h] at hc;simp at hc;subst hc;rfl,fun _=>rfl⟩
theorem rowU{cells:List Value} {l:Str} {H:FH}:RowOf kU H cells l↔cells=l.map fun b=>Value.int .u8 b.toNat:=by
 constructor
 ·rintro⟨h1,h2⟩
  have h1:cells.length=l.length:=by simpa [kU] using h1
  apply List.ext_getElem?
  intro j
  rcases Nat.lt_or_ge j l.length with hj|hj
  ·have h3:(cells.drop (j*1)).take 1=[Value.int .u8 (l[j]).toNat]:=h2 j l[j] (List.getElem?_eq_getElem hj)
   have:=congrArg (fun l=>l[0]?) h3
   simp at this
   simp[this,hj]
  ·rw[List.getElem?_eq_none (by omega),List.getElem?_eq_none (by simp;omega)]
 ·rintro rfl
  refine⟨by simp[kU],fun j x e=>?_⟩
  show (List.take 1 (List.drop (j*1) _))=_
  apply List.ext_getElem?
  intro q
  rw[List.getElem?_take]
  split
  ·rename_i hq
   obtain rfl:q=0:=by omega
   simp[e]
  ·rw[List.getElem?_eq_none];simp;omega
section
variable{P:Program} {x y z:Operand} {i j k3:Env} {dst:Option Nat} {T T' ty:TypeId} {pos:String} {af:Array Edge} {gd:Option (Nat×Bool)} {R:List Res}
theorem oNI:Opd (.const .nilIface) (.d (sV .nilIface)) []:=fun g a _=>rfl
theorem oAppS{xs s:Str} {E U:TypeId} {n id id':Nat}(hT:ElTy P T E 1 1)(hz0:(P.info? E).bind (·.zero)=some (.int .u8 0))(hU:P.underlying U=some .string)(hr:R[n]?=some (.row id E kU xs))(hb:(xs.length+s.length)*1<=big)(h:Opd x (.v id) i)(h':Opd y (.d (kS.sig s)) j):
  Ok P ⟨dst,.call ⟨.builtin .append,#[x,y],#[T,U]⟩,ty,pos,af,gd⟩ (i++j) R (.v id') (some id') (R.set n (.row id' E kU (xs++s))):=by
 intro X H0 w0 g w a K Q hk hi ho hn hK
 have hlim:xs.length+s.length<=big:=by omega
 obtain⟨v,cells,hv,hrow,hro,_⟩:=ho.get hr
 have ex:g.nm id=some (a.eval x):=h g a (satI_l hi)
 rw[hv] at ex;cases ex
 obtain⟨ey,_⟩:=kS_sig.1 (h' g a (satI_r hi))
 have hid':=hn id' rfl
 have hat:=ho.at_ _ (List.mem_of_getElem? hr)
 have hblk:∀b,(a.eval x).ownBlock=some b->(Res.row id E kU xs).block g b:=fun b e=>by simp only[Res.block,hv];exact e
 obtain⟨i0,z,hi0,hz,hs,hby,hzs⟩:=hT.get
 have hz2:i0.zero=some (.int .u8 0):=by simpa [hi0] using hz0
 have hsz:(⟨⟨s⟩⟩:ByteArray).size=s.length:=rfl
 have hk1:kU.sz=1:=rfl
 have hB:xs.length+s.length<=140737488355328:=hlim
 have key:∃v' w',(Builtin.append_ #[T,U] ty #[a.eval x,.string ⟨⟨s⟩⟩]).run P w=.ok v' w'/\w'.ownsRow 0 E 1 v' (xs.length+s.length) (cells++Lib.strCells ⟨⟨s⟩⟩)/\w.grownBy w' (a.eval x).ownBlock/\(v'.ownBlock=(a.eval x).ownBlock\/v'.ownBlock=some w.heap.size):=by
  obtain⟨v',w',hrun,hown,hg,_⟩:=Lib.run_append_own_string (P:=P) (w:=w) 0 T U ty E i0 hT.ty hU hi0 hz2 hs hby (a.eval x) xs.length cells hrow ⟨⟨s⟩⟩ (by unfold maxLen;unfold big at hlim;show xs.length+s.length<=_;omega) (by unfold big at hlim;show xs.length+s.length<=_;omega) (Nat.zero_le _)
  refine⟨v',w',hrun,hown,hg,?_⟩
  rcases hown.2 with ⟨rfl,hz⟩|⟨g',cap',cur',rfl,_,hg',_⟩
  ·rcases hrow.2 with ⟨e,_⟩|⟨g1,cap,cur,e,_⟩
   ·left;rw[e]
   ·exfalso
    have h2:=hrow.2
    rw[e] at hrun h2
    rcases h2 with ⟨q,_⟩|⟨g2,cap2,cur2,q,_,hg2,hnc,hcm,hcs,htk⟩
    ·cases q
    ·cases q
     have hs0:(⟨⟨s⟩⟩:ByteArray).size=0:=by show s.length=0;have:xs.length+s.length=0:=hz;omega
     have:=Lib.run_append_room_string (P:=P) w T U ty E i0 hT.ty hU hi0 hs g1 xs.length cap cur2 hg2 ⟨⟨s⟩⟩ (by rw[hs0];omega) (by rw[hcs,hk1];omega)
     rw[this] at hrun
     simp at hrun
  ·rcases hrow.2 with ⟨e,hx0⟩|⟨g1,cap,cur,e,_,hg1,hnc,hcm,hcs,htk⟩
   ·right
    rw[e] at hrun
    by_cases hm:s.length=0
    ·exfalso
     have hs0:s=[]:=List.eq_nil_of_length_eq_zero hm
     subst hs0
     have hf:=Lib.run_firstCells_string (P:=P) w 1 ⟨⟨[]⟩⟩
     have hsz:(⟨⟨([]:List UInt8)⟩⟩:ByteArray).size=0:=rfl
     rw[hsz] at hf
     simp[Builtin.append_,run_underlying hT.ty,run_underlying hU,sizeOf,typeInfo,hi0,hs,Builtin.lenOf,hsz,hf] at hrun
    ·have:=run_append_nil_string (P:=P) w T U ty E i0 (.int .u8 0) hT.ty hU hi0 hz2 ⟨⟨s⟩⟩ (by rw[hsz];omega) (by rw[hsz];omega) (by rw[hby,hsz];omega)
     rw[this] at hrun
     simp only[Result.ok.injEq,Value.slice.injEq] at hrun
     have:=hrun.1.1
     simp only[Option.some.injEq,Addr.mk.injEq] at this
     simp only[Value.ownBlock]
     rw[<-this.1]
   ·rw[e] at hrun
    by_cases hroom:xs.length+s.length<=cap
    ·left
     have:=Lib.run_append_room_string (P:=P) w T U ty E i0 hT.ty hU hi0 hs g1 xs.length cap cur hg1 ⟨⟨s⟩⟩ (by show xs.length+s.length<=_;exact hroom) (by rw[hcs,hk1];omega)
     rw[this] at hrun
     simp only[Result.ok.injEq,Value.slice.injEq] at hrun
     have:=hrun.1.1
     simp only[Option.some.injEq,Addr.mk.injEq] at this
     rw[e]
     simp only[Value.ownBlock]
     rw[<-this.1]
    ·right
     have hxl:cells.length=xs.length:=by have:=hrow.1;rw[hk1] at this;omega
     have holds:∀j u,cells[j]?=some u->w.cell? ((⟨g1,0,none⟩:Addr).add j)=some u:=hrow.cells (g:=g1) (by rw[e];rfl)
     have:=Lib.run_append_grow_string (P:=P) w T U ty E i0 (.int .u8 0) hT.ty hU hi0 hz2 ⟨g1,0,none⟩ xs.length cap cells (by rw[hs];simpa using hxl) holds ⟨⟨s⟩⟩ (by rw[hsz];omega) (by rw[hsz];omega) (by rw[hby,hsz];exact growslice_fits (by omega) (by omega))
     rw[this] at hrun
     simp only[Result.ok.injEq,Value.slice.injEq] at hrun
     have:=hrun.1.1
     simp only[Option.some.injEq,Addr.mk.injEq] at this
     simp only[Value.ownBlock]
     rw[<-this.1]
 obtain⟨v',w',hrun,hown,hg,hat'⟩:=key
 have hle:G.le g (g.name id' v'):=eR hid'
 unfold Oper.wp
 rw[show (execOp a.eval ⟨dst,.call ⟨.builtin .append,#[x,y],#[T,U]⟩,ty,pos,af,gd⟩).run P w=.ok (.value v') w' by
  simp only[execOp,resolve,invoke,builtin,Sem.run_bind,Sem.run_pure,Result.andThen_ok,List.map_toArray,List.map_cons,List.map_nil,ey,hrun]]
 have hrowb:∀b,(a.eval x).ownBlock=some b->(X b\/w0.heap.size<=b)/\g.H b=none:=fun b e=>⟨(hat b (hblk b e)).2.2,(hat b (hblk b e)).1⟩
 refine hK v' (g.name id' v') w' (jD hk hg hrowb) hle (fun q e hq=>by rw[fa (fun hqi=>hq (by rw[hqi]))];exact e) (bV ..) ?_
 have hro':RowOf kU g.H (cells++Lib.strCells ⟨⟨s⟩⟩) (xs++s):=by
  rw[rowU.1 hro,rowU,List.map_append]
  rfl
 refine ho.put hr hle hg.size (fun b hb' _ hne=>hg.block b hb' (fun e=>hne (hblk b e.symm))) (fun _ _ e _=>e) ⟨v',cells++Lib.strCells ⟨⟨s⟩⟩,bV ..,by rw[List.length_append];exact hown,hro',by rw[List.length_append];exact hlim⟩ ?_
 intro b e
 have e':v'.ownBlock=some b:=by simpa only[Res.block,bV,Option.bind_some] using e
 have hlt:=hown.lt b e'
 rcases hat' with hh|hh
 ·rw[hh] at e'
  have:=hat b (hblk b e')
  exact⟨this.1,hlt.2,this.2.2,.inl (hblk b e')⟩
 ·rw[hh] at e';cases e'
  exact⟨hk.agree.none (Nat.le_refl _),hlt.2,.inr hk.size,.inr (Nat.le_refl _)⟩
structure CopyCheck(P:Program)(f:FuncId)(TB:TypeId):Prop where
 bodied:((P.funcs[f]?).map fun fn=>fn.body.isSome&& !(fn.name== "runtime.NumGoroutine"))=some true
 used:∀(b:Nat) (w:World),w.cell? ⟨b,0,none⟩=some (.pointer (some ⟨b,0,none⟩))->Calls P f #[.pointer (some ⟨b,0,none⟩)] w fun e w'=>e=.returned (.tuple #[])/\w'=w
 fresh:∀(b:Nat) (w:World),w.cell? ⟨b,0,none⟩=some (.pointer none)->w.shape? b=some (TB,2)->w.frozen? ⟨b,0,none⟩=false->Calls P f #[.pointer (some ⟨b,0,none⟩)] w fun e w'=>e=.returned (.tuple #[])/\w'=w.setCell ⟨b,0,none⟩ (.pointer (some ⟨b,0,none⟩))
theorem ko{f:FuncId} {fn:Func} {a:Act} {w:World} {ts:Array TypeId}(hfn:P.funcs[f]?=some fn)(hb':fn.body.isSome=true/\(fn.name== "runtime.NumGoroutine")=false):
  (execOp a.eval ⟨dst,.call ⟨.value (.func f),#[x],ts⟩,ty,pos,af,gd⟩).run P w=.ok (.enter f #[a.eval x]) w:=by
 have hbn:fn.body.isNone=false:=by simpa using hb'.1
 have hc:(callFunc f #[a.eval x]).run P w=.ok (.enter f #[a.eval x]) w:=by
  simp only[callFunc,program,Sem.run_bind,Sem.run,Sem.run_pure',Result.andThen_ok,hfn]
  rw[if_neg (by simpa using hb'.2),if_neg (by simp[hbn])]
  rfl
 have hm:(#[]++Array.map a.eval #[x])++ #[]= #[a.eval x]:=by simp
 simp only[execOp,resolve,show a.eval (.func f)=.func (.func f) #[] #[] from rfl,Deferred.ofValue,Sem.run_bind,Sem.run_pure,Result.andThen_ok,invoke]
 rw[hm]
 exact hc
theorem lV{w:World} {b:Nat} {p v q:Value} {T:TypeId}(h:w.heap[b]?=some (.cells #[p,v] T (0,0))):w.setCell ⟨b,0,none⟩ q=w.setRow b #[q,v]:=by
 have hlt:b<w.heap.size:=(Array.getElem?_eq_some_iff.1 h).1
 have hv:w.heap[b]=.cells #[p,v] T (0,0):=(Array.getElem?_eq_some_iff.1 h).2
 unfold World.setCell World.setRow
 congr 1
 apply Array.ext
 ·simp
 ·intro i h1 h2
  simp only[Array.getElem_modify]
  by_cases hi:b=i
  ·subst hi
   simp[hv]
  ·simp[hi]
theorem oCC{f:FuncId} {TB:TypeId} {ts:Array TypeId} {n id r:Nat}(hc:CopyCheck P f TB)(hr:R[n]?=some (.box id TB [.o id,.v r]))(h:Opd x (.p id 0) i):
  Ok P ⟨dst,.call ⟨.value (.func f),#[x],ts⟩,ty,pos,af,gd⟩ i R (.d sAny) none (R.set n (.box id TB [.o id,.v r])):=by
 intro X H0 w0 g w a K Q hk hi ho _ hK
 obtain⟨b,cs,hb,hh,c1,c2,ec,h1,c3,c4,ec2,⟨v,hv1,hv2,hv3⟩,h4⟩:=ho.get hr
 obtain⟨b',hb',ex⟩:=h g a hi
 rw[hb] at hb';cases hb'
 have hblk:(Res.box id TB [.o id,.v r]).block g b:=by simp only[Res.block,hb]
 obtain⟨q1,q2,q3⟩:=ho.at_ _ (List.mem_of_getElem? hr) b hblk
 obtain⟨fn,hfn,hb'⟩:=Option.map_eq_some_iff.1 hc.bodied
 simp only[Bool.and_eq_true,Bool.not_eq_true'] at hb'
 have hset:R.set n (.box id TB [.o id,.v r])=R:=by
  have hlt:=(List.getElem?_eq_some_iff.1 hr).1
  have:=(List.getElem?_eq_some_iff.1 hr).2
  rw[<-this];simp
 unfold Oper.wp
 rw[ko hfn hb',ex]
 have hc4:c4=[]:=h4
 subst hc4
 have hcs:∃p,cs= #[p,v]/\(p=.pointer none\/p=.pointer (some ⟨b,0,none⟩)):=by
  rw[ec2,hv2] at ec
  rcases h1 with e|⟨u,hu,e,_⟩
  ·exact⟨_,Array.ext' (by rw[ec,e];rfl),.inl rfl⟩
  ·rw[hb] at hu;cases hu
   exact⟨_,Array.ext' (by rw[ec,e];rfl),.inr rfl⟩
 obtain⟨p,rfl,hp⟩:=hcs
 have hcell:w.cell? ⟨b,0,none⟩=some p:=by rw[Lib.cell_of_heap hh];rfl
 rcases hp with rfl|rfl
 ·refine(hc.fresh b w hcell (by simp[World.shape?,hh]) (Lib.frozen_of_heap hh 0)).mono ?_
  rintro e w' ⟨rfl,rfl⟩
  rw[lV hh]
  refine hK _ g _ (fb hk q3 q1 _) (G.le.refl g) (fun i e _=>e) trivial ?_
  refine ho.put hr (G.le.refl g) (by simp) (fun b' hb' _ hne=>setRow_other w b b' _ (fun e=>hne (by rw[e];exact hblk))) (fun _ _ e _=>e)
   ⟨b,_,hb,setRow_heap w b _ _ TB (0,0) hh,[.pointer (some ⟨b,0,none⟩)],[v],rfl,.inr ⟨_,hb,rfl,rfl⟩,[v],[],rfl,⟨v,hv1,rfl,hv3⟩,rfl⟩ ?_
  intro b' e
  have:b'=b:=by simp only[Res.block,hb,Option.some.injEq] at e;exact e.symm
  subst this
  exact⟨q1,by simpa using q2,q3,.inl hblk⟩
 ·refine(hc.used b w hcell).mono ?_
  rintro e w' ⟨rfl,rfl⟩
  exact hK _ g _ hk (G.le.refl g) (fun i e _=>e) trivial (by rw[hset];exact ho)
structure BldString(P:Program)(f:FuncId)(TB E:TypeId):Prop where
 bodied:((P.funcs[f]?).map fun fn=>fn.body.isSome&& !(fn.name== "runtime.NumGoroutine"))=some true
 some_:∀(b g cap:Nat) (p:Value) (cur:Array Value) (l:List UInt8) (w:World),l≠ []->w.heap[b]?=some (.cells #[p,.slice (some ⟨g,0,none⟩) l.length cap] TB (0,0))->w.ownsRow 0 E 1 (.slice (some ⟨g,0,none⟩) l.length cap) l.length (l.map fun b=>Value.int .u8 b.toNat)->
  w.heap[g]?=some (.cells cur E (0,0))->l.length<=cap->cap<=maxLen->cur.size=cap*1->Calls P f #[.pointer (some ⟨b,0,none⟩)] w fun e w'=>e=.returned (.string ⟨l.toArray⟩)/\w'=w.drew.freeze ⟨g,0,none⟩ l.length
def jK(l:Str):Option Str:=match l with|[]=>none|_::_=>some l
theorem lv{w:World} {g n k:Nat}(h:k≠g):(w.freeze ⟨g,0,none⟩ n).heap[k]?=w.heap[k]?:=by
 unfold World.freeze
 split
 ·rfl
 ·simp[Array.getElem?_modify,Ne.symm h]
theorem gU{w:World} {a:Addr} {n:Nat}:(w.freeze a n).heap.size=w.heap.size:=by
 unfold World.freeze
 split
 ·rfl
 ·simp
theorem oBS{f:FuncId} {TB E:TypeId} {ts:Array TypeId} {n m id r:Nat} {l u:Str}(hc:BldString P f TB E)(hu:jK l=some u)(hr:R[n]?=some (.box id TB [.o id,.v r]))(hm:R[m]?=some (.row r E kU l))(h:Opd x (.p id 0) i):
  Ok P ⟨dst,.call ⟨.value (.func f),#[x],ts⟩,ty,pos,af,gd⟩ i R (.d (kS.sig u)) none (R.eraseIdx m):=by
 intro X H0 w0 g w a K Q hk hi ho _ hK
 obtain⟨b,cs,hb,hh,c1,c2,ec,h1,c3,c4,ec2,⟨v,hv1,hv2,hv3⟩,h4⟩:=ho.get hr
 obtain⟨v2,cells,hv,hrow,hro,hbig⟩:=ho.get hm
 rw[hv] at hv1;cases hv1
 obtain⟨b',hb',ex⟩:=h g a hi
 rw[hb] at hb';cases hb'
 obtain⟨fn,hfn,hb'⟩:=Option.map_eq_some_iff.1 hc.bodied
 simp only[Bool.and_eq_true,Bool.not_eq_true'] at hb'
 have hl0:l≠ []/\u=l:=by
  unfold jK at hu
  split at hu
  ·cases hu
  ·cases hu;exact⟨by simp,rfl⟩
 obtain⟨hl0,rfl⟩:=hl0
 have hcells:=rowU.1 hro
 have hc4:c4=[]:=h4
 subst hc4
 rcases hrow.2 with ⟨_,hz⟩|⟨g1,cap,cur,rfl,_,hg1,hnc,hcm,hcs,htk⟩
 ·exact absurd (List.eq_nil_of_length_eq_zero hz) hl0
 ·have hpv:∃p,cs= #[p,.slice (some ⟨g1,0,none⟩) u.length cap]:=by
   rw[ec2,hv2] at ec
   rcases h1 with e|⟨u',hu',e,_⟩
   ·exact⟨_,Array.ext' (by rw[ec,e];rfl)⟩
   ·exact⟨u',Array.ext' (by rw[ec,e];rfl)⟩
  obtain⟨p,rfl⟩:=hpv
  have hblk:(Res.row r E kU u).block g g1:=by simp only[Res.block,hv];rfl
  obtain⟨q1,q2,q3⟩:=ho.at_ _ (List.mem_of_getElem? hm) g1 hblk
  unfold Oper.wp
  rw[ko hfn hb',ex]
  refine(hc.some_ b g1 cap p cur u w hl0 hh (by rw[hcells] at hrow;exact hrow) hg1 hnc hcm hcs).mono ?_
  rintro e w' ⟨rfl,rfl⟩
  have hoth:∀k,k≠g1->(w.drew.freeze ⟨g1,0,none⟩ u.length).heap[k]?=w.heap[k]?:=fun k hk=>lv hk
  have hkeep:Keep X H0 w0 g.H (w.drew.freeze ⟨g1,0,none⟩ u.length):=by
   have e1:(w.drew.freeze ⟨g1,0,none⟩ u.length).os=w.os:=by unfold World.freeze;split<;>rfl
   have e2:(w.drew.freeze ⟨g1,0,none⟩ u.length).tape=w.tape:=by unfold World.freeze;split<;>rfl
   have e3:(w.drew.freeze ⟨g1,0,none⟩ u.length).output=w.output:=by unfold World.freeze;split<;>rfl
   have e4:w.heap.size<=(w.drew.freeze ⟨g1,0,none⟩ u.length).heap.size:=by rw[gU];exact Nat.le_refl _
   refine hk.step (Y:=fun i=>i=g1) ⟨e1,e2,e3,e4,fun i _ hn=>hoth i hn,fun _ _ _=>rfl,⟨hk.agree.base,fun i o e=>?_⟩⟩ (fun i hi=>by subst hi;exact q3)
   rw[hoth i (fun hi=>by subst hi;rw[q1] at e;cases e)]
   exact hk.agree i o e
  have hsub:(R.eraseIdx m).Sublist R:=List.eraseIdx_sublist ..
  refine hK _ g _ hkeep (G.le.refl g) (fun i e _=>e) (kS_sig.2 ⟨rfl,by unfold big at hbig;omega⟩) ⟨fun s hs=>?_,fun s hs b' e=>?_,ho.apart.sublist hsub⟩
  ·refine Res.ed (G.le.refl g) (by rw[gU];exact Nat.le_refl _) (fun b' e=>hoth b' (fun he=>?_)) (ho.ok s (hsub.subset hs))
   subst he
   obtain⟨k,hk1,hk2⟩:=List.mem_iff_getElem.1 hs
   have hlt:=(List.getElem?_eq_some_iff.1 hm).1
   have hme:=(List.getElem?_eq_some_iff.1 hm).2
   rw[List.getElem_eraseIdx] at hk2
   split at hk2
   ·rename_i hkm
    have:=List.pairwise_iff_getElem.1 ho.apart k m (by omega) hlt hkm
    rw[hk2,hme] at this
    exact this b' e hblk
   ·rename_i hkm
    have hk1':k+1<R.length:=by rw[List.length_eraseIdx] at hk1;split at hk1<;>omega
    have:=List.pairwise_iff_getElem.1 ho.apart m (k+1) hlt hk1' (by omega)
    rw[hk2,hme] at this
    exact this b' hblk e
  ·obtain⟨a1,a2,a3⟩:=ho.at_ s (hsub.subset hs) b' e
   exact⟨a1,by rw[gU];exact a2,a3⟩
end
end Go.Proofs.YtmjcpkmongafnaaGreatDoor.Ab
