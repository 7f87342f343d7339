import Derived.Test.YtmjcpkmongafnaaGreatDoorAb29
set_option linter.unusedVariables false
set_option linter.unusedSimpArgs false
namespace Go.Proofs.YtmjcpkmongafnaaGreatDoor.Ab
open Go Go.RowKit
def u8s(s:Str):List Int:=s.map fun b=>((b.toNat:Nat):Int)
theorem row_u8s{H:FH}(s:Str):RowOf (kI .u8) H (s.map fun b=>Value.int .u8 b.toNat) (u8s s):=by
 refine⟨by simp[kI,u8s],fun j x e=>?_⟩
 unfold u8s at e
 rw[List.getElem?_map] at e
 obtain⟨b,hb,rfl⟩:=Option.map_eq_some_iff.1 e
 have hj:j<s.length:=(List.getElem?_eq_some_iff.1 hb).1
 have h1:(kI .u8).sz=1:=rfl
 rw[h1,Nat.mul_one]
 have:((s.map fun b=>Value.int .u8 b.toNat).drop j).take 1=[Value.int .u8 b.toNat]:=by
  rw[List.drop_eq_getElem_cons (by simpa using hj)]
  simp only[List.take_succ_cons,List.take_zero,List.getElem_map]
  rw[(List.getElem?_eq_some_iff.1 hb).2]
 rw[this]
 refine⟨rfl,?_,?_⟩
 ·show (0:Int)<=_
  omega
 ·show ((b.toNat:Nat):Int)<=255
  have:=b.toNat_lt
  omega
section
variable{P:Program} {x y:Operand} {i j:Env} {dst:Option Nat} {ty:TypeId} {pos:String} {af:Array Edge} {gd:Option (Nat×Bool)} {R:List Res}
theorem run_s2b{w:World} {S D E:TypeId}(hS:P.underlying S=some .string)(hD:P.underlying D=some (.slice E))(hE:P.underlying E=some (.int .u8))(s:Str)(h:s.length<=big):
  ∃c ob,(convert S D (.string ⟨⟨s⟩⟩)).run P w=.ok (.slice (some ⟨w.heap.size,0,none⟩) s.length c) ((w.drew.alloc ob))/\s.length<=c/\c<=9223372036854775807/\∃cells fr,ob=.cells cells E fr/\cells.toList.take s.length=s.map fun b=>Value.int .u8 b.toNat:=by
 let cap:=grownCap w s.length 0 E
 have hge:s.length<=cap:=grownCap_ge w s.length 0 E
 have hle:cap<=maxLen:=grownCap_le_maxLen w s.length 0 E (by unfold maxLen;unfold big at h;omega)
 let arr:Array Value:=(s.toArray.map fun b=>Value.int .u8 b.toNat)++Array.replicate (cap-s.length) (.int .u8 0)
 refine⟨cap,.cells arr E (arr.size,arr.size+1),?_,hge,by unfold maxLen at hle;omega,arr,_,rfl,?_⟩
 ·have hf:(w.drew.alloc (.cells arr E)).freeze ⟨w.heap.size,arr.size,none⟩ 1=w.drew.alloc (.cells arr E (arr.size,arr.size+1)):=by
   have hm:∀(o:Obj) (f:Obj->Obj),(w.heap.push o).modify w.heap.size f=w.heap.push (f o):=by
    intro o f
    apply Array.ext (by simp)
    intro i h1 h2
    rw[Array.getElem_modify]
    by_cases hi:w.heap.size=i
    ·subst hi;simp
    ·have:i<w.heap.size:=by simp at h2;omega
     simp[Array.getElem_push,hi,this]
   unfold World.freeze
   rw[if_neg (by decide)]
   show ({heap:=(w.heap.push (.cells arr E (0,0))).modify w.heap.size _,tape:=w.tape,drawn:=w.drawn+1,os:=w.os,output:=w.output}:World)={heap:=w.heap.push (.cells arr E (arr.size,arr.size+1)),tape:=w.tape,drawn:=w.drawn+1,os:=w.os,output:=w.output}
   rw[hm]
   rfl
  have hq:(Question.appendCap s.length 0 E).forced=false:=rfl
  have hs:(⟨⟨s⟩⟩:ByteArray).size=s.length:=rfl
  have hsh:(w.drew.alloc (.cells arr E)).shape? w.heap.size=some (E,arr.size):=by
   have:(w.drew.alloc (.cells arr E)).heap[w.heap.size]?=some (.cells arr E (0,0)):=eP w.drew _
   unfold World.shape?;rw[this]
  simp[convert,run_underlying hS,run_underlying hD,run_underlying hE,Conv.stringToBytes,newRow,newObj,markStringish,hq,hs]
  have harr:((List.map (fun b=>Value.int IntKind.u8 ↑b.toNat) s).toArray++Array.replicate ((Question.appendCap s.length 0 E).cut (w.tape w.drawn (Question.appendCap s.length 0 E))-s.length) (Value.int IntKind.u8 0))=arr:=by
   show _=(s.toArray.map fun b:UInt8=>Value.int .u8 b.toNat)++Array.replicate (grownCap w s.length 0 E-s.length) (Value.int .u8 0)
   simp[grownCap]
  rw[harr]
  have hn:(Sem.run P (Sem.new (Obj.cells arr E) Sem.pure) w.drew)=.ok w.heap.size (w.drew.alloc (.cells arr E)):=rfl
  rw[hn]
  simp only[Result.andThen_ok,hsh]
  have hfz:(Sem.run P (freeze {block:=w.heap.size,off:=arr.size} 1) (w.drew.alloc (.cells arr E)))=.ok () (w.drew.alloc (Obj.cells arr E (arr.size,arr.size+1))):=by
   rw[<-hf];rfl
  rw[hfz]
  rfl
 ·show ((s.toArray.map fun b:UInt8=>Value.int .u8 b.toNat)++Array.replicate (cap-s.length) (Value.int .u8 0)).toList.take s.length=_
  simp only[Array.toList_append,Array.toList_map]
  exact List.take_left' (by simp)
theorem oS2B{S D E:TypeId} {s:Str}(hS:P.underlying S=some .string)(hD:P.underlying D=some (.slice E))(hE:P.underlying E=some (.int .u8))(hb:s.length<=big)(h:Opd x (.d (kS.sig s)) i):
  OkP P ⟨dst,.convert S D x,ty,pos,af,gd⟩ i (.d ((kL (kI .u8)).sig (u8s s))):=by
 intro g w a K Q hA hi hK
 obtain⟨ex,_⟩:=kS_sig.1 (h g a hi)
 obtain⟨c,ob,hr,hc1,hc2,cells,fr,rfl,hcs⟩:=run_s2b (P:=P) (w:=w) hS hD hE s hb
 unfold Oper.wp
 rw[show (execOp a.eval ⟨dst,.convert S D x,ty,pos,af,gd⟩).run P w=.ok (.value (.slice (some ⟨w.heap.size,0,none⟩) s.length c)) (w.drew.alloc (.cells cells E fr)) by
  simp only[execOp,ex,Sem.run_bind,hr,Result.andThen_ok,Sem.run_pure]]
 let H':FH:=fun b=>if b=w.heap.size then some (.cells cells E fr) else g.H b
 have hle:FH.le g.H H':=fun b o' e=>by
  have:=hA.lt e
  show (if b=w.heap.size then some _ else g.H b)=some o'
  rw[if_neg (by omega)];exact e
 have hold:∀b,b<w.heap.size->(w.drew.alloc (.cells cells E fr)).heap[b]?=w.heap[b]?:=fun b hb=>Below.heap_alloc w.drew _ b hb
 have hl:(u8s s).length=s.length:=by simp[u8s]
 refine hK _ H' _ ⟨rfl,rfl,rfl,by show w.heap.size<=(w.heap.push _).size;simp,fun b hb _=>hold b hb,fun b hb _=>?_,⟨hA.base.mono hle,fun b o' e=>?_⟩⟩ (kL_sig.2 ⟨_,c,by rw[hl],by rw[hl];exact hc1,hc2,by rw[hl];exact hb,.inr ⟨w.heap.size,0,cells,E,fr,rfl,by simp[H'],?_⟩⟩)
 ·show (if b=w.heap.size then some _ else g.H b)=g.H b
  rw[if_neg (by omega)]
 ·by_cases hb':b=w.heap.size
  ·subst hb'
   simp only[H',if_pos] at e
   cases e
   exact eP w.drew _
  ·have e':g.H b=some o':=by simpa [H',hb'] using e
   exact(hold b (hA.lt e')).trans (hA b o' e')
 ·rw[List.drop_zero,hl]
  show RowOf (kI .u8) H' (cells.toList.take (s.length*1)) (u8s s)
  rw[Nat.mul_one,hcs]
  exact row_u8s s
end
def wr(off:Nat)(v:Value)(cells:Array Value):Array Value:=v.cells.zipIdx.foldl (fun cs (c,j)=>cs.setIfInBounds (off+j) c) cells
theorem wr_list{off:Nat} {v:Value} {cells:Array Value}(h:off+v.cells.size<=cells.size):(wr off v cells).toList=cells.toList.take off++v.cells.toList++cells.toList.drop (off+v.cells.size):=by
 unfold wr
 rw[<-Array.foldl_toList]
 have:=jh v.cells.toList 0 off cells (by simpa using h)
 simp only[Nat.add_zero] at this
 rw[show (v.cells.zipIdx).toList=v.cells.toList.zipIdx 0 by simp]
 rw[this]
 simp
theorem hC{off:Nat} {v:Value} {cells:Array Value}(h:off+v.cells.size<=cells.size):(wr off v cells).size=cells.size:=by
 rw[<-Array.length_toList,wr_list h]
 simp
 omega
theorem jJ{off:Nat} {v:Value} {cells:Array Value}(h:off+v.cells.size<=cells.size)(k:Nat):(wr off v cells)[k]?=if off<=k/\k<off+v.cells.size then v.cells[k-off]? else cells[k]?:=by
 rw[<-Array.getElem?_toList,wr_list h]
 have hl:(cells.toList.take off).length=off:=by simp;omega
 by_cases h1:k<off
 ·rw[if_neg (by omega),List.append_assoc,List.getElem?_append_left (by omega),List.getElem?_take_of_lt h1,Array.getElem?_toList]
 ·by_cases h2:k<off+v.cells.size
  ·rw[if_pos ⟨by omega,h2⟩,List.getElem?_append_left (by simp only[List.length_append,hl,Array.length_toList];omega),List.getElem?_append_right (by omega),hl,Array.getElem?_toList]
  ·rw[if_neg (by omega),List.getElem?_append_right (by simp only[List.length_append,hl,Array.length_toList];omega),List.getElem?_drop]
   simp only[List.length_append,hl,Array.length_toList,Array.getElem?_toList]
   congr 1;omega
theorem wr_comm{o1 o2:Nat} {v1 v2:Value} {cells:Array Value}(h1:o1+v1.cells.size<=cells.size)(h2:o2+v2.cells.size<=cells.size)(h:o1+v1.cells.size<=o2\/o2+v2.cells.size<=o1):wr o1 v1 (wr o2 v2 cells)=wr o2 v2 (wr o1 v1 cells):=by
 apply Array.ext_getElem?
 intro k
 rw[jJ (by rw[hC h2];exact h1),jJ h2,jJ (by rw[hC h1];exact h2),jJ h1]
 by_cases a:o1<=k/\k<o1+v1.cells.size
 ·rw[if_pos a,if_neg (by omega),if_pos a]
 ·rw[if_neg a]
  by_cases b:o2<=k/\k<o2+v2.cells.size
  ·rw[if_pos b,if_pos b]
  ·rw[if_neg b,if_neg b,if_neg a]
def Dj(place:Nat->Option (Nat×Nat))(p q:Nat×Value):Prop:=∀o1 n1 o2 n2,place p.1=some (o1,n1)->place q.1=some (o2,n2)->o1+n1<=o2\/o2+n2<=o1
theorem Dj.symm{place:Nat->Option (Nat×Nat)} {p q:Nat×Value}(h:Dj place p q):Dj place q p:=fun o1 n1 o2 n2 e1 e2=>(h o2 n2 o1 n1 e2 e1).symm
theorem eM{place:Nat->Option (Nat×Nat)} {cells:Array Value} {p:Nat×Value} {r:List (Nat×Value)}:Instr.fill place cells (p::r)=match place p.1 with
  |none=>none
  |some (off,size)=>if p.2.cells.size≠size\/off+p.2.cells.size>cells.size then none else Instr.fill place (wr off p.2 cells) r:=by
 obtain⟨i,v⟩:=p
 rw[Instr.fill]
 cases place i with
 |none=>rfl
 |some o=>
  obtain⟨off,size⟩:=o
  simp only[Bool.or_eq_true,decide_eq_true_eq]
  rfl
theorem fill_swap{place:Nat->Option (Nat×Nat)} {cells:Array Value} {p q:Nat×Value} {r:List (Nat×Value)}(h:Dj place p q):Instr.fill place cells (p::q::r)=Instr.fill place cells (q::p::r):=by
 rw[eM,eM (p:=q)]
 cases h1:place p.1 with
 |none=>
  cases h2:place q.1 with
  |none=>rfl
  |some o2=>
   obtain⟨o2,n2⟩:=o2
   dsimp only
   split
   ·rfl
   ·rw[eM,h1]
 |some o1=>
  obtain⟨o1,n1⟩:=o1
  cases h2:place q.1 with
  |none=>
   dsimp only
   split
   ·rfl
   ·rw[eM,h2]
  |some o2=>
   obtain⟨o2,n2⟩:=o2
   dsimp only
   by_cases c1:p.2.cells.size≠n1\/o1+p.2.cells.size>cells.size
   ·rw[if_pos c1]
    split
    ·rfl
    ·rename_i c2
     rw[eM,h1]
     dsimp only
     rw[if_pos (by rw[hC (by omega)];exact c1)]
   ·rw[if_neg c1,eM,h2]
    dsimp only
    rw[hC (by omega)]
    by_cases c2:q.2.cells.size≠n2\/o2+q.2.cells.size>cells.size
    ·rw[if_pos c2,if_pos c2]
    ·rw[if_neg c2,if_neg c2,eM,h1]
     dsimp only
     rw[hC (by omega),if_neg c1]
     have:=h o1 n1 o2 n2 h1 h2
     rw[wr_comm (by omega) (by omega) (by omega)]
theorem fill_perm{place:Nat->Option (Nat×Nat)} {ps qs:List (Nat×Value)}(h:ps.Perm qs):ps.Pairwise (Dj place)->∀cells,Instr.fill place cells ps=Instr.fill place cells qs:=by
 induction h with
 |nil=>intro _ _;rfl
 |cons x k ih=>
  intro hp cells
  rw[eM,eM]
  cases place x.1 with
  |none=>rfl
  |some o=>
   dsimp only
   split
   ·rfl
   ·exact ih (List.pairwise_cons.1 hp).2 _
 |swap x y l=>
  intro hp cells
  exact fill_swap ((List.pairwise_cons.1 hp).1 _ (List.mem_cons_self ..))
 |trans k1 k2 ih1 ih2=>
  intro hp cells
  exact(ih1 hp cells).trans (ih2 ((k1.pairwise_iff (fun h=>Dj.symm h)).1 hp) cells)
theorem prt_idx{S:Type}:∀{fs:List (Fld S)} {n:Nat} {u:S} {ps:List (Nat×Operand)} {zs:List Value} {b:Env},Prt S fs n u ps zs b->(∀p∈ps,∃q f,p.1=n+q/\fs[q]?=some f)/\ps.Pairwise (fun p q=>p.1<q.1):=by
 intro fs n u ps zs b hp
 induction hp with
 |nil=>exact⟨by simp,List.Pairwise.nil⟩
 | @op f fs n u x ps zs zc a0 b0 h hz k ih=>
  refine⟨fun p hp=>?_,List.pairwise_cons.2 ⟨fun p hp=>?_,ih.2⟩⟩
  ·rcases List.mem_cons.1 hp with rfl|hp
   ·exact⟨0,f,rfl,rfl⟩
   ·obtain⟨q,f',e1,e2⟩:=ih.1 p hp
    exact⟨q+1,f',by omega,by simpa using e2⟩
  ·obtain⟨q,f',e1,e2⟩:=ih.1 p hp
   show n<p.1
   omega
 | @ze f fs n u ps zs zc b0 h k ih=>
  refine⟨fun p hp=>?_,ih.2⟩
  obtain⟨q,f',e1,e2⟩:=ih.1 p hp
  exact⟨q+1,f',by omega,by simpa using e2⟩
theorem offF_lt{S:Type}:∀{fs:List (Fld S)} {q q':Nat} {f:Fld S},fs[q]?=some f->q<q'->q'<fs.length->offF fs q+f.d.sz<=offF fs q'
 |[],_,_,_,h,_,_=>by simp at h
 |g::fs,0,q'+1,f,h,_,_=>by
  simp at h;subst h
  simp only[offF];omega
 |g::fs,q+1,q'+1,f,h,hq,hl=>by
  have:=offF_lt (fs:=fs) (q:=q) (q':=q') (f:=f) (by simpa using h) (by omega) (by simpa using hl)
  simp only[offF];omega
section
variable{P:Program} {x y:Operand} {i j:Env} {dst:Option Nat} {T ty:TypeId} {pos:String} {af:Array Edge} {gd:Option (Nat×Bool)} {R:List Res}
theorem oBuildP{S:Type} {fs:List (Fld S)} {u:S} {ps qs:List (Nat×Operand)} {pa:Array (Nat×Operand)} {zs:List Value} {pl:List (Nat×Nat)}(hpa:pa.toList=qs)(hpm:qs.Perm ps)(hz:zeroIs P T zs)(hpl:places P T=some pl)(hoff:∀q f,fs[q]?=some f->pl[q]?=some (offF fs q,f.d.sz))(h:Prt S fs 0 u ps zs i):OkP P ⟨dst,.build T pa,ty,pos,af,gd⟩ i (.d ((kR fs).sig u)):=okV fun g w a hA hi=>by
 obtain⟨z,hz1,hz2⟩:=Option.map_eq_some_iff.1 hz
 obtain⟨inf,hi1,hi2⟩:=Option.bind_eq_some_iff.1 hz1
 obtain⟨cs,hf,r,hr,hrep⟩:=ji (g:=g) (a:=a) (fun q=>pl.toArray[q]?) [] z.cells h hi (by rw[hz2];rfl) (fun q f hq=>by simpa using hoff q f hq)
 rw[List.nil_append] at hr
 subst hr
 have hf':Instr.fill (fun q=>pl.toArray[q]?) z.cells (qs.map fun p=>(p.1,a.eval p.2))=some cs:=by
  rw[<-hf]
  symm
  refine fill_perm (hpm.symm.map _) ?_ _
  obtain⟨k1,k2⟩:=prt_idx h
  rw[List.pairwise_map]
  refine List.Pairwise.imp_of_mem ?_ k2
  intro p q hp hq hlt o1 n1 o2 n2 e1 e2
  obtain⟨q1,f1,r1,r2⟩:=k1 p hp
  obtain⟨q2,f2,r3,r4⟩:=k1 q hq
  rw[Nat.zero_add] at r1 r3
  have e1':pl[q1]?=some (o1,n1):=by rw[<-r1];simpa using e1
  have e2':pl[q2]?=some (o2,n2):=by rw[<-r3];simpa using e2
  rw[hoff q1 f1 r2] at e1'
  rw[hoff q2 f2 r4] at e2'
  cases e1';cases e2'
  exact .inl (offF_lt r2 (by omega) (List.getElem?_eq_some_iff.1 r4).1)
 refine⟨.agg cs,?_,cs.toList,hrep,by simp[mkv,kR]⟩
 have hzr:(zeroValue T).run P w=.ok z w:=by
  simp only[zeroValue,typeInfo,program,Sem.run_bind,Sem.run,Sem.run_pure',Result.andThen_ok,hi1,Sem.run_pure,hi2]
 unfold places at hpl
 split at hpl
 ·rename_i fields hu
  have hrp:=gi (P:=P) (w:=w) fields.toList pl hpl
  have hm:(fields.mapM fun f=>(do pure (f.offset,<-sizeOf f.type):Sem (Nat×Nat))).run P w=.ok pl.toArray w:=by
   rw[<-Array.toArray_toList (xs:=fields),List.mapM_toArray]
   simp only[Sem.run_map,Sem.run_bind,Array.toArray_toList] at hrp⊢
   rw[hrp];rfl
  have hpm:(pa.map fun(x:Nat×Operand)=>(x.1,a.eval x.2)).toList=qs.map fun p=>(p.1,a.eval p.2):=by rw[Array.toList_map,hpa]
  simp only[execOp,Instr.build,Sem.run_bind,hzr,Result.andThen_ok,run_underlying hu,hm]
  rw[show (Array.map (fun x=>match x with|(i,x)=>(i,a.eval x)) pa).toList=qs.map fun p=>(p.1,a.eval p.2) from hpm,hf']
  rfl
 ·cases hpl
end
end Go.Proofs.YtmjcpkmongafnaaGreatDoor.Ab
