import Derived.Test.YtmjcpkmongafnaaGreatDoorAb4
import Derived.Lib.Strings
set_option linter.unusedVariables false
set_option linter.unusedSimpArgs false
namespace Go.Proofs.YtmjcpkmongafnaaGreatDoor.Ab
open Go Go.RowKit
section
variable{P:Program} {x y:Operand} {i j k3:Env} {dst:Option Nat} {T T' ty:TypeId} {pos:String} {af:Array Edge} {gd:Option (Nat×Bool)}
theorem kr{n:Nat}(h:n<=9223372036854775807):InR .i64 (n:Int):=by unfold InR IntKind.min IntKind.max;simp[IntKind.signed,IntKind.bits];omega
theorem toL(s:Str):(⟨⟨s⟩⟩:ByteArray).toList=s:=by
 rw[Lib.toList_data]
theorem arr0(v:Value):(#[v]:Array Value)[0]?=some v:=rfl
theorem oLenS{s:Str} {ts:Array TypeId}(hT:(ts[0]?).bind P.underlying=some .string)(h:Opd x (.d (kS.sig s)) i):OkP P ⟨dst,.call ⟨.builtin .len,#[x],ts⟩,ty,pos,af,gd⟩ i (.d ((kI .i64).sig (s.length:Int))):=okV fun g w ac hA hi=>by
 have h1:=kS_sig.1 (h g ac hi)
 obtain⟨t,ht,hu⟩:=Option.bind_eq_some_iff.1 hT
 refine⟨.int .i64 s.length,?_,kI_sig.2 ⟨rfl,kr h1.2⟩⟩
 simp only[execOp,resolve,invoke,builtin,Builtin.len_,Sem.run_bind,Sem.run_pure,Result.andThen_ok,List.map_toArray,List.map_cons,List.map_nil,h1.1,ht,arr0]
 simp only[Sem.run_bind,run_underlying hu]
 rfl
theorem oSEq{a b:Str} {r:Bool}(hr:decide (a=b)=r)(h:Opd x (.d (kS.sig a)) i)(h':Opd y (.d (kS.sig b)) j):OkP P ⟨dst,.binOp .eql T x y T',ty,pos,af,gd⟩ (i++j) (.d (kB.sig r)):=okV fun g w ac hA hi=>by
 have h1:=kS_sig.1 (h g ac (satI_l hi))
 have h2:=kS_sig.1 (h' g ac (satI_r hi))
 subst hr
 refine⟨.bool (decide (a=b)),?_,kB_sig.2 rfl⟩
 simp only[execOp,h1.1,h2.1,binOp,eqGuard,Op.stringOp,toL]
 by_cases h:a=b<;>simp[h]
theorem oSNe{a b:Str} {r:Bool}(hr:decide (a=b)=r)(h:Opd x (.d (kS.sig a)) i)(h':Opd y (.d (kS.sig b)) j):OkP P ⟨dst,.binOp .neq T x y T',ty,pos,af,gd⟩ (i++j) (.d (kB.sig (!r))):=okV fun g w ac hA hi=>by
 have h1:=kS_sig.1 (h g ac (satI_l hi))
 have h2:=kS_sig.1 (h' g ac (satI_r hi))
 subst hr
 refine⟨.bool (!decide (a=b)),?_,kB_sig.2 rfl⟩
 simp only[execOp,h1.1,h2.1,binOp,eqGuard,Op.stringOp,toL]
 by_cases h:a=b<;>simp[h]
def sAt(s:Str)(i:Int):Int:=((s.getD i.toNat 0).toNat:Int)
theorem byte_inR(b:UInt8):InR .u8 (b.toNat:Int):=by
 have:=b.toNat_lt
 unfold InR IntKind.min IntKind.max;simp[IntKind.signed,IntKind.bits];omega
theorem oIdxS{kk:IntKind} {s:Str} {n:Int}(hT:P.underlying T=some .string)(h0:0<=n)(h1:n<s.length)(h:Opd x (.d (kS.sig s)) i)(h':Opd y (.d ((kI kk).sig n)) j):OkP P ⟨dst,.index T x y,ty,pos,af,gd⟩ (i++j) (.d ((kI .u8).sig (sAt s n))):=okV fun g w ac hA hi=>by
 have e1:=(kS_sig.1 (h g ac (satI_l hi))).1
 have e2:=(kI_sig.1 (h' g ac (satI_r hi))).1
 refine⟨.int .u8 (sAt s n),?_,kI_sig.2 ⟨rfl,byte_inR _⟩⟩
 have hlt:n.toNat<s.length:=by omega
 have hget:(⟨⟨s⟩⟩:ByteArray)[n.toNat]?=some (s[n.toNat]):=by
  rw[getElem?_pos (c:=(⟨⟨s⟩⟩:ByteArray)) (i:=n.toNat) (h:=(show n.toNat<(⟨⟨s⟩⟩:ByteArray).size from hlt))];rfl
 simp only[execOp,e1,e2,Instr.index,asIntOf,Sem.run_bind,Sem.run_pure,Result.andThen_ok,run_underlying hT,if_pos h0,hget]
 simp[sAt,hlt]
def sCut(s:Str)(a b:Int):Str:=(s.drop a.toNat).take (b.toNat-a.toNat)
theorem oo(s:Str)(a b:Nat):(⟨⟨s⟩⟩:ByteArray).extract a b=⟨⟨(s.drop a).take (b-a)⟩⟩:=by
 apply ByteArray.ext
 apply Array.ext'
 rw[Lib.extract_data]
theorem sCut_len{s:Str} {a b:Int}(h:b<=s.length)(h0:0<=a)(h1:a<=b):(sCut s a b).length=b.toNat-a.toNat:=by
 unfold sCut;rw[List.length_take,List.length_drop];omega
theorem fA{w:World} {k:IntKind} {n:Int} {m:Nat} {c:BoundsCode}(h0:0<=n)(h1:n<=m):(Instr.sliceBound (.int k n) m c).run P w=.ok n.toNat w:=by
 simp only[Instr.sliceBound,asIntOf,Sem.run_bind,Sem.run_pure,Result.andThen_ok,if_pos (And.intro h0 h1)]
theorem oCutSH{s:Str} {b:Int}(hT:P.underlying T=some .string)(h0:0<=b)(h1:b<=s.length)(h:Opd x (.d (kS.sig s)) i)(ha:Opd y (.d ((kI .i64).sig b)) j):OkP P ⟨dst,.slice T x none (some y) none,ty,pos,af,gd⟩ (i++j) (.d (kS.sig (sCut s 0 b))):=okV fun g w ac hA hi=>by
 have e1:=kS_sig.1 (h g ac (satI_l hi))
 have e2:=(kI_sig.1 (ha g ac (satI_r hi))).1
 refine⟨.string ⟨⟨sCut s 0 b⟩⟩,?_,kS_sig.2 ⟨rfl,by rw[sCut_len h1 (Int.le_refl _) h0];have:=e1.2;omega⟩⟩
 simp only[execOp,e1.1,Option.map_some,Option.map_none,e2,Instr.sliceAt,Sem.run_bind,Result.andThen_ok,run_underlying hT,Instr.slice,Instr.sliceBounds,Option.isSome_none,Bool.false_eq_true,if_false,Sem.run_pure]
 rw[fA h0 (show b<=((⟨⟨s⟩⟩:ByteArray).size:Int) from h1),Result.andThen_ok]
 simp only[Sem.run_pure,Result.andThen_ok,oo,sCut]
 rfl
theorem oLenL{α:Type} {d:Kd α} {xs:List α} {ts:Array TypeId} {E:TypeId}(hT:(ts[0]?).bind P.underlying=some (.slice E))(h:Opd x (.d ((kL d).sig xs)) i):OkP P ⟨dst,.call ⟨.builtin .len,#[x],ts⟩,ty,pos,af,gd⟩ i (.d ((kI .i64).sig (xs.length:Int))):=okV fun g w ac hA hi=>by
 obtain⟨A,c,e,h1,h2,h3,h4⟩:=kL_sig.1 (h g ac hi)
 obtain⟨t,ht,hu⟩:=Option.bind_eq_some_iff.1 hT
 refine⟨.int .i64 xs.length,?_,kI_sig.2 ⟨rfl,kr (by unfold big at h3;omega)⟩⟩
 simp only[execOp,resolve,invoke,builtin,Builtin.len_,Sem.run_bind,Sem.run_pure,Result.andThen_ok,List.map_toArray,List.map_cons,List.map_nil,e,ht,arr0]
 simp only[Sem.run_bind,run_underlying hu]
 rfl
def sizeIs(P:Program)(E:TypeId)(n:Nat):Prop:=(P.info? E).map (·.size)=some n
theorem fU{w:World} {E:TypeId} {n:Nat}(h:sizeIs P E n):(sizeOf E).run P w=.ok n w:=by
 obtain⟨i,hi,he⟩:=Option.map_eq_some_iff.1 h
 subst he
 simp only[sizeOf,typeInfo,program,Sem.run_bind,Sem.run,Sem.run_pure',Result.andThen_ok,hi,Sem.run_pure]
theorem gR(b o n:Nat):(⟨b,o,none⟩:Addr).add n=⟨b,o+n,none⟩:=by unfold Addr.add;split<;>simp_all
def sP{α:Type}(d:Kd α)(x:α):Sig:=⟨fun H v=>∃b off cells t fr,v=.pointer (some ⟨b,off,none⟩)/\H b=some (.cells cells t fr)/\d.reps H ((cells.toList.drop off).take d.sz) x,
 fun h ⟨b,off,cells,t,fr,e,hb,hr⟩=>⟨b,off,cells,t,fr,e,h _ _ hb,d.mono h hr⟩⟩
def lAt{α:Type}(xs:List α)(i:Int):Option α:=if 0<=i then xs[i.toNat]? else none
theorem kt{α:Type} {xs:List α} {n:Int} {u:α}(h:lAt xs n=some u):0<=n/\n.toNat<xs.length/\xs[n.toNat]?=some u:=by
 unfold lAt at h
 split at h
 ·rename_i h0;exact⟨h0,(List.getElem?_eq_some_iff.1 h).1,h⟩
 ·cases h
theorem oIdx{kk:IntKind} {α:Type} {d:Kd α} {xs:List α} {u:α} {n:Int} {E:TypeId}(hT:P.underlying T=some (.slice E))(hE:sizeIs P E d.sz)(hu:lAt xs n=some u)(h:Opd x (.d ((kL d).sig xs)) i)(h':Opd y (.d ((kI kk).sig n)) j):OkP P ⟨dst,.indexAddr T x y,ty,pos,af,gd⟩ (i++j) (.d (sP d u)):=okV fun g w ac hA hi=>by
 obtain⟨A,c,e,h1,h2,h3,h4⟩:=kL_sig.1 (h g ac (satI_l hi))
 have e2:=(kI_sig.1 (h' g ac (satI_r hi))).1
 obtain⟨h0,hlt,hget⟩:=kt hu
 rcases h4 with rfl|⟨b,off,cells,t,fr,rfl,hb,hr⟩
 ·simp at hlt
 ·refine⟨.pointer (some ((⟨b,off,none⟩:Addr).add (n.toNat*d.sz))),?_,?_⟩
  ·have hn:0<=n/\n<(xs.length:Int):=⟨h0,by omega⟩
   simp only[execOp,e,e2,Instr.indexAt,asIntOf,Sem.run_bind,Sem.run_pure,Result.andThen_ok,run_underlying hT,if_pos hn,fU hE]
  ·rw[gR]
   refine⟨b,off+n.toNat*d.sz,cells,t,fr,rfl,hb,?_⟩
   have:=hr.2 n.toNat u hget
   rw[List.drop_take,List.take_take,List.drop_drop] at this
   rwa [Nat.min_eq_left (by have:=Nat.mul_le_mul_right d.sz hlt;rw[Nat.succ_mul] at this;omega)] at this
def tinf(P:Program)(T:TypeId):Option (Bool×Nat):=
 match P.underlying T,P.info? T with
 |some (.struct _),some i=>some (true,i.size)
 |some (.array _ _),some i=>some (true,i.size)
 |some _,some i=>some (false,i.size)
 |_,_=>none
theorem nz{w:World} {T:TypeId} {b:Bool} {n:Nat}(h:tinf P T=some (b,n)):(isAgg T).run P w=.ok b w/\sizeIs P T n:=by
 unfold tinf at h
 split at h<;>simp at h<;>obtain⟨rfl,rfl⟩:=h<;>rename_i hu hi
 ·exact⟨by simp only[isAgg,Sem.run_bind,run_underlying hu];rfl,by simp[sizeIs,hi]⟩
 ·exact⟨by simp only[isAgg,Sem.run_bind,run_underlying hu];rfl,by simp[sizeIs,hi]⟩
 ·rename_i d _ hs ha
  refine⟨?_,by simp[sizeIs,hi]⟩
  simp only[isAgg,Sem.run_bind,run_underlying hu,Result.andThen_ok]
  cases d<;>first|rfl|exact absurd rfl (hs _)|exact absurd rfl (ha _ _)
theorem ie{w:World} {b off:Nat} {T:TypeId} {ag:Bool} {n:Nat} {cells:Array Value} {t:TypeId} {fr:Nat×Nat} {ls:List Value}
  (hi:tinf P T=some (ag,n)) (h1:ag=false->n=1) (hb:w.heap[b]?=some (.cells cells t fr)) (hl:(cells.toList.drop off).take n=ls) (hn:ls.length=n):
  (Instr.loadAt T (.pointer (some ⟨b,off,none⟩))).run P w=.ok (mkv ag ls) w:=by
 obtain⟨ha,hs⟩:=nz (w:=w) hi
 have hc:∀j v,ls[j]?=some v->w.cell? ((⟨b,off,none⟩:Addr).add j)=some v:=by
  intro j v hv
  rw[gR,cell_of_row w b (off+j) cells t fr hb]
  subst hl
  rw[List.getElem?_take] at hv
  split at hv
  ·rw[List.getElem?_drop] at hv;simpa using hv
  ·cases hv
 simp only[Instr.loadAt,Instr.sureAddr,Sem.run_bind,Sem.run_pure,Result.andThen_ok,loadVar,ha]
 cases ag with
 |true=>
  have hl:=run_loadCells_list (P:=P) w ⟨b,off,none⟩ ls hc
  rw[hn] at hl
  simp only[if_true,Sem.run_bind,fU hs,Result.andThen_ok,hl,Sem.run_pure]
  rfl
 |false=>
  rw[h1 rfl] at hn
  match ls,hn with
  |[v],_=>
   have:=hc 0 v rfl
   rw[gR,Nat.add_zero] at this
   simp only[Bool.false_eq_true,if_false,load,Sem.run,this,Sem.run_pure']
   rfl
theorem oLd{α:Type} {d:Kd α} {u:α}(hi:tinf P T=some (d.agg,d.sz))(h:Opd x (.d (sP d u)) i):OkP P ⟨dst,.load T x,ty,pos,af,gd⟩ i (.d (d.sig u)):=okV fun g w ac hA hs=>by
 obtain⟨b,off,cells,t,fr,e,hb,hr⟩:=h g ac hs
 refine⟨mkv d.agg ((cells.toList.drop off).take d.sz),?_,⟨_,hr,rfl⟩⟩
 simp only[execOp,e,Sem.run_bind,ie hi d.one (hA b _ hb) rfl (d.len hr),Result.andThen_ok,Sem.run_pure]
def fofs(P:Program)(S j:Nat):Option Nat:=
 match P.underlying S with
 |some (.struct fs)=>match fs[j]? with
  |some f=>match P.info? f.type with
   |some i=>if i.size=0 then none else some f.offset
   |none=>none
  |none=>none
 |_=>none
theorem jN{w:World} {S j off b o:Nat}(h:fofs P S j=some off):(Instr.fieldAt S (.pointer (some ⟨b,o,none⟩)) j).run P w=.ok (.pointer (some ⟨b,o+off,none⟩)) w:=by
 unfold fofs at h
 split at h<;>try cases h
 rename_i fs hu
 split at h<;>try cases h
 rename_i f hf
 split at h<;>try cases h
 rename_i i hi
 split at h<;>try cases h
 rename_i hz
 have hsz:(sizeOf f.type).run P w=.ok i.size w:=fU (by simp[sizeIs,hi])
 simp only[Instr.fieldAt,Sem.run_bind,run_underlying hu,Result.andThen_ok,hf,Instr.sureAddr,Sem.run_pure,fieldPlace,hsz,hz,if_false,gR]
theorem oFld{S:Type} {fs:List (Fld S)} {u:S} {k:Nat} {f:Fld S}(hf:fs[k]?=some f)(ho:fofs P T k=some (offF fs k))(h:Opd x (.d (sP (kR fs) u)) i):OkP P ⟨dst,.fieldAddr T x k,ty,pos,af,gd⟩ i (.d (sP f.d (f.get u))):=okV fun g w ac hA hs=>by
 obtain⟨b,off,cells,t,fr,e,hb,hr⟩:=h g ac hs
 refine⟨.pointer (some ⟨b,off+offF fs k,none⟩),by simp only[execOp,e,Sem.run_bind,jN ho,Result.andThen_ok,Sem.run_pure],⟨b,off+offF fs k,cells,t,fr,rfl,hb,?_⟩⟩
 have h2:=repsF_at fs k f hf hr
 rw[List.drop_take,List.take_take,List.drop_drop] at h2
 have hle:f.d.sz<=(kR fs).sz-offF fs k:=by
  have h3:=f.d.len h2
  rw[List.length_take,List.length_drop] at h3
  have hlen:=(kR fs).len hr
  omega
 rwa [Nat.min_eq_left hle] at h2
theorem ig(w:World)(o:Obj):(w.alloc o).heap[w.heap.size]?=some o:=by
 show (w.heap.push o)[w.heap.size]?=_
 simp
theorem okA{o:Oper} {ins:Env} {out:Ent}(h:∀(g:G) (w:World) (a:Act),Agree g.H w->SatI ins g a->∃v ob,(execOp a.eval o).run P w=.ok (.value v) (w.alloc ob)/\∀H',FH.le g.H H'->H' w.heap.size=some ob->out.ok ⟨H',g.nm⟩ v):OkP P o ins out:=by
 intro g w a K Q hA hi hK
 obtain⟨v,ob,hr,hv⟩:=h g w a hA hi
 unfold Oper.wp
 rw[hr]
 let H':FH:=fun b=>if b=w.heap.size then some ob else g.H b
 have hle:FH.le g.H H':=fun b o' e=>by
  have:=hA.lt e
  show (if b=w.heap.size then some ob else g.H b)=some o'
  rw[if_neg (by omega)];exact e
 refine hK v H' (w.alloc ob) ⟨rfl,rfl,rfl,by simp,fun b hb _=>Below.heap_alloc w ob b hb,fun b hb _=>?_,⟨hA.base.mono hle,fun b o' e=>?_⟩⟩ (hv H' hle (by simp[H']))
 ·show (if b=w.heap.size then some ob else g.H b)=g.H b
  rw[if_neg (by omega)]
 ·by_cases hb:b=w.heap.size
  ·subst hb
   simp only[H',if_pos] at e
   cases e
   exact ig w ob
  ·have e':g.H b=some o':=by simpa [H',hb] using e
   exact(Below.heap_alloc w ob b (hA.lt e')).trans (hA b o' e')
theorem oBox{α:Type} {d:Kd α} {u:α}(h:Opd x (.d (d.sig u)) i):OkP P ⟨dst,.box T x,ty,pos,af,gd⟩ i (.d (sP d u)):=okA fun g w ac hA hs=>by
 obtain⟨cs,hr,e⟩:=h g ac hs
 refine⟨.pointer (some ⟨w.heap.size,0,none⟩),.cells cs.toArray T,?_,fun H' hl hH=>⟨w.heap.size,0,cs.toArray,T,(0,0),rfl,hH,?_⟩⟩
 ·simp only[execOp,e,Instr.box,newVar,newRow,newObj,Sem.run_bind,Sem.run,Sem.run_pure,Sem.run_pure',Result.andThen_ok,d.gD hr]
  rfl
 ·simp only[List.drop_zero]
  rw[List.take_of_length_le (by rw[<-d.len hr];exact Nat.le_refl _)]
  exact d.mono hl hr
def Opds:List Operand->List Sig->Env->Prop
 |[],[],i=>i=[]
 |x::xs,s::ss,i=>∃a b,i=a++b/\Opd x (.d s) a/\Opds xs ss b
 |_,_,_=>False
theorem nA:Opds [] [] []:=rfl
theorem mE{x:Operand} {xs:List Operand} {s:Sig} {ss:List Sig} {a b:Env}(h:Opd x (.d s) a)(k:Opds xs ss b):Opds (x::xs) (s::ss) (a++b):=⟨a,b,rfl,h,k⟩
theorem iY:∀{xs:List Operand} {ss:List Sig} {i:Env} {g:G} {a:Act},Opds xs ss i->SatI i g a->Sats ss g.H (xs.map a.eval)
 |[],[],_,_,_,_,_=>rfl
 |x::xs,s::ss,i,g,a,⟨p,q,e,h,k⟩,hi=>by
  subst e
  exact⟨a.eval x,xs.map a.eval,rfl,h g a (satI_l hi),iY k (satI_r hi)⟩
theorem oCall{f:FuncId} {xs:List Operand} {as_:Array Operand} {ts:Array TypeId} {ins:List Sig} {out:Sig}(hx:as_.toList=xs)(hf:FnA P f ins out)(hb:((P.funcs[f]?).map fun fn=>fn.body.isSome&& !(fn.name== "runtime.NumGoroutine"))=some true)(h:Opds xs ins i):OkP P ⟨dst,.call ⟨.value (.func f),as_,ts⟩,ty,pos,af,gd⟩ i (.d out):=by
 intro g w a K Q hA hi hK
 obtain⟨fn,hfn,hb'⟩:=Option.map_eq_some_iff.1 hb
 simp only[Bool.and_eq_true,Bool.not_eq_true',beq_eq_false_iff_ne,ne_eq] at hb'
 unfold Oper.wp
 have hr:(execOp a.eval ⟨dst,.call ⟨.value (.func f),as_,ts⟩,ty,pos,af,gd⟩).run P w=.ok (.enter f (xs.map a.eval).toArray) w:=by
  have hm:as_.map a.eval=(xs.map a.eval).toArray:=by
   subst hx
   apply Array.ext'
   simp
  have hbn:fn.body.isNone=false:=by simpa using hb'.1
  have hc:(callFunc f (xs.map a.eval).toArray).run P w=.ok (.enter f (xs.map a.eval).toArray) w:=by
   simp only[callFunc,program,Sem.run_bind,Sem.run,Sem.run_pure',Result.andThen_ok,hfn]
   rw[if_neg (by simpa using hb'.2),if_neg (by simp[hbn])]
   rfl
  simp only[execOp,resolve,Act.eval,Deferred.ofValue,Sem.run_bind,Sem.run_pure,Result.andThen_ok,invoke]
  rw[show (#[]++Array.map (Act.eval a) as_)++ #[]=(xs.map a.eval).toArray by simp[hm]]
  exact hc
 rw[hr]
 refine(hf g.H w _ hA (iY h hi)).mono ?_
 rintro e w' ⟨v,H',rfl,hk,hv⟩
 exact hK v H' w' hk hv
theorem lm:∀{ss:List Sig} {H:FH} {vs:List Value} {k:Nat} {s:Sig},Sats ss H vs->ss[k]?=some s->∃v,vs[k]?=some v/\s.p H v
 |[],_,_,_,_,_,h=>by simp at h
 |s0::r,H,vs,0,s,⟨v,vr,e,h1,h2⟩,h=>by simp at h;subst h;subst e;exact⟨v,rfl,h1⟩
 |s0::r,H,vs,k+1,s,⟨v,vr,e,h1,h2⟩,h=>by subst e;simpa using lm h2 (by simpa using h)
theorem oExt{ss:List Sig} {k:Nat} {s:Sig}(hs:ss[k]?=some s)(h:Opd x (.d (tup ss)) i):OkP P ⟨dst,.extract x k,ty,pos,af,gd⟩ i (.d s):=okV fun g w ac hA hi=>by
 obtain⟨vs,e,hv⟩:=h g ac hi
 obtain⟨v,hk,hp⟩:=lm hv hs
 refine⟨v,?_,hp⟩
 simp only[execOp,e,Instr.extract]
 simp[hk]
end
end Go.Proofs.YtmjcpkmongafnaaGreatDoor.Ab
