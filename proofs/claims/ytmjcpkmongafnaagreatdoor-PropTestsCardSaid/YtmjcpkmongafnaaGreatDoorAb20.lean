import Derived.Test.YtmjcpkmongafnaaGreatDoorAb19
import Derived.Lib.AppendZeros
import Derived.Laws.AppendOwn
set_option linter.unusedVariables false
set_option linter.unusedSimpArgs false
namespace Go.Proofs.YtmjcpkmongafnaaGreatDoor.Ab
open Go Go.RowKit
def sNN{α:Type}(d:Kd α)(xs:List α):Sig:=⟨fun H v=>((kL d).sig xs).p H v/\∀n c,v≠ .slice none n c,fun h k=>⟨((kL d).sig xs).mono h k.1,k.2⟩⟩
theorem tNN{α:Type} {d:Kd α} {xs:List α} {t:Nat}:Opd (.tmp t) (.d ((kL d).sig xs)) [(t,.d (sNN d xs))]:=fun g a h=>(h (t,.d (sNN d xs)) (List.mem_cons_self ..)).1
section
variable{rd:Option Nat} {P:Program} {x y:Operand} {i j:Env} {dst:Option Nat} {T T' ty:TypeId} {pos:String} {af:Array Edge} {gd:Option (Nat×Bool)} {R:List Res}
theorem oCapN{ts:Array TypeId} {E:TypeId}(hT:(ts[0]?).bind P.underlying=some (.slice E))(h:Opd x (.d (sV (.slice none 0 0))) i):OkP P ⟨dst,.call ⟨.builtin .cap,#[x],ts⟩,ty,pos,af,gd⟩ i (.d ((kI .i64).sig 0)):=okV fun g w ac hA hi=>by
 have e:ac.eval x=.slice none 0 0:=h g ac hi
 obtain⟨t,ht,hu⟩:=Option.bind_eq_some_iff.1 hT
 refine⟨.int .i64 0,?_,kI_sig.2 ⟨rfl,by decide⟩⟩
 simp only[execOp,resolve,invoke,builtin,Builtin.cap_,Sem.run_bind,Sem.run_pure,Result.andThen_ok,List.map_toArray,List.map_cons,List.map_nil,e,ht,arr0]
 simp only[Sem.run_bind,run_underlying hu]
 rfl
theorem oCutN{E:TypeId} {n:Int}(hT:P.underlying T=some (.slice E)){sz:Nat}(hE:sizeIs P E sz)(hn:n=0)(h:Opd x (.d (sV (.slice none 0 0))) i)(h':Opd y (.d ((kI .i64).sig n)) j):OkP P ⟨dst,.slice T x none (some y) none,ty,pos,af,gd⟩ (i++j) (.d (sV (.slice none 0 0))):=okV fun g w ac hA hi=>by
 subst hn
 have e:ac.eval x=.slice none 0 0:=h g ac (satI_l hi)
 have e2:=(kI_sig.1 (h' g ac (satI_r hi))).1
 refine⟨.slice none 0 0,?_,rfl⟩
 simp only[execOp,e,Option.map_some,Option.map_none,e2,Instr.sliceAt,Sem.run_bind,run_underlying hT,Result.andThen_ok,Instr.slice,Instr.sliceBounds,Sem.run_pure,Option.isSome_none,Bool.false_eq_true,if_false,if_true]
 rw[fA (by omega) (by omega),Result.andThen_ok]
 simp only[Result.andThen_ok,fU hE]
 rfl
theorem oEqNF{α:Type} {d:Kd α} {xs:List α} {E:TypeId}(hT:P.underlying T=some (.slice E))(h:Opd x (.d (sNN d xs)) i)(h':Opd y (.d (sV (.slice none 0 0))) j):OkP P ⟨dst,.binOp .eql T x y T',ty,pos,af,gd⟩ (i++j) (.d (kB.sig false)):=okV fun g w ac hA hi=>by
 obtain⟨hk,hne⟩:=h g ac (satI_l hi)
 obtain⟨A,c,e,_⟩:=kL_sig.1 hk
 have e2:ac.eval y=.slice none 0 0:=h' g ac (satI_r hi)
 obtain⟨a,rfl⟩:∃a,A=some a:=by
  cases A with
  |none=>exact absurd e (hne _ _)
  |some a=>exact⟨a,rfl⟩
 refine⟨.bool false,?_,kB_sig.2 rfl⟩
 have he:(eqGuard .eql T x y (.slice (some a) xs.length c) (.slice none 0 0)).run P w=.ok () w:=by rfl
 have hb:binOp .eql T (.slice (some a) xs.length c) (.slice none 0 0)=(do pure (.bool (<-Op.equal T (.slice (some a) xs.length c) (.slice none 0 0)))):=rfl
 have hq:(Op.equal T (.slice (some a) xs.length c) (.slice none 0 0)).run P w=.ok false w:=by
  unfold Op.equal Op.maxDepth Op.equalIn
  simp only[Sem.run_bind,run_underlying hT,Result.andThen_ok];rfl
 simp only[execOp,e,e2,Sem.run_bind,he,Result.andThen_ok,hb,hq,Sem.run_pure]
theorem zero_at{z:Array Value} {n k:Nat}(hk:k<n*z.size):(Builtin.zeroCells z n).toList[k]?=z.toList[k%z.size]?:=by
 have hz:0<z.size:=Nat.pos_of_ne_zero (fun e=>by rw[e] at hk;simp at hk)
 have hm:k%z.size<z.size:=Nat.mod_lt _ hz
 simp[Builtin.zeroCells,hk,hm]
theorem kY{α:Type} {d:Kd α} {z:Value} {u0:α} {H:FH}(hz:d.reps H z.cells.toList u0)(hs:z.cells.size=d.sz)(hp:0<d.sz)(n:Nat):RowOf d H (Builtin.zeroCells z.cells n).toList (List.replicate n u0):=by
 refine⟨by simp[Builtin.zeroCells,hs],fun k x hx=>?_⟩
 have hk:k<n:=by have:=(List.getElem?_eq_some_iff.1 hx).1;simpa using this
 have:x=u0:=by simp[hk] at hx;exact hx.symm
 subst this
 have e:((Builtin.zeroCells z.cells n).toList.drop (k*d.sz)).take d.sz=z.cells.toList:=by
  apply List.ext_getElem?
  intro q
  rw[List.getElem?_take]
  by_cases hq:q<d.sz
  ·have h2:k*d.sz+q<n*z.cells.size:=by
    rw[hs]
    calc k*d.sz+q<k*d.sz+d.sz:=by omega
     _=(k+1)*d.sz:=(Nat.succ_mul ..).symm
     _<=n*d.sz:=Nat.mul_le_mul_right _ hk
   rw[if_pos hq,List.getElem?_drop,zero_at h2,hs,Nat.mul_comm,Nat.mul_add_mod,Nat.mod_eq_of_lt hq]
  ·rw[if_neg hq,List.getElem?_eq_none (by simp[hs];omega)]
 rw[e];exact hz
theorem oAppZ{α:Type} {d:Kd α} {E:TypeId} {by_ id:Nat} {n:Int} {u0:α} {cs:List Value}(hT:ElTy P T E d.sz by_)(hN:P.underlying T'=some (.int .i64))(hp:0<d.sz)(hb1:0<by_)(hz:zeroIs P E cs)(hz2:∀H,d.reps H cs u0)(h0:0<n)(hb:n.toNat*by_<=big)(h:Opd x (.d (sV (.slice none 0 0))) i)(h':Opd y (.d ((kI .i64).sig n)) j):
  Ok P ⟨dst,.call ⟨.builtin .append,#[x,y],#[T,T']⟩,ty,pos,af,gd⟩ (i++j) R (.v id) (some id) (.row id E d (List.replicate n.toNat u0)::R):=by
 intro X H0 w0 g w a K Q hk hi ho hn hK
 have ex:a.eval x=.slice none 0 0:=h g a (satI_l hi)
 have ey:=(kI_sig.1 (h' g a (satI_r hi))).1
 obtain⟨i0,z,hi0,hz0,hs,hby,hzs⟩:=hT.get
 obtain⟨m,rfl⟩:∃m:Nat,n=(m:Int):=⟨n.toNat,by omega⟩
 have hm:0<m:=by omega
 simp only[Int.toNat_natCast] at hb⊢
 have hmb:m<=big:=Nat.le_trans (Nat.le_mul_of_pos_right _ hb1) hb
 have hcs:z.cells.toList=cs:=by
  unfold zeroIs at hz
  simp[hi0,hz0] at hz
  exact hz
 have hrun:=Lib.run_append_nil_zeros (P:=P) w T T' ty E i0 z .i64 .i64 hT.ty hN hi0 hz0 m hm (by rw[hs];exact hp) (by unfold big at hmb;omega) (by rw[hby];unfold big at hb;omega)
 have hid:=hn id rfl
 unfold Oper.wp
 rw[show (execOp a.eval ⟨dst,.call ⟨.builtin .append,#[x,y],#[T,T']⟩,ty,pos,af,gd⟩).run P w=.ok (.value (.slice (some ⟨w.heap.size,0,none⟩) m (grownCap w m 0 E))) (w.drew.alloc (.cells (Builtin.zeroCells z.cells m++Builtin.zeroCells z.cells (grownCap w m 0 E-m)) E)) by
  simp only[execOp,resolve,invoke,builtin,Sem.run_bind,Sem.run_pure,Result.andThen_ok,List.map_toArray,List.map_cons,List.map_nil,ex,ey,hrun]]
 generalize hv:(Value.slice (some ⟨w.heap.size,0,none⟩) m (grownCap w m 0 E))=v
 have hg1:=grownCap_ge w m 0 E
 have hg2:=grownCap_le_maxLen w m 0 E (by unfold maxLen;unfold big at hmb;omega)
 have hheap:(w.drew.alloc (.cells (Builtin.zeroCells z.cells m++Builtin.zeroCells z.cells (grownCap w m 0 E-m)) E)).heap=w.heap.push (.cells (Builtin.zeroCells z.cells m++Builtin.zeroCells z.cells (grownCap w m 0 E-m)) E):=rfl
 have hsize:(w.drew.alloc (.cells (Builtin.zeroCells z.cells m++Builtin.zeroCells z.cells (grownCap w m 0 E-m)) E)).heap.size=w.heap.size+1:=by rw[hheap,Array.size_push]
 have hat:(w.drew.alloc (.cells (Builtin.zeroCells z.cells m++Builtin.zeroCells z.cells (grownCap w m 0 E-m)) E)).heap[w.heap.size]?=some (.cells (Builtin.zeroCells z.cells m++Builtin.zeroCells z.cells (grownCap w m 0 E-m)) E (0,0)):=by rw[hheap,Array.getElem?_push_size]
 have hold:∀b,b<w.heap.size->(w.drew.alloc (.cells (Builtin.zeroCells z.cells m++Builtin.zeroCells z.cells (grownCap w m 0 E-m)) E)).heap[b]?=w.heap[b]?:=by
  intro b hb'
  rw[hheap,Array.getElem?_push,if_neg (by omega)]
 have hos:(w.drew.alloc (.cells (Builtin.zeroCells z.cells m++Builtin.zeroCells z.cells (grownCap w m 0 E-m)) E)).os=w.os:=rfl
 have htp:(w.drew.alloc (.cells (Builtin.zeroCells z.cells m++Builtin.zeroCells z.cells (grownCap w m 0 E-m)) E)).tape=w.tape:=rfl
 have hou:(w.drew.alloc (.cells (Builtin.zeroCells z.cells m++Builtin.zeroCells z.cells (grownCap w m 0 E-m)) E)).output=w.output:=rfl
 generalize (w.drew.alloc (.cells (Builtin.zeroCells z.cells m++Builtin.zeroCells z.cells (grownCap w m 0 E-m)) E))=w' at*
 have hle:G.le g (g.name id v):=gY hid
 have hk':Keep No g.H w g.H w':=⟨hos,htp,hou,by omega,fun b hb' _=>hold b hb',fun _ _ _=>rfl,⟨hk.agree.base,fun b o e=>(hold b (hk.agree.lt e)).trans (hk.agree b o e)⟩⟩
 refine hK v (g.name id v) w' (hk.step hk' (fun q hq=>hq.elim)) hle (fun q e hq=>by rw[io (fun hqi=>hq (by rw[hqi]))];exact e) (dQ ..) ?_
 have ho1:=ho.keep hle hk'
 have hro:=kY (H:=g.H) (d:=d) (z:=z) (u0:=u0) (by rw[hcs];exact hz2 _) hzs hp m
 refine Own.add ho1 ⟨v,(Builtin.zeroCells z.cells m).toList,dQ ..,⟨by simp[Builtin.zeroCells,hzs],.inr ⟨w.heap.size,grownCap w m 0 E,_,by rw[<-hv];simp,Nat.zero_le _,hat,by simpa using hg1,hg2,?_,?_⟩⟩,hro,by simpa using hmb⟩ ?_
 ·rw[Array.size_append,size_zeroCells,size_zeroCells,hzs,<-Nat.add_mul]
  congr 1;omega
 ·rw[Array.toList_append,List.take_append_of_le_length (by simp[Builtin.zeroCells,hzs])]
  rw[List.take_of_length_le (by simp[Builtin.zeroCells,hzs])]
 ·intro b e
  have e':v.ownBlock=some b:=by simpa only[Res.block,dQ,Option.bind_some] using e
  rw[<-hv] at e'
  have hb':w.heap.size=b:=by simpa [Value.ownBlock] using e'
  subst hb'
  refine⟨hk.agree.none (Nat.le_refl _),by omega,.inr hk.size,fun s hs' hsb=>?_⟩
  have:=(ho.at_ s hs' w.heap.size (by rw[Res.du hle (ho.ok s hs')] at hsb;exact hsb)).2.1
  omega
end
section
variable{C:Cx} {Γ:Env} {R:List Res}
theorem pSv{fn:Func} {t id:Nat} {e:Exit} {R':List Res}(is:List Nat)(hnd:nodupB is=true)(hp:is.map (fun i=>R[i]?)=R'.map some)(he:e=.ret\/e=.normal)(hr:fn.results.toList=[.tmp t])(hl:look Γ t=some (.v id))(hrd:C.rd=none:=by rfl)(hds:C.ds=[]:=by rfl):Post C (BP C fn (RetQ C.X C.H0 C.w0 C.pi C.pv (.v id) R')) e Γ R:=by
 refine pLeave he (fun g w tm s=>?_) hrd hds
 have hr':fn.results= #[.tmp t]:=by apply Array.ext';simpa using hr
 refine⟨tm.getD t undef,?_,_,g,rfl,s.keep,s.pin,s.sat t _ hl,s.own.pick (fC hnd) hp⟩
 simp[results,hr']
end
theorem libClone{α:Type} {d:Kd α} {P:Program} {f:FuncId} {E:TypeId} {id:Nat} {xs r:List α}
  (hnil:∀(n c:Nat) (w:World),Calls P f #[.slice none n c] w fun e w'=>e=.returned (.slice none 0 0)/\w'=w) (hr:xs=[]->r=[])
  (h1:FnS P f [.d (sNN d xs)] [] [] (.v id) [.row id E d r]):FnS P f [.d ((kL d).sig xs)] [] [] (.v id) [.row id E d r]:=by
 intro g w args hA ⟨v,vr,e,hv,hs⟩ ho
 have hvr:vr=[]:=hs
 subst hvr e
 obtain⟨A,c,e',h1',h2',h3',h4'⟩:=kL_sig.1 hv
 cases A with
 |none=>
  have hx:xs=[]:=by
   rcases h4' with q|⟨b,off,cells,t,fr,q,_⟩
   ·exact q
   ·cases q
  have hr':=hr hx
  subst hr'
  subst e'
  refine(hnil xs.length c w).mono ?_
  rintro e w' ⟨rfl,rfl⟩
  refine⟨.slice none 0 0,⟨g.H,fun j=>if j=id then some (.slice none 0 0) else g.nm j⟩,rfl,Keep.refl hA,(by intro i hi;cases hi),by simp[Ent.ok],⟨fun s hs=>?_,fun s hs b e=>?_,by simp⟩⟩
  ·obtain rfl:=List.mem_singleton.1 hs
   exact⟨.slice none 0 0,[],by simp,⟨by simp,.inl ⟨rfl,rfl⟩⟩,⟨by simp,by simp⟩,by simp⟩
  ·obtain rfl:=List.mem_singleton.1 hs
   simp only[Res.block,if_true,Option.bind_some] at e
   cases e
 |some a=>
  refine h1 g w _ hA ⟨v,[],rfl,⟨hv,fun n c2 e2=>?_⟩,rfl⟩ ho
  rw[e'] at e2;cases e2
end Go.Proofs.YtmjcpkmongafnaaGreatDoor.Ab
