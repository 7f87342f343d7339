import Derived.Test.YtmjcpkmongafnaaGreatDoorAb36
set_option linter.unusedVariables false
set_option linter.unusedSimpArgs false
namespace Go.Proofs.YtmjcpkmongafnaaGreatDoor.Ab
open Go Go.RowKit
def sTl(sz k:Nat):SigN:=⟨fun H vs x=>∃v,vs=[v]/\((v=.slice none 0 0/\x=.slice none 0 0)\/∃b n c A,v=.slice (some ⟨b,0,none⟩) n c/\x=.slice (some A) (n-k) (c-k)/\(k<n->A=⟨b,k*sz,none⟩)),fun _ h=>h⟩
section
variable{rd:Option Nat} {P:Program} {x y:Operand} {i j:Env} {dst:Option Nat} {T T' ty:TypeId} {pos:String} {af:Array Edge} {gd:Option (Nat×Bool)} {R:List Res}
theorem oSlT{α:Type} {d:Kd α} {xs:List α} {a:Int} {n id:Nat} {E E':TypeId}(hT:P.underlying T=some (.slice E'))(hE:sizeIs P E' d.sz)(hr:R[n]?=some (.row id E d xs))(h0:0<=a)(h1:a<=xs.length)(h:Opd x (.v id) i)(h':Opd y (.d ((kI .i64).sig a)) j):Ok P ⟨dst,.slice T x (some y) none none,ty,pos,af,gd⟩ (i++j) R (.f [id] (sTl d.sz a.toNat)) none R:=okR fun X B g w ac hA hs hown=>by
 have ex:g.nm id=some (ac.eval x):=h g ac (satI_l hs)
 have e2:=(kI_sig.1 (h' g ac (satI_r hs))).1
 obtain⟨v,cells,hv,hrow,hro,hbig⟩:=hown.get hr
 rw[ex] at hv;cases hv
 rcases hrow.2 with ⟨e,hz⟩|⟨g0,cap,cur,e,hb0,hh,hnc,hcm,hcs,htk⟩
 ·have ha0:a.toNat=0:=by omega
  refine⟨.slice none 0 0,?_,[ac.eval x],by simp[ex],_,rfl,.inl ⟨e,rfl⟩⟩
  simp only[execOp,e,Option.map_some,Option.map_none,e2,Instr.sliceAt,Sem.run_bind,run_underlying hT,Result.andThen_ok,Instr.slice,Instr.sliceBounds,Sem.run_pure,Option.isSome_none,Bool.false_eq_true,if_false,if_true]
  rw[fA h0 (show a<=((0:Nat):Int) by omega)]
  simp only[Result.andThen_ok,fU hE,ha0]
  try rfl
 ·refine⟨.slice (some (if cap=a.toNat then ⟨g0,0,none⟩ else if a.toNat*d.sz=0 then ⟨g0,0,none⟩ else ⟨g0,a.toNat*d.sz,none⟩)) (xs.length-a.toNat) (cap-a.toNat),?_,[ac.eval x],by simp[ex],_,rfl,.inr ⟨g0,_,_,_,e,rfl,fun hlt=>?_⟩⟩
  rotate_left
  ·rw[if_neg (by omega)]
   split
   ·rename_i h0;rw[h0]
   ·rfl
  simp only[execOp,e,Option.map_some,Option.map_none,e2,Instr.sliceAt,Sem.run_bind,run_underlying hT,Result.andThen_ok,Instr.slice,Instr.sliceBounds,Sem.run_pure,Option.isSome_none,Bool.false_eq_true,if_false,if_true]
  rw[fA h0 (show a<=(xs.length:Int) by omega)]
  simp only[Result.andThen_ok,fU hE,Addr.add,Nat.zero_add,if_pos,ite_self]
  by_cases hc:cap=a.toNat
  ·simp[hc]
  ·by_cases h2:a.toNat*d.sz=0
   ·simp[hc,h2]
   ·simp[hc,h2]
theorem oClr{α:Type} {d:Kd α} {xs:List α} {n id k:Nat} {E E':TypeId} {u0:α} {cs:List Value}(hT:P.underlying T=some (.slice E'))(hz:zeroIs P E' cs)(hz2:∀H,d.reps H cs u0)(hp:0<d.sz)(hr:R[n]?=some (.row id E d xs))(hk:k<=xs.length)(h:Opd x (.f [id] (sTl d.sz k)) i):
  Ok P ⟨dst,.call ⟨.builtin .clear,#[x],#[T]⟩,ty,pos,af,gd⟩ i R (.d sAny) none (R.set n (.row id E d (xs.take k++List.replicate (xs.length-k) u0))):=by
 intro X H0 w0 g w a K Q hK0 hi hown _ hK
 obtain⟨vs,hvs,v,rfl,hx⟩:=h g a hi
 have ev:g.nm id=some v:=by simpa using hvs
 obtain⟨v',cells,hv,hrow,hro,hbig⟩:=hown.get hr
 rw[ev] at hv;cases hv
 have same:xs.length=k->(Builtin.clear_ #[T] ty #[a.eval x]).run P w=.ok (.tuple #[]) w->(⟨dst,.call ⟨.builtin .clear,#[x],#[T]⟩,ty,pos,af,gd⟩:Oper).wp P a w K Q:=by
  intro hkx hrun
  unfold Oper.wp
  rw[show (execOp a.eval ⟨dst,.call ⟨.builtin .clear,#[x],#[T]⟩,ty,pos,af,gd⟩).run P w=.ok (.value (.tuple #[])) w by
   simp only[execOp,resolve,invoke,builtin,Sem.run_bind,Sem.run_pure,Result.andThen_ok,List.map_toArray,List.map_cons,List.map_nil,hrun]]
  refine hK _ g w hK0 (G.le.refl g) (fun i e _=>e) trivial ?_
  have hs:R.set n (.row id E d (xs.take k++List.replicate (xs.length-k) u0))=R:=by
   rw[hkx,Nat.sub_self,List.replicate_zero,List.append_nil,<-hkx,List.take_length]
   obtain⟨hn,he⟩:=List.getElem?_eq_some_iff.1 hr
   rw[<-he,List.set_getElem_self]
  rw[hs];exact hown
 rcases hrow.2 with ⟨e,hz0⟩|⟨b,cap,cur,e,hb0,hh,hnc,hcm,hcs,htk⟩
 ·have hx':a.eval x=.slice none 0 0:=by
   rcases hx with ⟨_,hx⟩|⟨b,n',c,A,e',_⟩
   ·exact hx
   ·rw[e] at e';cases e'
  refine same (by omega) ?_
  simp only[Builtin.clear_,hx',List.getElem?_toArray,List.getElem?_cons_zero,Sem.run_bind,run_underlying hT,Result.andThen_ok]
  rfl
 ·obtain⟨A,hx',hA⟩:∃A,a.eval x=.slice (some A) (xs.length-k) (cap-k)/\(k<xs.length->A=⟨b,k*d.sz,none⟩):=by
   rcases hx with ⟨hx,_⟩|⟨b',n',c,A,e',hx,hA⟩
   ·rw[e] at hx;cases hx
   ·rw[e] at e';cases e';exact⟨A,hx,hA⟩
  by_cases hkx:xs.length=k
  ·refine same hkx ?_
   rw[hx',show xs.length-k=0 by omega]
   simp only[Builtin.clear_,List.getElem?_toArray,List.getElem?_cons_zero,Sem.run_bind,run_underlying hT,Result.andThen_ok]
   rfl
  obtain rfl:=hA (by omega)
  obtain⟨z,hz1,hz3⟩:=Option.map_eq_some_iff.1 hz
  obtain⟨inf,hi1,hi2⟩:=Option.bind_eq_some_iff.1 hz1
  have hzr:(zeroValue E').run P w=.ok z w:=by
   simp only[zeroValue,typeInfo,program,Sem.run_bind,Sem.run,Sem.run_pure',Result.andThen_ok,hi1,Sem.run_pure,hi2]
  have hrep:∀H,d.reps H z.cells.toList u0:=fun H=>by rw[hz3];exact hz2 H
  have hzs:z.cells.size=d.sz:=by rw[<-Array.length_toList];exact d.len (hrep g.H)
  have hro2:=kY (H:=g.H) (hrep g.H) hzs hp (xs.length-k)
  generalize hvs2:(Builtin.zeroCells z.cells (xs.length-k)).toList=vs at hro2
  have hvl:vs.length=(xs.length-k)*d.sz:=by rw[hro2.1,List.length_replicate]
  have hone:∀c∈vs,c.oneCell'=true:=by
   intro c hc
   rw[<-hvs2] at hc
   obtain⟨q,hq,e'⟩:=List.mem_iff_getElem.1 hc
   have h3:q<(xs.length-k)*z.cells.size:=by
    have:(Builtin.zeroCells z.cells (xs.length-k)).toList.length=vs.length:=by rw[hvs2]
    rw[hzs,<-hvl,<-this];exact hq
   have h4:=zero_at (z:=z.cells) (n:=xs.length-k) h3
   rw[List.getElem?_eq_getElem hq,e'] at h4
   exact d.ok (hrep g.H) c (List.mem_of_getElem? h4.symm)
  have hkl:k*d.sz+vs.length=xs.length*d.sz:=by rw[hvl,<-Nat.add_mul];congr 1;omega
  have hcap:xs.length*d.sz<=cap*d.sz:=Nat.mul_le_mul_right _ hnc
  have hfit:k*d.sz+vs.length<=cur.size:=by omega
  have hst:=run_storeCells_at (P:=P) b (k*d.sz) E vs 0 cur w hh (by omega) hone
  simp only[Nat.add_zero] at hst
  have hrun:(Builtin.clear_ #[T] ty #[a.eval x]).run P w=.ok (.tuple #[]) (w.setRow b (cur.toList.take (k*d.sz)++vs++cur.toList.drop (k*d.sz+vs.length)).toArray):=by
   rw[hx']
   obtain⟨m,hm⟩:∃m,xs.length-k=m+1:=⟨xs.length-k-1,by omega⟩
   rw[hm] at hvs2⊢
   simp only[Builtin.clear_,Sem.run_bind,run_underlying hT,Result.andThen_ok,hzr,hvs2,hst,List.getElem?_toArray,List.getElem?_cons_zero,Sem.run_pure]
  have hblk:(Res.row id E d xs).block g b:=by simp only[Res.block,ev,e,Option.bind_some];rfl
  obtain⟨q1,q2,q3⟩:=hown.at_ _ (List.mem_of_getElem? hr) b hblk
  unfold Oper.wp
  rw[show (execOp a.eval ⟨dst,.call ⟨.builtin .clear,#[x],#[T]⟩,ty,pos,af,gd⟩).run P w=.ok (.value (.tuple #[])) (w.setRow b (cur.toList.take (k*d.sz)++vs++cur.toList.drop (k*d.sz+vs.length)).toArray) by
   simp only[execOp,resolve,invoke,builtin,Sem.run_bind,Sem.run_pure,Result.andThen_ok,List.map_toArray,List.map_cons,List.map_nil,hrun]]
  refine hK _ g _ (iw hK0 q3 q1 _) (G.le.refl g) (fun i e _=>e) trivial ?_
  have hL:cells.length=xs.length*d.sz:=hro.1
  have hxl:(xs.take k++List.replicate (xs.length-k) u0).length=xs.length:=by rw[List.length_append,List.length_take,List.length_replicate];omega
  refine hown.put hr (G.le.refl g) (by simp) (fun b' hb' _ hne=>setRow_other w b b' _ (fun e=>hne (by rw[e];exact hblk))) (fun _ _ e _=>e)
   ⟨_,cells.take (k*d.sz)++vs,ev,⟨?_,.inr ⟨b,cap,_,by rw[hxl];exact e,hb0,setRow_heap w b cur _ E (0,0) hh,by rw[hxl];exact hnc,hcm,?_,?_⟩⟩,jv (j2 hro k) hro2,by rw[hxl];exact hbig⟩ ?_
  ·rw[hxl,List.length_append,List.length_take,hL];omega
  ·rw[List.size_toArray,List.length_append,List.length_append,List.length_take,List.length_drop,Array.length_toList,hcs];omega
  ·rw[hxl]
   simp only
   have h1:(cur.toList.take (k*d.sz)).length=k*d.sz:=by rw[List.length_take,Array.length_toList];omega
   rw[List.take_append_of_le_length (by rw[List.length_append,h1];omega),List.take_of_length_le (by rw[List.length_append,h1];omega),<-htk,List.take_take,Nat.min_eq_left (by omega)]
  ·intro b' e'
   have:b'=b:=by
    simp only[Res.block,ev,e,Option.bind_some] at e'
    exact(Option.some.inj e').symm
   subst this
   exact⟨q1,by simpa using q2,q3,.inl hblk⟩
end
def sTR(ss:List Sig):SigN:=⟨fun H vs x=>∃v ws,vs=[v]/\x=.tuple (v::ws).toArray/\Sats ss H ws,by intro H H' vs x h k;obtain⟨v,ws,e1,e2,k⟩:=k;exact⟨v,ws,e1,e2,iZ h k⟩⟩
section
variable{P:Program} {x:Operand} {i:Env} {dst:Option Nat} {T ty:TypeId} {pos:String} {af:Array Edge} {gd:Option (Nat×Bool)} {R:List Res}
theorem oExT0{ss:List Sig} {id:Nat}(h:Opd x (.f [id] (sTR ss)) i):OkP P ⟨dst,.extract x 0,ty,pos,af,gd⟩ i (.v id):=okV fun g w ac hA hi=>by
 obtain⟨vs,hvs,v,ws,e1,e2,hw⟩:=h g ac hi
 subst e1
 have hv:g.nm id=some v:=by simpa using hvs
 refine⟨v,?_,hv⟩
 simp only[execOp,e2,Instr.extract]
 simp
theorem oExTk{ss:List Sig} {id k:Nat} {s:Sig}(hs:ss[k]?=some s)(h:Opd x (.f [id] (sTR ss)) i):OkP P ⟨dst,.extract x (k+1),ty,pos,af,gd⟩ i (.d s):=okV fun g w ac hA hi=>by
 obtain⟨vs,hvs,v,ws,e1,e2,hw⟩:=h g ac hi
 obtain⟨u,hk,hp⟩:=lm hw hs
 refine⟨u,?_,hp⟩
 simp only[execOp,e2,Instr.extract]
 simp[hk]
end
section
variable{C:Cx} {Q:Exit->Act->World->Prop} {Γ:Env} {R:List Res}
theorem pSvn{fn:Func} {ss:List Sig} {rs:List ResultVar} {t id:Nat} {e:Exit} {R':List Res}(is:List Nat)(hnd:nodupB is=true)(hp:is.map (fun i=>R[i]?)=R'.map some)(he:e=.ret\/e=.normal)(hr:fn.results.toList=rs)(hl:look Γ t=some (.v id))(hl1:(ss.length==0)=false)(h:∀s,RV C.P ((t,.d s)::Γ) R rs (s::ss))(hrd:C.rd=none:=by rfl)(hds:C.ds=[]:=by rfl):Post C (BP C fn (RetQ C.X C.H0 C.w0 C.pi C.pv (.f [id] (sTR ss)) R')) e Γ R:=by
 refine pLeave he (fun g w tm s=>?_) hrd hds
 have hv:=s.sat t _ hl
 have s':St C ((t,.d (sV (tm.getD t undef)))::Γ) R g w _:=⟨s.size,s.defers,s.keep,fun q e' hq=>by
  rw[eD] at hq
  by_cases hqt:t=q
  ·subst hqt;rw[if_pos rfl] at hq;cases hq;rfl
  ·rw[if_neg hqt] at hq;exact s.sat q e' hq,s.own,s.pin⟩
 obtain⟨vs,h1,hrun⟩:=ip s' hr (h _)
 obtain⟨v,ws,e1,hv0,hw⟩:=h1
 subst e1
 have hv0:v=tm.getD t undef:=hv0
 have hv:g.nm id=some (tm.getD t undef):=hv
 have hn:¬(v::ws).toArray.size=1:=by
  have hl2:=iB hw
  have:ss.length≠0:=by simpa using hl1
  simp only[List.size_toArray,List.length_cons]
  omega
 rw[dif_neg hn] at hrun
 exact⟨_,hrun,_,g,rfl,s.keep,s.pin,⟨[v],by simp[hv,hv0],v,ws,rfl,rfl,hw⟩,s.own.pick (fC hnd) hp⟩
end
section
variable{C:Cx} {Q:Exit->Act->World->Prop} {Γ:Env} {R:List Res}
theorem pSag{fn:Func} {p n id bid:Nat} {T T0:TypeId} {e:Exit} {R':List Res}(is:List Nat)(hnd:nodupB is=true)(hp:is.map (fun i=>R[i]?)=R'.map some)(he:e=.ret\/e=.normal)(hr:fn.results.toList=[.cell p T])(hl:look Γ p=some (.p bid 0))(hb:R[n]?=some (.box bid T0 [.v id]))(hi:tinf C.P T=some (true,1))(hrd:C.rd=none:=by rfl)(hds:C.ds=[]:=by rfl):Post C (BP C fn (RetQ C.X C.H0 C.w0 C.pi C.pv (.f [id] sAg1) R')) e Γ R:=by
 refine pLeave he (fun g w tm s=>?_) hrd hds
 have hr':fn.results=[ResultVar.cell p T].toArray:=by rw[<-hr]
 obtain⟨b,hb1,e1⟩:=s.sat p _ hl
 obtain⟨b',cs,hb',hh,c1,c2,hlf,⟨v,hv,hc1,h1⟩,h0⟩:=s.own.get hb
 rw[hb1] at hb';cases hb'
 rw[show c2=[] from h0,List.append_nil,hc1] at hlf
 have hrun:=iv (P:=C.P) (w:=w) (off:=0) hi (fun h=>by cases h) hh (ls:=[v]) (by rw[List.drop_zero,hlf];rfl) rfl
 refine⟨.agg #[v],?_,_,g,rfl,s.keep,s.pin,⟨[v],by simp[hv],v,rfl,rfl⟩,s.own.pick (fC hnd) hp⟩
 rw[lL fn tm (resF tm) (fun _=>rfl) (fun _ _=>rfl),hr',List.mapM_toArray]
 have hx:resF tm (.cell p T)=(do loadVar T (<-asAddr (tm.getD p undef))):=rfl
 have e1:tm.getD p undef=.pointer (some ⟨b,0,none⟩):=e1
 simp only[Sem.run_bind,Sem.run_map,List.mapM_cons,List.mapM_nil,hx,e1,asAddr,hrun,Result.andThen_ok,Sem.run_pure]
 simp[mkv,hrun]
end
end Go.Proofs.YtmjcpkmongafnaaGreatDoor.Ab
