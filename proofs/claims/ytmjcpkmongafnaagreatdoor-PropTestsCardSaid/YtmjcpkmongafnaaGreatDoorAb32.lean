import Derived.Test.YtmjcpkmongafnaaGreatDoorAb31
set_option linter.unusedVariables false
set_option linter.unusedSimpArgs false
namespace Go.Proofs.YtmjcpkmongafnaaGreatDoor.Ab
open Go Go.RowKit
def RetX(X:Nat->Prop)(H0:FH)(w0:World)(v:Value):Ending->World->Prop:=fun e w'=>e=.panicked (pch v)/\∃H',Keep X H0 w0 H' w'
def FnX(P:Program)(f:FuncId)(ins:List Ent)(R:List Res)(v:Value):Prop:=
 ∀(g:G) (w:World) (args:List Value),Agree g.H w->SatsE ins g args->Own (fun _=>True) 0 g w R->Calls P f args.toArray w (RetX (Blk g R) g.H w v)
abbrev Pn:=Fin 8
def pvv(T:TypeId)(n:Pn):Value:=.iface T (.int .i64 (n.val:Int))
def RetZ{α:Type}(X:Nat->Prop)(H0:FH)(w0:World)(pi:List Nat)(pv:Nat->Option Value)(T:TypeId)(out:α->Ent)(R':α->List Res)(z:Pn⊕α):Ending->World->Prop:=
 match z with
 |.inl n=>RetX X H0 w0 (pvv T n)
 |.inr r=>RetQ X H0 w0 pi pv (out r) (R' r)
def FnZ{α:Type}(P:Program)(f:FuncId)(ins:List Ent)(R:List Res)(pi:List Nat)(T:TypeId)(out:α->Ent)(R':α->List Res)(z:Pn⊕α):Prop:=
 ∀(g:G) (w:World) (args:List Value),Agree g.H w->SatsE ins g args->Own (fun _=>True) 0 g w R->Calls P f args.toArray w (RetZ (Blk g R) g.H w pi g.nm T out R' z)
theorem fnIntroR{P:Program} {f:FuncId} {fn:Func} {c:Code} {ins:List Ent} {R:List Res} {pi:List Nat} {Rt:(Nat->Prop)->FH->World->(Nat->Option Value)->Ending->World->Prop}(hf:P.funcs[f]?=some fn)(hb:fn.body=some c)(hN':Nat.ble ins.length fn.ntmps=true)
  (h:∀X H0 w0 pv,WP ⟨P,fn.ntmps,X,H0,w0,none,pi,pv,[]⟩ c (BP ⟨P,fn.ntmps,X,H0,w0,none,pi,pv,[]⟩ fn (Rt X H0 w0 pv)) (paramsE 0 ins) R):
  ∀(g:G) (w:World) (args:List Value),Agree g.H w->SatsE ins g args->Own (fun _=>True) 0 g w R->Calls P f args.toArray w (Rt (Blk g R) g.H w g.nm):=by
 have hN:=Nat.le_of_ble_eq_true hN'
 intro g w args hA hs ho
 refine fnEnter (g:=g) hf hb rfl rfl (h (Blk g R) g.H w g.nm) ⟨?_,⟨[],rfl,List.nodup_nil,fun r hr=>by cases hr⟩,Keep.refl hA,?_,⟨ho.ok,fun r hr b e=>⟨(ho.at_ r hr b e).1,(ho.at_ r hr b e).2.1,.inl ⟨r,hr,e⟩⟩,ho.apart⟩,fun i hi=>rfl⟩
 ·have:=jE hs
  simp[this];omega
 ·intro t s hts
  have:=satsE_at hs 0 [] (List.replicate (fn.ntmps-args.length) undef) rfl t s hts
  simpa [Array.getD_eq_getD_getElem?,List.getD_eq_getElem?_getD,<-Array.getElem?_toList] using this
theorem fnIntroZ{α:Type} {P:Program} {f:FuncId} {fn:Func} {c:Code} {ins:List Ent} {R:List Res} {pi:List Nat} {T:TypeId} {out:α->Ent} {R':α->List Res} {z:Pn⊕α}(hf:P.funcs[f]?=some fn)(hb:fn.body=some c)(hN':Nat.ble ins.length fn.ntmps=true)
  (h:∀X H0 w0 pv,WP ⟨P,fn.ntmps,X,H0,w0,none,pi,pv,[]⟩ c (BP ⟨P,fn.ntmps,X,H0,w0,none,pi,pv,[]⟩ fn (RetZ X H0 w0 pi pv T out R' z)) (paramsE 0 ins) R):FnZ P f ins R pi T out R' z:=
 fnIntroR (Rt:=fun X H0 w0 pv=>RetZ X H0 w0 pi pv T out R' z) hf hb hN' h
section
variable{C:Cx} {Γ:Env} {R:List Res}
theorem pZ{α:Type} {fn:Func} {X:Nat->Prop} {H0:FH} {w0:World} {pi:List Nat} {pv:Nat->Option Value} {T:TypeId} {out:α->Ent} {R':α->List Res} {r:α} {e:Exit}(h:Post C (BP C fn (RetQ X H0 w0 pi pv (out r) (R' r))) e Γ R):Post C (BP C fn (RetZ X H0 w0 pi pv T out R' (.inr r))) e Γ R:=h
theorem pX{α:Type} {fn:Func} {X:Nat->Prop} {H0:FH} {w0:World} {pi:List Nat} {pv:Nat->Option Value} {T:TypeId} {out:α->Ent} {R':α->List Res} {n:Pn}(hX:C.X=X:=by rfl)(hH:C.H0=H0:=by rfl)(hw:C.w0=w0:=by rfl)(hrd:C.rd=none:=by rfl)(hds:C.ds=[]:=by rfl):
  Post C (BP C fn (RetZ X H0 w0 pi pv T out R' (.inl n))) (.panic (pch (pvv T n))) Γ R:=by
 subst hX hH hw
 exact pPanic (fun g w tm s=>⟨rfl,g.H,s.keep⟩) hrd hds
end
section
variable{rd:Option Nat} {P:Program} {x y:Operand} {i j:Env} {dst:Option Nat} {T T' ty:TypeId} {pos:String} {af:Array Edge} {gd:Option (Nat×Bool)} {R:List Res}
theorem lS{f:FuncId} {o:Oper} {ins:List Ent} {Rin rest:List Res} {v:Value}(t:List (Nat×Nat))(is js:List Nat)
  (hf:FnX P f ins Rin v) (hnd':∀c,o.op≠ .defer c)
  (h:∀(X:Nat->Prop) (B:Nat) (g:G) (w:World) (a:Act),Agree g.H w->SatI i g a->Own X B g w R->∃vs:List Value,(execOp a.eval o).run P w=.ok (.enter f vs.toArray) w/\SatsE (ins.map (Ent.mp (asF t))) g vs)
  (hin:(is++js).map (fun i=>R[i]?)=(Rin.map (Res.mp (asF t))++rest).map some) (hnd:nodupB (is++js)=true):OkX rd P o i R v rest:=by
 intro X H0 w0 g w a K Q hk hi ho hX
 obtain⟨gH,gnm⟩:=g
 obtain⟨vs,hr,hs⟩:=h X _ _ w a hk.agree hi ho
 have hp:=ho.pick (fC hnd) hin
 have hpi:Own X w0.heap.size ⟨gH,gnm⟩ w (Rin.map (Res.mp (asF t))):=hp.sub (List.sublist_append_left ..)
 have hpr:Own X w0.heap.size ⟨gH,gnm⟩ w rest:=hp.sub (List.sublist_append_right ..)
 have hcross:=(List.pairwise_append.1 hp.apart).2.2
 have hpull:Own X w0.heap.size ⟨gH,fun i=>gnm (asF t i)⟩ w Rin:=(Own.mp (nm:=fun i=>gnm (asF t i)) (nm':=gnm) (τ:=asF t) (fun r _ i _=>rfl)).1 hpi
 have hcr:∀b,Blk ⟨gH,fun i=>gnm (asF t i)⟩ Rin b->∀s∈rest,¬s.block ⟨gH,gnm⟩ b:=by
  rintro b ⟨r,hr',e⟩ s hs'
  exact hcross (r.mp (asF t)) (List.mem_map.2 ⟨r,hr',rfl⟩) s hs' b (by rw[Res.gM (nm:=fun i=>gnm (asF t i)) (fun i _=>rfl)];exact e)
 have hcalls:=hf ⟨gH,fun i=>gnm (asF t i)⟩ w vs hk.agree (satsE_mp (fun e _ i _=>rfl) hs) ⟨hpull.ok,fun r hr' b e=>⟨(hpull.at_ r hr' b e).1,(hpull.at_ r hr' b e).2.1,.inl trivial⟩,hpull.apart⟩
 refine jm hnd' ?_
 unfold Oper.wp
 rw[hr]
 refine hcalls.mono ?_
 rintro e w' ⟨rfl,H1,k⟩
 have k':Keep (Blk ⟨gH,fun i=>gnm (asF t i)⟩ Rin) gH w H1 w':=k
 have hXb:∀b,Blk ⟨gH,fun i=>gnm (asF t i)⟩ Rin b->X b\/w0.heap.size<=b:=fun b ⟨r,hr',e⟩=>(hpull.at_ r hr' b e).2.2
 have hle:G.le ⟨gH,gnm⟩ ⟨H1,gnm⟩:=⟨k'.le hk.agree,fun _ _ e=>e⟩
 have hrest:∀s∈rest,∀b,s.block ⟨gH,gnm⟩ b->w'.heap[b]?=w.heap[b]?/\H1 b=none/\b<w.heap.size:=by
  intro s hs' b e
  obtain⟨q1,q2,q3⟩:=hpr.at_ s hs' b e
  have hnb:¬Blk ⟨gH,fun i=>gnm (asF t i)⟩ Rin b:=fun hb=>hcr b hb s hs' e
  exact⟨k'.block b q2 hnb,(k'.old b q2 (fun hb=>absurd hb hnb)).trans q1,q2⟩
 refine hX ⟨H1,gnm⟩ w' (hk.step k' hXb) hle (fun i e=>e) ⟨fun r hr'=>?_,fun r hr' b e=>?_,?_⟩
 ·exact Res.gr hle k'.size (fun b e=>(hrest r hr' b e).1) (hpr.ok r hr')
 ·rw[Res.du hle (hpr.ok r hr')] at e
  obtain⟨q1,q2,q3⟩:=hrest r hr' b e
  exact⟨q2,Nat.lt_of_lt_of_le q3 k'.size,(hpr.at_ r hr' b e).2.2⟩
 ·refine List.Pairwise.imp_of_mem ?_ hpr.apart
  intro r s h1 h2 hrs b e
  rw[Res.du hle (hpr.ok r h1)] at e
  rw[Res.du hle (hpr.ok s h2)]
  exact hrs b e
theorem oCallX{f:FuncId} {xs:List Operand} {as_:Array Operand} {ts:Array TypeId} {ins:List Ent} {Rin rest:List Res} {v:Value}(t:List (Nat×Nat))(is js:List Nat)
  (hx:as_.toList=xs) (hf:FnX P f ins Rin v) (hb:bodied P f) (h:OpdsE xs (ins.map (Ent.mp (asF t))) i)
  (hin:(is++js).map (fun i=>R[i]?)=(Rin.map (Res.mp (asF t))++rest).map some) (hnd:nodupB (is++js)=true):
  OkX rd P ⟨dst,.call ⟨.value (.func f),as_,ts⟩,ty,pos,af,gd⟩ i R v rest:=by
 refine lS t is js hf (fun c e=>by cases e) (fun X B g w a hA hi ho=>⟨xs.map a.eval,?_,jd h hi⟩) hin hnd
 have hm:as_.map a.eval=(xs.map a.eval).toArray:=by
  subst hx
  apply Array.ext'
  simp
 simp only[execOp,resolve,Act.eval,Deferred.ofValue,Sem.run_bind,Sem.run_pure,Result.andThen_ok,invoke]
 rw[show (#[]++Array.map (Act.eval a) as_)++ #[]=(xs.map a.eval).toArray by simp[hm]]
 exact jq hb
theorem oMkX(n:Pn)(hT:conB P T=true)(h:Opd x (.d ((kI .i64).sig (n.val:Int))) i):OkP P ⟨dst,.makeInterface T x,ty,pos,af,gd⟩ i (.d (sV (pvv T n))):=okV fun g w ac hA hi=>by
 obtain⟨D,hu,hne⟩:=conB_get hT
 refine⟨.iface T (ac.eval x),?_,?_⟩
 ·simp only[execOp,Instr.makeInterface,Sem.run_bind,run_underlying hu,Result.andThen_ok]
  cases D<;>first|exact absurd rfl (hne _)|rfl
 ·show Value.iface T (ac.eval x)=pvv T n
  rw[(kI_sig.1 (h g ac hi)).1];rfl
theorem oPanic{n:Pn}(h:Opd x (.d (sV (pvv T n))) i):OkX rd P ⟨dst,.panic x,ty,pos,af,gd⟩ i R (pvv T n) R:=by
 intro X H0 w0 g w a K Q hk hi ho hX
 have e:a.eval x=pvv T n:=h g a hi
 refine jm (fun c e=>by cases e) ?_
 unfold Oper.wp
 rw[show (execOp a.eval ⟨dst,.panic x,ty,pos,af,gd⟩).run P w=.halt (.panic (pvv T n)) w by
  simp only[execOp,e,pvv,Instr.panic,Sem.run_bind,goPanic];rfl]
 exact hX g w hk (G.le.refl g) (fun i e=>e) ho
theorem oIdxA{id o m sz:Nat} {E:TypeId}(n c:Nat)(hc:n*sz=c)(hT:P.underlying T=some (.array m E))(hE:sizeIs P E sz)(hn:Nat.ble (n+1) m=true)(h:Opd x (.p id o) i)(h':Opd y (.d ((kI .i64).sig (n:Int))) j):OkP P ⟨dst,.indexAddr T x y,ty,pos,af,gd⟩ (i++j) (.p id (o+c)):=okV fun g w ac hA hi=>by
 subst hc
 obtain⟨b,hb,e⟩:=h g ac (satI_l hi)
 have e2:=(kI_sig.1 (h' g ac (satI_r hi))).1
 have hn:=Nat.le_of_ble_eq_true hn
 refine⟨.pointer (some ((⟨b,o,none⟩:Addr).add ((n:Int).toNat*sz))),?_,b,hb,by rw[gR];rfl⟩
 have hn':0<=(n:Int)/\(n:Int)<(m:Int):=⟨by omega,by omega⟩
 simp only[execOp,e,e2,Instr.indexAt,asIntOf,Instr.sureAddr,Sem.run_bind,Sem.run_pure,Result.andThen_ok,run_underlying hT,if_pos hn',fU hE]
theorem oStK{α:Type} {d:Kd α} {u:α} {n id k off:Nat} {T0:TypeId} {ls:List Leaf} {l:Leaf}(hr:R[n]?=some (.box id T0 ls))(hk:ls[k]?=some l)(hs:l.sz=d.sz)(ho:Nat.beq (offL ls k) off=true)(hi:sizeIs P T d.sz)(h:Opd x (.p id off) i)(h':Opd y (.d (d.sig u)) j):Ok P ⟨dst,.store T x y,ty,pos,af,gd⟩ (i++j) R (.d sAny) none (R.set n (.box id T0 (ls.set k (.d d u)))):=
 oSt hr hk hs (Nat.eq_of_beq_eq_true ho) hi h h'
theorem oLdK{α:Type} {d:Kd α} {u:α} {n id k off:Nat} {T0:TypeId} {ls:List Leaf}(hr:R[n]?=some (.box id T0 ls))(hk:ls[k]?=some (.d d u))(ho:Nat.beq (offL ls k) off=true)(hi:tinf P T=some (d.agg,d.sz))(h:Opd x (.p id off) i):Ok P ⟨dst,.load T x,ty,pos,af,gd⟩ i R (.d (d.sig u)) none R:=
 oLdB hr hk (Nat.eq_of_beq_eq_true ho) hi h
theorem oLdPK{α:Type} {d:Kd α} {u:α} {n k m id off:Nat} {T0:TypeId} {l2 ls:List Leaf}(hF:Part l2 d u)(hr:R[n]?=some (.box id T0 ls))(hl:(ls.drop k).take m=l2)(ho:Nat.beq (offL ls k) off=true)(hi:tinf P T=some (d.agg,d.sz))(h:Opd x (.p id off) i):Ok P ⟨dst,.load T x,ty,pos,af,gd⟩ i R (.d (d.sig u)) none R:=
 oLdP hF hr hl (Nat.eq_of_beq_eq_true ho) hi h
theorem oStPK{α:Type} {d:Kd α} {u:α} {n k m id off:Nat} {T0:TypeId} {ls l2':List Leaf}(hF:Part l2' d u)(hr:R[n]?=some (.box id T0 ls))(hz:szL ((ls.drop k).take m)=d.sz)(ho:Nat.beq (offL ls k) off=true)(hi:sizeIs P T d.sz)(h:Opd x (.p id off) i)(h':Opd y (.d (d.sig u)) j):Ok P ⟨dst,.store T x y,ty,pos,af,gd⟩ (i++j) R (.d sAny) none (R.set n (.box id T0 (ls.take k++l2'++ls.drop (k+m)))):=
 oStP hF hr hz (Nat.eq_of_beq_eq_true ho) hi h h'
theorem oBuildA{S:Type} {fs:List (Fld S)} {u:S} {ps:List (Nat×Operand)} {pa:Array (Nat×Operand)} {zs:List Value} {m sz:Nat} {E:TypeId}(hpa:pa.toList=ps)(hz:zeroIs P T zs)(hT:P.underlying T=some (.array m E))(hE:sizeIs P E sz)(hoff:∀q f,fs[q]?=some f->(q*sz,sz)=(offF fs q,f.d.sz))(h:Prt S fs 0 u ps zs i):OkP P ⟨dst,.build T pa,ty,pos,af,gd⟩ i (.d ((kR fs).sig u)):=okV fun g w a hA hi=>by
 obtain⟨z,hz1,hz2⟩:=Option.map_eq_some_iff.1 hz
 obtain⟨inf,hi1,hi2⟩:=Option.bind_eq_some_iff.1 hz1
 obtain⟨cs,hf,r,hr,hrep⟩:=nq (g:=g) (a:=a) (fun q=>some (q*sz,sz)) [] z.cells h hi (by rw[hz2];rfl) (fun q f hq=>by simpa using hoff q f hq)
 rw[List.nil_append] at hr
 subst hr
 refine⟨.agg cs,?_,cs.toList,hrep,by simp[mkv,kR]⟩
 have hzr:(zeroValue T).run P w=.ok z w:=by
  simp only[zeroValue,typeInfo,program,Sem.run_bind,Sem.run,Sem.run_pure',Result.andThen_ok,hi1,Sem.run_pure,hi2]
 have hpm:(pa.map fun(x:Nat×Operand)=>(x.1,a.eval x.2)).toList=ps.map fun p=>(p.1,a.eval p.2):=by rw[Array.toList_map,hpa]
 simp only[execOp,Instr.build,Sem.run_bind,hzr,Result.andThen_ok,run_underlying hT,fU hE,hpm,hf,Sem.run_pure]
end
def sPtr(b:Nat):SigN:=⟨fun H vs v=>vs=[v]/\v=.pointer (some ⟨b,0,none⟩),fun _ h=>h⟩
def kV:Kd Value:=⟨1,false,fun _ cs v=>cs=[v]/\v.oneCell'=true,fun _ h=>h,fun h=>by rw[h.1];rfl,fun h c hc=>by rw[h.1] at hc;simp at hc;subst hc;exact h.2,fun _=>rfl⟩
theorem kV_sig{v:Value} {H:FH} {u:Value}:(kV.sig v).p H u↔u=v/\v.oneCell'=true:=
 ⟨fun⟨cs,⟨h1,h2⟩,e⟩=>⟨by rw[e,h1];rfl,h2⟩,fun⟨e,h⟩=>⟨[v],⟨rfl,h⟩,e⟩⟩
def bmV(f b:Nat):Value:=.func (.func f) #[.pointer (some ⟨b,0,none⟩)] #[]
section
variable{C:Cx} {Q:Exit->Act->World->Prop} {Γ:Env} {R:List Res}
theorem wPtr{n id:Nat} {T:TypeId} {ls:List Leaf} {c:Code}(t:Nat)(hr:R[n]?=some (.box id T ls))(ht:look Γ t=some (.p id 0))(h:∀b,WP C c Q ((t,.f [id] (sPtr b))::Γ) R):WP C c Q Γ R:=by
 intro g w a s
 obtain⟨b,cs,e,_⟩:=s.own.get hr
 refine h b g w a ⟨s.size,s.defers,s.keep,fun t' x hx=>?_,s.own,s.pin⟩
 rw[eD] at hx
 by_cases htt:t=t'
 ·rw[if_pos htt] at hx;cases hx
  subst htt
  obtain⟨b',e1,e2⟩:=s.sat t _ ht
  rw[e] at e1
  have e1:=Option.some.inj e1
  injection e1 with e1
  injection e1 with e1
  injection e1 with e1 _ _
  subst e1
  exact⟨[a.tmps.getD t undef],by simp only[List.map_cons,List.map_nil,e,e2],rfl,e2⟩
 ·rw[if_neg htt] at hx
  exact s.sat t' x hx
end
theorem tmP{t id b:Nat}:Opd (.tmp t) (.p id 0) [(t,.f [id] (sPtr b))]:=fun g a h=>by
 obtain⟨vs,e,e1,e2⟩:=h _ (List.mem_cons_self ..)
 subst e1
 simp only[List.map_cons,List.map_nil,List.cons.injEq,and_true] at e
 exact⟨b,by rw[e];exact congrArg some e2,e2⟩
section
variable{rd:Option Nat} {P:Program} {x y z:Operand} {i j k3:Env} {dst:Option Nat} {T T' ty K E:TypeId} {td:TypeDesc} {pos:String} {af:Array Edge} {gd:Option (Nat×Bool)} {R:List Res} {κ ν:Type}
theorem oMkBV{f id b:Nat}(h:Opd x (.f [id] (sPtr b)) i):OkP P ⟨dst,.makeFunc (.func f) #[x] #[],ty,pos,af,gd⟩ i (.d (kV.sig (bmV f b))):=okV fun g w a hA hi=>by
 obtain⟨vs,_,_,e2⟩:=h g a hi
 exact⟨.func (.func f) #[a.eval x] #[],by simp[execOp,Instr.makeFunc],kV_sig.2 ⟨by rw[e2];rfl,rfl⟩⟩
theorem oLookR [DecidableEq κ]{dk:Kd κ} {dv:Kd ν} {l:List (κ×ν)} {kx:κ} {z0:ν} {zv:Value} {n id:Nat}(hr:R[n]?=some (.abs id (aMap dk dv) l))(hT:P.underlying T=some (.map K E))(hk:MKey P K td dk)(hz:zeroV P E zv)(hz':∀H,dv.reps H [zv] z0)(ha:dv.agg=false)
  (h:Opd x (.f [id] sMapN) i) (h':Opd y (.d (dk.sig kx)) j):Ok P ⟨dst,.lookup T x y false,ty,pos,af,gd⟩ (i++j) R (.d (dv.sig (mGet l z0 kx).1)) none R:=by
 intro X H0 w0 g w ac KK Q hkp hi hown _ hK
 obtain⟨vs,hvs,b,e1,e⟩:=h g ac (satI_l hi)
 have hkey:=kM hk.ag (h' g ac (satI_r hi))
 obtain⟨bs,hnm,b',es,c,e2,hget,hall⟩:=hown.get hr
 subst e1 e2
 simp only[List.map_cons,List.map_nil,List.cons.injEq,and_true] at hvs
 rw[hvs] at hnm
 have hbb:=encB_inj (Option.some.inj hnm)
 simp only[List.cons.injEq,and_true] at hbb
 subst hbb
 have hf:=jk hk hkey 0 hall
 have hrun:∀r:Option (Nat×Value),Instr.findNow td (ac.eval y) es.toList 0=some r->(execOp ac.eval ⟨dst,.lookup T x y false,ty,pos,af,gd⟩).run P w=.ok (.value (match r with|some (_,v)=>v|none=>zv)) w:=by
  intro r hr
  simp only[execOp,Instr.lookup,Sem.run_bind,run_underlying hT,Result.andThen_ok,e,lp hget,Sem.run_pure,hk.chk g.H _ _ _ w hkey,jQ hk hr]
  cases r with
  |none=>simp only[Sem.run_bind,jK hz,Result.andThen_ok,Sem.run_pure];rfl
  |some p=>obtain⟨q,v⟩:=p;simp only[Sem.run_bind,Result.andThen_ok,Sem.run_pure];rfl
 unfold Oper.wp
 unfold mGet at hK
 cases hm:mFind l kx with
 |none=>
  rw[hrun _ (hf.1 hm)]
  rw[hm] at hK
  exact hK _ g w hkp (G.le.refl g) (fun i e _=>e) (kO ha (hz' _)) hown
 |some yv=>
  obtain⟨q,u,h1,h2⟩:=hf.2 _ hm
  rw[hrun _ h1]
  rw[hm] at hK
  exact hK _ g w hkp (G.le.refl g) (fun i e _=>e) (kO ha h2) hown
theorem bm_args{f id b kn:Nat} {t:List (Nat×Nat)} {v0:Value}(hv:v0=bmV f b)(hc:Opd x (.d (kV.sig v0)) i)(hp:Opd y (.f [id] (sPtr b)) j)(hkn:asF t kn=id)(hb:bodied P f)(ts:Array TypeId):
  ∀(X:Nat->Prop) (B:Nat) (g:G) (w:World) (a:Act),Agree g.H w->SatI (i++j) g a->Own X B g w R->∃vs:List Value,(execOp a.eval ⟨dst,.call ⟨.value x,#[],ts⟩,ty,pos,af,gd⟩).run P w=.ok (.enter f vs.toArray) w/\SatsE ([Ent.p kn 0].map (Ent.mp (asF t))) g vs:=by
 intro X B g w a hA hi ho
 subst hv
 have e:=(kV_sig.1 (hc g a (satI_l hi))).1
 obtain⟨vs,ev,e1,e2⟩:=hp g a (satI_r hi)
 subst e1
 simp only[List.map_cons,List.map_nil,List.cons.injEq,and_true] at ev
 refine⟨[.pointer (some ⟨b,0,none⟩)],?_,_,[],rfl,?_,rfl⟩
 ·simp only[execOp,resolve,e,bmV,Deferred.ofValue,Sem.run_bind,Sem.run_pure,Result.andThen_ok,invoke]
  rw[show (#[Value.pointer (some ⟨b,0,none⟩)]++Array.map a.eval #[])++ #[]=[Value.pointer (some ⟨b,0,none⟩)].toArray by simp]
  exact jq hb
 ·simp only[Ent.mp,hkn]
  exact⟨b,by rw[ev,e2],rfl⟩
theorem oCallBV{f id b kn:Nat} {v0:Value} {ts:Array TypeId} {Rin Rout rest R':List Res} {pi:List Nat} {out out':Ent}(t m:List (Nat×Nat))(is js ks:List Nat){ns:List Nat}(hv:v0=bmV f b)(hc:Opd x (.d (kV.sig v0)) i)(hp:Opd y (.f [id] (sPtr b)) j)
  (hf:FnS P f [.p kn 0] Rin pi out Rout) (hkn':asF t kn=id) (hb:bodied P f)
  (hin:(is++js).map (fun i=>R[i]?)=(Rin.map (Res.mp (asF t))++rest).map some) (hnd:nodupB (is++js)=true)
  (hm:mOk t m pi (Rout.flatMap Res.ids++out.ids)=true) (hns:m.map (·.2)=ns) (hnn:nodupB ns=true)
  (ho':out.mp (τs t m)=out')
  (hks:ks.map (fun i=>(Rout.map (Res.mp (τs t m))++rest)[i]?)=R'.map some) (hkn:nodupB ks=true):
  OkL rd P ⟨dst,.call ⟨.value x,#[],ts⟩,ty,pos,af,gd⟩ (i++j) R out' ns R':=
 j0 t m is js ks hf (fun c e=>by cases e) (bm_args hv hc hp hkn' hb ts) hin hnd hm hns hnn ho' hks hkn
theorem oCallBX{f id b kn:Nat} {v0 v:Value} {ts:Array TypeId} {Rin rest:List Res}(t:List (Nat×Nat))(is js:List Nat)(hv:v0=bmV f b)(hc:Opd x (.d (kV.sig v0)) i)(hp:Opd y (.f [id] (sPtr b)) j)
  (hf:FnX P f [.p kn 0] Rin v) (hkn':asF t kn=id) (hb:bodied P f)
  (hin:(is++js).map (fun i=>R[i]?)=(Rin.map (Res.mp (asF t))++rest).map some) (hnd:nodupB (is++js)=true):
  OkX rd P ⟨dst,.call ⟨.value x,#[],ts⟩,ty,pos,af,gd⟩ (i++j) R v rest:=
 lS t is js hf (fun c e=>by cases e) (bm_args hv hc hp hkn' hb ts) hin hnd
end
end Go.Proofs.YtmjcpkmongafnaaGreatDoor.Ab
