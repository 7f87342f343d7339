import Derived.Test.YtmjcpkmongafnaaGreatDoorAb9
set_option linter.unusedVariables false
set_option linter.unusedSimpArgs false
namespace Go.Proofs.YtmjcpkmongafnaaGreatDoor.Ab
open Go Go.RowKit
section
variable{P:Program} {x y z:Operand} {i j k3:Env} {dst:Option Nat} {T T' ty:TypeId} {pos:String} {af:Array Edge} {gd:Option (Nat×Bool)} {R:List Res}
theorem oI{α:Type} {d:Kd α} {H:FH} {a:List Value} {xs:List α}(h:RowOf d H a xs)(n:Nat):RowOf d H (a.drop (n*d.sz)) (xs.drop n):=by
 refine⟨?_,fun j x hx=>?_⟩
 ·rw[List.length_drop,List.length_drop,h.1,Nat.sub_mul]
 ·rw[List.getElem?_drop] at hx
  rw[List.drop_drop,<-Nat.add_mul]
  exact h.2 (n+j) x hx
def lCut{α:Type}(xs:List α)(a b:Int):List α:=(xs.drop a.toNat).take (b.toNat-a.toNat)
theorem mg{α:Type} {d:Kd α} {xs:List α} {H:FH} {w:World} {A:Option Addr} {c:Nat} {E:TypeId} {lo hi:Int} {l h:Option Value}(hT:P.underlying T=some (.slice E))(hE:sizeIs P E d.sz)(h0:0<=lo)(h1:lo<=hi)(h2:hi<=xs.length)
  (hb:(Instr.sliceBounds true xs.length c l h none).run P w=.ok (lo.toNat,hi.toNat,c) w) (hc:xs.length<=c) (hcm:c<=9223372036854775807) (hbig:xs.length<=big) (hs:SliceAt d H A xs):
  ∃v,(Instr.sliceAt T (.slice A xs.length c) l h none).run P w=.ok v w/\((kL d).sig (lCut xs lo hi)).p H v:=by
 refine⟨.slice (if c=lo.toNat then A else A.map (·.add (lo.toNat*d.sz))) (hi.toNat-lo.toNat) (c-lo.toNat),?_,kL_sig.2 ⟨if c=lo.toNat then A else A.map (·.add (lo.toNat*d.sz)),c-lo.toNat,?_,?_,?_,?_,?_⟩⟩
 ·simp only[Instr.sliceAt,Sem.run_bind,run_underlying hT,Result.andThen_ok,Instr.slice,hb,fU hE,Sem.run_pure]
 ·rw[show (lCut xs lo hi).length=hi.toNat-lo.toNat by unfold lCut;rw[List.length_take,List.length_drop];omega]
 ·unfold lCut;rw[List.length_take,List.length_drop];omega
 ·omega
 ·unfold lCut;rw[List.length_take,List.length_drop];omega
 ·rcases Nat.eq_zero_or_pos (hi.toNat-lo.toNat) with hz|hz
  ·left;unfold lCut;rw[hz];rfl
  ·rcases hs with rfl|⟨b,off,cells,t,fr,rfl,hH,hr⟩
   ·simp at h2;omega
   ·right
    rw[if_neg (by omega)]
    refine⟨b,off+lo.toNat*d.sz,cells,t,fr,by rw[Option.map_some,gR],hH,?_⟩
    have:=j2 (oI hr lo.toNat) (hi.toNat-lo.toNat)
    rw[List.drop_take,List.drop_drop,List.take_take] at this
    have hlen:(lCut xs lo hi).length=hi.toNat-lo.toNat:=by unfold lCut;rw[List.length_take,List.length_drop];omega
    rw[hlen]
    rwa [Nat.min_eq_left (by rw[<-Nat.sub_mul];exact Nat.mul_le_mul_right _ (by omega))] at this
theorem oCut{α:Type} {d:Kd α} {xs:List α} {a b:Int} {E:TypeId}(hT:P.underlying T=some (.slice E))(hE:sizeIs P E d.sz)(h0:0<=a)(h1:a<=b)(h2:b<=xs.length)(h:Opd x (.d ((kL d).sig xs)) i)(ha:Opd y (.d ((kI .i64).sig a)) j)(hb:Opd z (.d ((kI .i64).sig b)) k3):OkP P ⟨dst,.slice T x (some y) (some z) none,ty,pos,af,gd⟩ (i++(j++k3)) (.d ((kL d).sig (lCut xs a b))):=okV fun g w ac hA hi=>by
 obtain⟨A,c,e1,q1,q2,q3,q4⟩:=kL_sig.1 (h g ac (satI_l hi))
 have e2:=(kI_sig.1 (ha g ac (satI_l (satI_r hi)))).1
 have e3:=(kI_sig.1 (hb g ac (satI_r (satI_r hi)))).1
 obtain⟨v,hr,hv⟩:=mg (P:=P) (T:=T) (w:=w) (l:=some (.int .i64 a)) (h:=some (.int .i64 b)) hT hE h0 h1 h2 (by
  simp only[Instr.sliceBounds,Sem.run_bind,Sem.run_pure,Result.andThen_ok,Option.isSome_none,Bool.false_eq_true,if_false,if_true]
  rw[fA (by omega) (show b<=(c:Int) by omega),Result.andThen_ok,fA h0 (show a<=(b.toNat:Int) by omega)]
  all_goals rfl) q1 q2 q3 q4
 exact⟨v,by simp only[execOp,e1,Option.map_some,Option.map_none,e2,e3,Sem.run_bind,hr,Result.andThen_ok,Sem.run_pure],hv⟩
theorem oCutLo{α:Type} {d:Kd α} {xs:List α} {a:Int} {E:TypeId}(hT:P.underlying T=some (.slice E))(hE:sizeIs P E d.sz)(h0:0<=a)(h1:a<=xs.length)(h:Opd x (.d ((kL d).sig xs)) i)(ha:Opd y (.d ((kI .i64).sig a)) j):OkP P ⟨dst,.slice T x (some y) none none,ty,pos,af,gd⟩ (i++j) (.d ((kL d).sig (lCut xs a xs.length))):=okV fun g w ac hA hi=>by
 obtain⟨A,c,e1,q1,q2,q3,q4⟩:=kL_sig.1 (h g ac (satI_l hi))
 have e2:=(kI_sig.1 (ha g ac (satI_r hi))).1
 obtain⟨v,hr,hv⟩:=mg (P:=P) (T:=T) (w:=w) (l:=some (.int .i64 a)) (h:=none) (hi:=xs.length) hT hE h0 h1 (Int.le_refl _) (by
  simp only[Instr.sliceBounds,Sem.run_bind,Sem.run_pure,Result.andThen_ok,Option.isSome_none,Bool.false_eq_true,if_false,if_true]
  rw[fA h0 (show a<=(xs.length:Int) by omega)]
  all_goals rfl) q1 q2 q3 q4
 exact⟨v,by simp only[execOp,e1,Option.map_some,Option.map_none,e2,Sem.run_bind,hr,Result.andThen_ok,Sem.run_pure],hv⟩
theorem oCutHi{α:Type} {d:Kd α} {xs:List α} {b:Int} {E:TypeId}(hT:P.underlying T=some (.slice E))(hE:sizeIs P E d.sz)(h0:0<=b)(h1:b<=xs.length)(h:Opd x (.d ((kL d).sig xs)) i)(ha:Opd y (.d ((kI .i64).sig b)) j):OkP P ⟨dst,.slice T x none (some y) none,ty,pos,af,gd⟩ (i++j) (.d ((kL d).sig (lCut xs 0 b))):=okV fun g w ac hA hi=>by
 obtain⟨A,c,e1,q1,q2,q3,q4⟩:=kL_sig.1 (h g ac (satI_l hi))
 have e2:=(kI_sig.1 (ha g ac (satI_r hi))).1
 obtain⟨v,hr,hv⟩:=mg (P:=P) (T:=T) (w:=w) (l:=none) (h:=some (.int .i64 b)) (lo:=0) hT hE (Int.le_refl _) h0 h1 (by
  simp only[Instr.sliceBounds,Sem.run_bind,Sem.run_pure,Result.andThen_ok,Option.isSome_none,Bool.false_eq_true,if_false,if_true]
  rw[fA h0 (show b<=(c:Int) by omega),Result.andThen_ok]
  all_goals rfl) q1 q2 q3 q4
 exact⟨v,by simp only[execOp,e1,Option.map_some,Option.map_none,e2,Sem.run_bind,hr,Result.andThen_ok,Sem.run_pure],hv⟩
theorem row_slice{w:World} {e:TypeId} {size n:Nat} {v:Value} {xs:List Value}(h:w.ownsRow 0 e size v n xs):∃A c,v=.slice A n c/\n<=9223372036854775807:=by
 rcases h.2 with ⟨rfl,rfl⟩|⟨g,cap,cur,rfl,_,_,h1,h2,_⟩
 ·exact⟨none,0,rfl,by omega⟩
 ·exact⟨_,cap,rfl,by unfold maxLen at h2;omega⟩
theorem oLenR{α:Type} {d:Kd α} {xs:List α} {n id:Nat} {E E':TypeId} {ts:Array TypeId}(hT:(ts[0]?).bind P.underlying=some (.slice E'))(hr:R[n]?=some (.row id E d xs))(h:Opd x (.v id) i):Ok P ⟨dst,.call ⟨.builtin .len,#[x],ts⟩,ty,pos,af,gd⟩ i R (.d ((kI .i64).sig (xs.length:Int))) none R:=okR fun X B g w ac hA hs hown=>by
 have ex:g.nm id=some (ac.eval x):=h g ac hs
 obtain⟨v,cells,hv,hrow,hro,_⟩:=hown.get hr
 rw[ex] at hv;cases hv
 obtain⟨A,c,e,hm⟩:=row_slice hrow
 obtain⟨t,ht,hu⟩:=Option.bind_eq_some_iff.1 hT
 refine⟨.int .i64 xs.length,?_,kI_sig.2 ⟨rfl,kr hm⟩⟩
 simp only[execOp,resolve,invoke,builtin,Builtin.len_,Sem.run_bind,Sem.run_pure,Result.andThen_ok,List.map_toArray,List.map_cons,List.map_nil,e,ht,arr0]
 simp only[Sem.run_bind,run_underlying hu]
 rfl
theorem oIdxR{kk:IntKind} {α:Type} {d:Kd α} {xs:List α} {u:α} {m:Int} {n id:Nat} {E E':TypeId}(hT:P.underlying T=some (.slice E'))(hE:sizeIs P E' d.sz)(hr:R[n]?=some (.row id E d xs))(hu:lAt xs m=some u)(h:Opd x (.v id) i)(h':Opd y (.d ((kI kk).sig m)) j):Ok P ⟨dst,.indexAddr T x y,ty,pos,af,gd⟩ (i++j) R (.e id (m.toNat*d.sz)) none R:=okR fun X B g w ac hA hs hown=>by
 have ex:g.nm id=some (ac.eval x):=h g ac (satI_l hs)
 have e2:=(kI_sig.1 (h' g ac (satI_r hs))).1
 obtain⟨v,cells,hv,hrow,hro,_⟩:=hown.get hr
 rw[ex] at hv;cases hv
 obtain⟨h0,hlt,hget⟩:=kt hu
 rcases hrow.2 with ⟨e,hz⟩|⟨b,cap,cur,e,_⟩
 ·omega
 ·have hn:0<=m/\m<(xs.length:Int):=⟨h0,by omega⟩
  refine⟨.pointer (some ⟨b,m.toNat*d.sz,none⟩),?_,b,xs.length,cap,by rw[ex,e],rfl⟩
  simp only[execOp,e,e2,Instr.indexAt,asIntOf,Sem.run_bind,Sem.run_pure,Result.andThen_ok,run_underlying hT,if_pos hn,fU hE,gR,Nat.zero_add]
theorem row_cells{α:Type} {d:Kd α} {H:FH} {w:World} {b n cap:Nat} {e:TypeId} {cells:List Value} {xs:List α} {j:Nat} {u:α}(h:w.ownsRow 0 e d.sz (.slice (some ⟨b,0,none⟩) n cap) xs.length cells)(hro:RowOf d H cells xs)(hj:xs[j]?=some u):
  ∃cur,w.heap[b]?=some (.cells cur e (0,0))/\d.reps H ((cur.toList.drop (j*d.sz)).take d.sz) u:=by
 rcases h.2 with ⟨he,_⟩|⟨b',cap',cur,he,_,hh,_,_,_,htk⟩
 ·cases he
 ·cases he
  refine⟨cur,hh,?_⟩
  have:=hro.2 j u hj
  rw[<-htk,List.drop_take,List.take_take] at this
  have hlt:j<xs.length:=(List.getElem?_eq_some_iff.1 hj).1
  have hle:j*d.sz+d.sz<=xs.length*d.sz:=by rw[<-Nat.succ_mul];exact Nat.mul_le_mul_right _ hlt
  rwa [Nat.min_eq_left (by omega)] at this
theorem oLdE{α:Type} {d:Kd α} {xs:List α} {u:α} {n id off:Nat} {m:Int} {E:TypeId}(hr:R[n]?=some (.row id E d xs))(hu:lAt xs m=some u)(ho:m.toNat*d.sz=off)(hi:tinf P T=some (d.agg,d.sz))(h:Opd x (.e id off) i):Ok P ⟨dst,.load T x,ty,pos,af,gd⟩ i R (.d (d.sig u)) none R:=okR fun X B g w ac hA hs hown=>by
 obtain⟨b,nn,c,hb,e⟩:=h g ac hs
 obtain⟨v,cells,hv,hrow,hro,_⟩:=hown.get hr
 rw[hb] at hv;cases hv
 have hnn:nn=xs.length:=by
  rcases hrow.2 with ⟨he,_⟩|⟨_,_,_,he,_⟩
  ·cases he
  ·cases he;rfl
 subst hnn
 obtain⟨cur,hh,hrep⟩:=row_cells hrow hro (kt hu).2.2
 subst ho
 exact⟨mkv d.agg _,by simp only[execOp,e,Sem.run_bind,ie hi d.one hh rfl (d.len hrep),Result.andThen_ok,Sem.run_pure],_,hrep,rfl⟩
theorem oFldE{id o off k:Nat}(ho:fofs P T k=some off)(h:Opd x (.e id o) i):OkP P ⟨dst,.fieldAddr T x k,ty,pos,af,gd⟩ i (.e id (o+off)):=okV fun g w ac hA hs=>by
 obtain⟨b,n,c,hb,e⟩:=h g ac hs
 exact⟨.pointer (some ⟨b,o+off,none⟩),by simp only[execOp,e,Sem.run_bind,jN ho,Result.andThen_ok,Sem.run_pure],b,n,c,hb,rfl⟩
theorem oCutR{α:Type} {d:Kd α} {xs:List α} {b:Int} {n id id':Nat} {E E':TypeId}(hT:P.underlying T=some (.slice E'))(hE:sizeIs P E' d.sz)(hr:R[n]?=some (.row id E d xs))(h0:0<=b)(h1:b<=xs.length)(h:Opd x (.v id) i)(h':Opd y (.d ((kI .i64).sig b)) j):Ok P ⟨dst,.slice T x none (some y) none,ty,pos,af,gd⟩ (i++j) R (.v id') (some id') (R.set n (.row id' E d (xs.take b.toNat))):=by
 intro X H0 w0 g w a K Q hk hi ho hn hK
 have ex:g.nm id=some (a.eval x):=h g a (satI_l hi)
 have e2:=(kI_sig.1 (h' g a (satI_r hi))).1
 obtain⟨v,cells,hv,hrow,hro,hbig⟩:=ho.get hr
 rw[ex] at hv;cases hv
 have hid':=hn id' rfl
 have hblk:∀b,(a.eval x).ownBlock=some b->(Res.row id E d xs).block g b:=fun b e=>by simp only[Res.block,ex];exact e
 obtain⟨v',hv1,hv2,hv3⟩:∃v',(execOp a.eval ⟨dst,.slice T x none (some y) none,ty,pos,af,gd⟩).run P w=.ok (.value v') w/\w.ownsRow 0 E d.sz v' (xs.take b.toNat).length (cells.take (b.toNat*d.sz))/\v'.ownBlock=(a.eval x).ownBlock:=by
  have hlen:(xs.take b.toNat).length=b.toNat:=by rw[List.length_take];omega
  have hcl:(cells.take (b.toNat*d.sz)).length=b.toNat*d.sz:=by rw[List.length_take,hro.1,Nat.min_eq_left (Nat.mul_le_mul_right _ (by omega))]
  rw[hlen]
  rcases hrow.2 with ⟨e,hz⟩|⟨g0,cap,cur,e,hb0,hh,hnc,hcm,hcs,htk⟩
  ·have hb0:b.toNat=0:=by omega
   refine⟨.slice none 0 0,?_,⟨hcl,.inl ⟨rfl,hb0⟩⟩,by rw[e]⟩
   simp only[execOp,e,Option.map_some,Option.map_none,e2,Instr.sliceAt,Sem.run_bind,run_underlying hT,Result.andThen_ok,Instr.slice,Instr.sliceBounds,Sem.run_pure,Option.isSome_none,Bool.false_eq_true,if_false,if_true]
   rw[fA h0 (show b<=((0:Nat):Int) by omega)]
   simp only[Result.andThen_ok,fU hE,hb0]
   try rfl
  ·refine⟨.slice (some ⟨g0,0,none⟩) b.toNat cap,?_,⟨hcl,.inr ⟨g0,cap,cur,rfl,hb0,hh,by omega,hcm,hcs,?_⟩⟩,by rw[e];rfl⟩
   ·simp only[execOp,e,Option.map_some,Option.map_none,e2,Instr.sliceAt,Sem.run_bind,run_underlying hT,Result.andThen_ok,Instr.slice,Instr.sliceBounds,Sem.run_pure,Option.isSome_none,Bool.false_eq_true,if_false,if_true]
    rw[fA h0 (show b<=(cap:Int) by omega)]
    simp only[Result.andThen_ok,fU hE,Nat.zero_mul,Nat.sub_zero,Addr.add,if_pos,ite_self]
    try rfl
   ·rw[<-htk,List.take_take,Nat.min_eq_left (Nat.mul_le_mul_right _ (by omega))]
 have hle:G.le g (g.name id' v'):=gY hid'
 unfold Oper.wp
 rw[hv1]
 refine hK v' (g.name id' v') w hk hle (fun q e hq=>by rw[io (fun hqi=>hq (by rw[hqi]))];exact e) (dQ ..) ?_
 refine ho.put hr hle (Nat.le_refl _) (fun _ _ _ _=>rfl) (fun _ _ e _=>e) ⟨v',_,dQ ..,hv2,j2 hro _,by rw[List.length_take];omega⟩ ?_
 intro q e
 have e':v'.ownBlock=some q:=by simpa only[Res.block,dQ,Option.bind_some] using e
 rw[hv3] at e'
 obtain⟨q1,q2,q3⟩:=ho.at_ _ (List.mem_of_getElem? hr) q (hblk q e')
 exact⟨q1,q2,q3,.inl (hblk q e')⟩
theorem oNilP{id o:Nat}(h:Opd x (.p id o) i):OkP P ⟨dst,.nilCheck x,ty,pos,af,gd⟩ i (.p id o):=okV fun g w ac hA hs=>by
 have hx:=h g ac hs
 obtain⟨b,hb,e⟩:=hx
 exact⟨.pointer (some ⟨b,o,none⟩),by simp only[execOp,e];rfl,b,hb,rfl⟩
inductive Prt(S:Type):List (Fld S)->Nat->S->List (Nat×Operand)->List Value->Env->Prop where
 |nil {n:Nat} {u:S}:Prt S [] n u [] [] []
 |op {f:Fld S} {fs:List (Fld S)} {n:Nat} {u:S} {x:Operand} {ps:List (Nat×Operand)} {zs zc:List Value} {a b:Env} (h:Opd x (.d (f.d.sig (f.get u))) a) (hz:zc.length=f.d.sz) (k:Prt S fs (n+1) u ps zs b):Prt S (f::fs) n u ((n,x)::ps) (zc++zs) (a++b)
 |ze {f:Fld S} {fs:List (Fld S)} {n:Nat} {u:S} {ps:List (Nat×Operand)} {zs zc:List Value} {b:Env} (h:∀H,f.d.reps H zc (f.get u)) (k:Prt S fs (n+1) u ps zs b):Prt S (f::fs) n u ps (zc++zs) b
theorem np:∀(vs:List Value) (k off:Nat) (cells:Array Value),off+k+vs.length<=cells.size->((vs.zipIdx k).foldl (fun cs (c,j)=>cs.setIfInBounds (off+j) c) cells).toList=cells.toList.take (off+k)++vs++cells.toList.drop (off+k+vs.length)
 |[],k,off,cells,_=>by simp
 |v::vs,k,off,cells,h=>by
  simp only[List.length_cons] at h
  have hlt:off+k<cells.toList.length:=by rw[Array.length_toList];omega
  rw[List.zipIdx_cons,List.foldl_cons,np vs (k+1) off _ (by simp;omega),Array.toList_setIfInBounds,show off+(k+1)=off+k+1 by omega]
  rw[List.set_eq_take_append_cons_drop,if_pos hlt]
  have hl:(cells.toList.take (off+k)).length=off+k:=by rw[List.length_take];omega
  have h1:(cells.toList.take (off+k)++v::cells.toList.drop (off+k+1)).take (off+k+1)=cells.toList.take (off+k)++[v]:=by
   rw[List.take_append,hl,List.take_of_length_le (by omega),show off+k+1-(off+k)=1 by omega];rfl
  have h2:(cells.toList.take (off+k)++v::cells.toList.drop (off+k+1)).drop (off+k+1+vs.length)=cells.toList.drop (off+k+(vs.length+1)):=by
   rw[List.drop_append,hl,List.drop_eq_nil_of_le (by omega),List.nil_append,show off+k+1+vs.length-(off+k)=vs.length+1 by omega,List.drop_succ_cons,List.drop_drop]
   congr 1;omega
  rw[h1,h2]
  simp
theorem nq{S:Type} {g:G} {a:Act}(place:Nat->Option (Nat×Nat)):∀{fs:List (Fld S)} {n:Nat} {u:S} {ps:List (Nat×Operand)} {zs:List Value} {b:Env} (pre:List Value) (cells:Array Value),Prt S fs n u ps zs b->SatI b g a->
  cells.toList=pre++zs->(∀q f,fs[q]?=some f->place (n+q)=some (pre.length+offF fs q,f.d.sz))->
  ∃cs,Instr.fill place cells (ps.map fun p=>(p.1,a.eval p.2))=some cs/\∃r,cs.toList=pre++r/\repsF fs g.H r u:=by
 intro fs n u ps zs b pre cells hp
 induction hp generalizing pre cells with
 |nil=>intro _ hc _;exact⟨cells,rfl,[],by simpa using hc,rfl⟩
 | @op f fs n u x ps zs zc a0 b0 h hz k ih=>
  intro hi hc hpl
  obtain⟨cs,hr,he⟩:=h g a (satI_l hi)
  have hlen:=f.d.len hr
  have hcells:(a.eval x).cells=cs.toArray:=by rw[he];exact f.d.gD hr
  have hpl0:=hpl 0 f rfl
  rw[Nat.add_zero,offF,Nat.add_zero] at hpl0
  have hsz:cells.size=pre.length+(zc.length+zs.length):=by rw[<-Array.length_toList,hc];simp
  obtain⟨cs',hf,r,hr',hrep⟩:=ih (pre++cs) (((a.eval x).cells.zipIdx.foldl (fun cs (c,j)=>cs.setIfInBounds (pre.length+j) c) cells)) (satI_r hi) (by
   rw[hcells,<-Array.foldl_toList]
   have:=np cs 0 pre.length cells (by rw[hsz];omega)
   simp only[Nat.add_zero] at this
   rw[show (cs.toArray.zipIdx).toList=cs.zipIdx 0 by simp]
   rw[this,hc,List.take_left,List.append_assoc,List.append_assoc,hlen,<-hz]
   rw[<-List.append_assoc pre zc zs,show pre.length+zc.length=(pre++zc).length by simp,List.drop_left]) (by
   intro q f' hq
   have:=hpl (q+1) f' (by simpa using hq)
   rw[offF] at this
   rw[show n+1+q=n+(q+1) by omega,this,List.length_append,hlen]
   congr 2
   omega)
  refine⟨cs',?_,cs++r,by rw[hr',List.append_assoc],cs,r,rfl,hr,hrep⟩
  rw[List.map_cons,Instr.fill,hpl0]
  simp only
  have hcs:(a.eval x).cells.size=f.d.sz:=by rw[hcells,List.size_toArray,hlen]
  rw[if_neg (by rw[hcs];simp;omega),hf]
 | @ze f fs n u ps zs zc b0 h k ih=>
  intro hi hc hpl
  have hlen:=f.d.len (h g.H)
  obtain⟨cs',hf,r,hr',hrep⟩:=ih (pre++zc) cells hi (by rw[hc,List.append_assoc]) (by
   intro q f' hq
   have:=hpl (q+1) f' (by simpa using hq)
   rw[offF] at this
   rw[show n+1+q=n+(q+1) by omega,this,List.length_append,hlen]
   congr 2
   omega)
  exact⟨cs',hf,zc++r,by rw[hr',List.append_assoc],zc,r,rfl,h g.H,hrep⟩
def places(P:Program)(T:TypeId):Option (List (Nat×Nat)):=match P.underlying T with
 |some (.struct fs)=>fs.toList.mapM fun f=>(P.info? f.type).map fun i=>(f.offset,i.size)
 |_=>none
theorem j3{w:World}:∀(fs:List Field) (ps:List (Nat×Nat)),(fs.mapM fun f=>(P.info? f.type).map fun i=>(f.offset,i.size))=some ps->(fs.mapM fun f=>(do pure (f.offset,<-sizeOf f.type):Sem (Nat×Nat))).run P w=.ok ps w
 |[],ps,h=>by simp at h;subst h;simp
 |f::fs,ps,h=>by
  simp only[List.mapM_cons,bind,Option.bind_eq_some_iff,pure,Option.some.injEq,Option.map_eq_some_iff] at h
  obtain⟨p,⟨i,hi,rfl⟩,qs,hq,rfl⟩:=h
  have hs:(sizeOf f.type).run P w=.ok i.size w:=fU (by simp[sizeIs,hi])
  simp only[List.mapM_cons,Sem.run_bind,hs,Result.andThen_ok,Sem.run_pure,j3 fs qs hq]
theorem oBuild{S:Type} {fs:List (Fld S)} {u:S} {ps:List (Nat×Operand)} {pa:Array (Nat×Operand)} {zs:List Value} {pl:List (Nat×Nat)}(hpa:pa.toList=ps)(hz:zeroIs P T zs)(hpl:places P T=some pl)(hoff:∀q f,fs[q]?=some f->pl[q]?=some (offF fs q,f.d.sz))(h:Prt S fs 0 u ps zs i):OkP P ⟨dst,.build T pa,ty,pos,af,gd⟩ i (.d ((kR fs).sig u)):=okV fun g w a hA hi=>by
 obtain⟨z,hz1,hz2⟩:=Option.map_eq_some_iff.1 hz
 obtain⟨inf,hi1,hi2⟩:=Option.bind_eq_some_iff.1 hz1
 obtain⟨cs,hf,r,hr,hrep⟩:=nq (g:=g) (a:=a) (fun q=>pl.toArray[q]?) [] z.cells h hi (by rw[hz2];rfl) (fun q f hq=>by simpa using hoff q f hq)
 rw[List.nil_append] at hr
 subst hr
 refine⟨.agg cs,?_,cs.toList,hrep,by simp[mkv,kR]⟩
 have hzr:(zeroValue T).run P w=.ok z w:=by
  simp only[zeroValue,typeInfo,program,Sem.run_bind,Sem.run,Sem.run_pure',Result.andThen_ok,hi1,Sem.run_pure,hi2]
 unfold places at hpl
 split at hpl
 ·rename_i fields hu
  have hrp:=j3 (P:=P) (w:=w) fields.toList pl hpl
  have hm:(fields.mapM fun f=>(do pure (f.offset,<-sizeOf f.type):Sem (Nat×Nat))).run P w=.ok pl.toArray w:=by
   rw[<-Array.toArray_toList (xs:=fields),List.mapM_toArray]
   simp only[Sem.run_map,Sem.run_bind,Array.toArray_toList] at hrp⊢
   rw[hrp];rfl
  have hpm:(pa.map fun(x:Nat×Operand)=>(x.1,a.eval x.2)).toList=ps.map fun p=>(p.1,a.eval p.2):=by rw[Array.toList_map,hpa]
  simp only[execOp,Instr.build,Sem.run_bind,hzr,Result.andThen_ok,run_underlying hu,hm]
  rw[show (Array.map (fun x=>match x with|(i,x)=>(i,a.eval x)) pa).toList=ps.map fun p=>(p.1,a.eval p.2) from hpm,hf]
  rfl
 ·cases hpl
end
end Go.Proofs.YtmjcpkmongafnaaGreatDoor.Ab
namespace Go.Proofs.YtmjcpkmongafnaaGreatDoor.Ab
open Go Go.RowKit
def bodied(P:Program)(f:FuncId):Prop:=((P.funcs[f]?).map fun fn=>fn.body.isSome&& !(fn.name== "runtime.NumGoroutine"))=some true
def sFun(P:Program)(Rl:List Sig->Sig->Prop):Sig:=⟨fun H v=>∃f cap,v=.func (.func f) #[] cap/\bodied P f/\∀ins out,Rl ins out->∀(H':FH) (w:World) (args:List Value),FH.le H H'->Agree H' w->Sats ins H' args->Calls P f (args.toArray++cap) w (Ret No H' w out),
 by
  intro H H' v hl h
  obtain⟨f,cap,e,hb,k⟩:=h
  exact⟨f,cap,e,hb,fun ins out hr H'' w args hl'=>k ins out hr H'' w args (hl.trans hl')⟩⟩
theorem kZ:∀{a b:List Sig} {H:FH} {vs us:List Value},Sats a H vs->Sats b H us->Sats (a++b) H (vs++us)
 |[],_,_,_,_,h,k=>by rw[show _=[] from h];exact k
 |s::a,b,H,vs,us,⟨v,vr,e,h1,h2⟩,k=>by subst e;exact⟨v,vr++us,rfl,h1,kZ h2 k⟩
section
variable{P:Program} {x y z:Operand} {i j k3:Env} {dst:Option Nat} {T T' ty:TypeId} {pos:String} {af:Array Edge} {gd:Option (Nat×Bool)} {R:List Res}
theorem oMkF{f:FuncId} {xs:List Operand} {cs:Array Operand} {caps:List Sig} {Rl:List Sig->Sig->Prop}(hx:cs.toList=xs)(hb:bodied P f)(hf:∀ins out,Rl ins out->FnA P f (ins++caps) out)(h:Opds xs caps i):OkP P ⟨dst,.makeFunc (.func f) #[] cs,ty,pos,af,gd⟩ i (.d (sFun P Rl)):=okV fun g w a hA hi=>by
 refine⟨.func (.func f) #[] (cs.map a.eval),by simp[execOp,Instr.makeFunc],f,cs.map a.eval,rfl,hb,fun ins out hr H' w' args hl hA' hs=>?_⟩
 have hc:=iY h hi
 have:=hf ins out hr H' w' (args++xs.map a.eval) hA' (kZ hs (iZ hl hc))
 rw[show args.toArray++cs.map a.eval=(args++xs.map a.eval).toArray by subst hx;apply Array.ext';simp]
 exact this
theorem oFn{f:FuncId} {Rl:List Sig->Sig->Prop}(hb:bodied P f)(hf:∀ins out,Rl ins out->FnA P f ins out):Opd (.func f) (.d (sFun P Rl)) []:=fun g a _=>by
 refine⟨f,#[],rfl,hb,fun ins out hr H' w' args hl hA' hs=>?_⟩
 have:=hf ins out hr H' w' args hA' hs
 simpa using this
theorem oCallV{xs:List Operand} {as_:Array Operand} {ts:Array TypeId} {ins:List Sig} {out:Sig} {Rl:List Sig->Sig->Prop}(hx:as_.toList=xs)(hr:Rl ins out)(hf:Opd x (.d (sFun P Rl)) i)(h:Opds xs ins j):OkP P ⟨dst,.call ⟨.value x,as_,ts⟩,ty,pos,af,gd⟩ (i++j) (.d out):=by
 intro g w a K Q hA hi hK
 obtain⟨f,cap,e,hb,k⟩:=hf g a (satI_l hi)
 obtain⟨fn,hfn,hb'⟩:=Option.map_eq_some_iff.1 hb
 simp only[Bool.and_eq_true,Bool.not_eq_true',beq_eq_false_iff_ne,ne_eq] at hb'
 unfold Oper.wp
 have hrun:(execOp a.eval ⟨dst,.call ⟨.value x,as_,ts⟩,ty,pos,af,gd⟩).run P w=.ok (.enter f ((xs.map a.eval).toArray++cap)) w:=by
  have hm:as_.map a.eval=(xs.map a.eval).toArray:=by
   subst hx
   apply Array.ext'
   simp
  have hbn:fn.body.isNone=false:=by simpa using hb'.1
  have hc:∀as:Array Value,(callFunc f as).run P w=.ok (.enter f as) w:=by
   intro as
   simp only[callFunc,program,Sem.run_bind,Sem.run,Sem.run_pure',Result.andThen_ok,hfn]
   rw[if_neg (by simpa using hb'.2),if_neg (by simp[hbn])]
   rfl
  simp only[execOp,resolve,e,Deferred.ofValue,Sem.run_bind,Sem.run_pure,Result.andThen_ok,invoke]
  rw[show (#[]++Array.map (Act.eval a) as_)=(xs.map a.eval).toArray by rw[hm];simp]
  exact hc _
 rw[hrun]
 refine(k ins out hr g.H w _ (FH.le.refl _) hA (iY h (satI_r hi))).mono ?_
 rintro e' w' ⟨v,H',rfl,hk,hv⟩
 exact hK v H' w' hk hv
end
end Go.Proofs.YtmjcpkmongafnaaGreatDoor.Ab
namespace Go.Proofs.YtmjcpkmongafnaaGreatDoor.Ab
open Go Go.RowKit
@[reducible] def rn(a b i:Nat):Nat:=match Nat.beq i a with|true=>b|false=>i
@[reducible] def Ent.ren(a b:Nat):Ent->Ent
 |.d s=>.d s
 |.v i=>.v (rn a b i)
 |.p i o=>.p (rn a b i) o
 |.e i o=>.e (rn a b i) o
 |.f l s=>.f (l.map (rn a b)) s
def Leaf.ren(a b:Nat):Leaf->Leaf
 |.d k x=>.d k x
 |.v i=>.v (rn a b i)
 |.o i=>.o (rn a b i)
def Res.ren(a b:Nat):Res->Res
 |.box i T ls=>.box (rn a b i) T (ls.map (Leaf.ren a b))
 |.row i T d xs=>.row (rn a b i) T d xs
 |.abs i A s=>.abs (rn a b i) A s
@[reducible] def envRen(a b:Nat):Env->Env
 |[]=>[]
 |(k,e)::r=>(k,e.ren a b)::envRen a b r
def G.ren(g:G)(a b:Nat):G:=⟨g.H,fun i=>if i=b then g.nm a else g.nm i⟩
theorem gX{g:G} {a b i:Nat}(h:i≠b):(g.ren a b).nm (rn a b i)=g.nm i:=by
 unfold rn
 cases hb:Nat.beq i a with
 |true=>have:=Nat.eq_of_beq_eq_true hb;subst this;simp[G.ren]
 |false=>simp[G.ren,h]
theorem Ent.ren_ok{e:Ent} {g:G} {v:Value} {a b:Nat}(h:∀i∈e.ids,i≠b)(k:e.ok g v):(e.ren a b).ok (g.ren a b) v:=by
 cases e with
 |d s=>exact k
 |v i=>exact(gX (h i (by simp[Ent.ids]))).trans k
 |p i o=>obtain⟨c,h1,h2⟩:=k;exact⟨c,(gX (h i (by simp[Ent.ids]))).trans h1,h2⟩
 |e i o=>obtain⟨c,n,q,h1,h2⟩:=k;exact⟨c,n,q,(gX (h i (by simp[Ent.ids]))).trans h1,h2⟩
 |f l s=>
  obtain⟨vs,h1,h2⟩:=k
  refine⟨vs,?_,h2⟩
  rw[List.map_map,<-h1]
  exact List.map_congr_left (fun i hi=>gX (h i hi))
theorem jF:∀{ls:List Leaf} {g:G} {cs:List Value} {a b:Nat},(∀i,i∈ls.filterMap Leaf.id->i≠b)->leafs ls g cs->leafs (ls.map (Leaf.ren a b)) (g.ren a b) cs
 |[],_,_,_,_,_,h=>h
 |.d k x::ls,_,_,_,_,hL,⟨c1,c2,e,h1,h2⟩=>⟨c1,c2,e,h1,jF hL h2⟩
 |.v i::ls,_,_,_,_,hL,⟨c1,c2,e,⟨v,h0,h1⟩,h2⟩=>⟨c1,c2,e,⟨v,(gX (hL i (by simp[Leaf.id]))).trans h0,h1⟩,jF (fun j hj=>hL j (by rw[List.filterMap_cons];split;exact hj;exact List.mem_cons_of_mem _ hj)) h2⟩
 |.o i::ls,_,_,_,_,hL,⟨c1,c2,e,h1,h2⟩=>⟨c1,c2,e,h1.imp (fun e=>e) (fun⟨v,h0,h1⟩=>⟨v,(gX (hL i (by simp[Leaf.id]))).trans h0,h1⟩),jF (fun j hj=>hL j (by rw[List.filterMap_cons];split;exact hj;exact List.mem_cons_of_mem _ hj)) h2⟩
theorem Res.ren_ok{r:Res} {g:G} {w:World} {a b:Nat}(h:∀i∈r.ids,i≠b)(k:r.ok g w):(r.ren a b).ok (g.ren a b) w:=by
 cases r with
 |box i T ls=>
  obtain⟨c,cs,e,hh,hl⟩:=k
  exact⟨c,cs,(gX (h i (by simp[Res.ids]))).trans e,hh,jF (fun j hj=>h j (by simp only[Res.ids];exact List.mem_cons_of_mem _ hj)) hl⟩
 |row i T d xs=>
  obtain⟨v,cells,e,ho,hr⟩:=k
  exact⟨v,cells,(gX (h i (by simp[Res.ids]))).trans e,ho,hr⟩
 |abs i A s=>
  obtain⟨bs,e,hp⟩:=k
  exact⟨bs,(gX (h i (by simp[Res.ids]))).trans e,hp⟩
theorem Res.jG{r:Res} {g:G} {a b:Nat}(h:∀i∈r.ids,i≠b):(r.ren a b).block (g.ren a b)=r.block g:=by
 funext x
 cases r with
 |abs i A s=>simp only[Res.block,Res.ren,gX (h i (by simp[Res.ids]))]
 |box i T ls=>simp only[Res.block,Res.ren,gX (h i (by simp[Res.ids]))]
 |row i T d xs=>simp only[Res.block,Res.ren,gX (h i (by simp[Res.ids]))]
theorem nr{a b:Nat}:∀{Γ:Env} {t:Nat},look (envRen a b Γ) t=(look Γ t).map (Ent.ren a b)
 |[],t=>rfl
 |(u,e)::r,t=>by
  show look ((u,e.ren a b)::envRen a b r) t=_
  rw[eD,eD,nr]
  split<;>rfl
section
variable{C:Cx} {Q:Exit->Act->World->Prop} {Γ Γ':Env} {R R':List Res}
theorem St.ren{g:G} {w:World} {ac:Act} {a b:Nat}(hb:memB b (C.pi++used Γ R)=false)(h:St C Γ R g w ac):St C (envRen a b Γ) (R.map (Res.ren a b)) (g.ren a b) w ac:=by
 have hn:∀i∈used Γ R,i≠b:=fun i hi e=>by subst e;rw[memB_iff.2 (List.mem_append_right _ hi)] at hb;cases hb
 have hr:∀r∈R,∀i∈r.ids,i≠b:=fun r hr i hi=>hn i (List.mem_append_right _ (List.mem_flatMap.2 ⟨r,hr,hi⟩))
 have hpi:∀i∈C.pi,i≠b:=fun i hi e=>by subst e;rw[memB_iff.2 (List.mem_append_left _ hi)] at hb;cases hb
 refine⟨h.size,?_,h.keep,fun t e he=>?_,⟨fun r hr'=>?_,fun r hr' k e=>?_,?_⟩,fun i hi=>(if_neg (hpi i hi)).trans (h.pin i hi)⟩
 ·obtain⟨rs,e,hnd,hq⟩:=h.defers
  refine⟨rs,e,hnd,fun q hm=>?_⟩
  obtain⟨h1,h2,h3,h4⟩:=hq q hm
  refine⟨h1,h2,h3,fun s hs e'=>?_⟩
  obtain⟨r0,h0,rfl⟩:=List.mem_map.1 hs
  rw[Res.jG (hr r0 h0)] at e'
  exact h4 r0 h0 e'
 ·rw[nr] at he
  obtain⟨e0,h0,rfl⟩:=Option.map_eq_some_iff.1 he
  exact Ent.ren_ok (fun i hi=>hn i (List.mem_append_left _ (jH (fl h0) hi))) (h.sat t e0 h0)
 ·obtain⟨r0,h0,rfl⟩:=List.mem_map.1 hr'
  exact Res.ren_ok (hr r0 h0) (h.own.ok r0 h0)
 ·obtain⟨r0,h0,rfl⟩:=List.mem_map.1 hr'
  rw[Res.jG (hr r0 h0)] at e
  exact h.own.at_ r0 h0 k e
 ·rw[List.pairwise_map]
  refine List.Pairwise.imp_of_mem ?_ h.own.apart
  intro r s h1 h2 hrs k e
  rw[Res.jG (hr r h1)] at e
  rw[Res.jG (hr s h2)]
  exact hrs k e
theorem pRen{e:Exit}(a b:Nat)(hb:memB b (C.pi++used Γ R)=false)(h:Post C Q e (envRen a b Γ) (R.map (Res.ren a b))):Post C Q e Γ R:=fun g w ac s=>h _ w ac (s.ren hb)
theorem wRen{c:Code}(a b:Nat)(hb:memB b (C.pi++used Γ R)=false)(h:WP C c Q (envRen a b Γ) (R.map (Res.ren a b))):WP C c Q Γ R:=fun g w ac s=>h _ w ac (s.ren hb)
theorem pSub{e:Exit}(hs:Sub Γ' Γ)(h:Post C Q e Γ' R):Post C Q e Γ R:=fun g w a s=>h g w a (s.weak hs)
theorem pDrop{e:Exit}(hs:R'.Sublist R)(h:Post C Q e Γ R'):Post C Q e Γ R:=fun g w a s=>h g w a ⟨s.size,s.defers.same (fun r hr=>hs.subset hr),s.keep,s.sat,s.own.sub hs,s.pin⟩
end
section
variable{rd:Option Nat} {P:Program} {ops:Array Oper} {rest:List Oper} {Γ Γ':Env} {R R':List Res} {es:List En} {d:Nat} {op:Op} {ty:TypeId} {pos:String} {af:Array Edge} {out:Ent} {ins:Env}
theorem cgB{j t:Nat} {b y:Bool}(hb:y=b)(hj:(ops[j]?).bind (·.dst)=some t)(ht:look Γ t=some (.d (kB.sig y)))(h:OkP P ⟨some d,op,ty,pos,af,some (j,b)⟩ ins out)(hs:Sub ins Γ)(k:Chain rd P ops rest ((d,out)::Γ) R es Γ' R'):Chain rd P ops (⟨some d,op,ty,pos,af,some (j,b)⟩::rest) Γ R (⟨.pure,(t,.d (kB.sig b))::ins,out,[],some d,R,R⟩::es) Γ' R':=
 cg hj (by rw[ht,hb]) h hs k
theorem crgB{j t:Nat} {b y:Bool}(hb:y=b)(hj:(ops[j]?).bind (·.dst)=some t)(ht:look Γ t=some (.d (kB.sig y)))(h:Ok P ⟨some d,op,ty,pos,af,some (j,b)⟩ ins R out none R)(hs:Sub ins Γ)(k:Chain rd P ops rest ((d,out)::Γ) R es Γ' R'):Chain rd P ops (⟨some d,op,ty,pos,af,some (j,b)⟩::rest) Γ R (⟨.read,(t,.d (kB.sig b))::ins,out,[],some d,R,R⟩::es) Γ' R':=
 crg hj (by rw[ht,hb]) h hs k
variable{dst:Option Nat} {x y c:Operand} {i ic:Env} {gd:Option (Nat×Bool)}
theorem oPkT{e:Ent} {b:Bool}(hb:b=true)(hc:Opd c (.d (kB.sig b)) ic)(h:Opd x e i):OkP P ⟨dst,.pick c x y,ty,pos,af,gd⟩ (ic++i) e:=by subst hb;exact oPickT hc h
theorem oPkF{e:Ent} {b:Bool}(hb:b=false)(hc:Opd c (.d (kB.sig b)) ic)(h:Opd y e i):OkP P ⟨dst,.pick c x y,ty,pos,af,gd⟩ (ic++i) e:=by subst hb;exact oPickF hc h
theorem tmN{α:Type} {d:Kd α} {t:Nat}:Opd (.tmp t) (.d ((kL d).sig [])) [(t,.d (sV (.slice none 0 0)))]:=fun g a h=>by
 have hv:a.tmps.getD t undef=.slice none 0 0:=h (t,.d (sV (.slice none 0 0))) (List.mem_cons_self ..)
 exact kL_sig.2 ⟨none,0,hv,Nat.le_refl _,by omega,by simp[big],.inl rfl⟩
end
theorem nt{p:Prop}[Decidable p](h:¬p):(!decide p)=true:=by rw[decide_eq_false h];rfl
theorem nf{p:Prop}[Decidable p](h:p):(!decide p)=false:=by rw[decide_eq_true h];rfl
theorem s1{Γ:Env} {t:Nat} {e:Ent}(h:look Γ t=some e):Sub [(t,e)] Γ:=⟨h,trivial⟩
theorem s2{Γ:Env} {t u:Nat} {e f:Ent}(h:look Γ t=some e)(k:look Γ u=some f):Sub [(t,e),(u,f)] Γ:=⟨h,k,trivial⟩
theorem s3{Γ:Env} {t u v:Nat} {e f q:Ent}(h:look Γ t=some e)(k:look Γ u=some f)(l:look Γ v=some q):Sub [(t,e),(u,f),(v,q)] Γ:=⟨h,k,l,trivial⟩
end Go.Proofs.YtmjcpkmongafnaaGreatDoor.Ab
namespace Go.Proofs.YtmjcpkmongafnaaGreatDoor.Ab
open Go Go.RowKit
def Flat(s:Sig):Prop:=∀(H H':FH) (v:Value),s.p H v->s.p H' v
def FlatK{α:Type}(d:Kd α):Prop:=∀(H H':FH) (cs:List Value) (x:α),d.reps H cs x->d.reps H' cs x
theorem fI{k:IntKind}:FlatK (kI k):=fun _ _ _ _ h=>h
theorem fB:FlatK kB:=fun _ _ _ _ h=>h
theorem fK{α:Type} {d:Kd α}(h:FlatK d){x:α}:Flat (d.sig x):=fun H H' v ⟨cs,hr,e⟩=>⟨cs,h H H' cs x hr,e⟩
section
variable{P:Program} {x y z:Operand} {i j k3:Env} {dst:Option Nat} {T T' ty:TypeId} {pos:String} {af:Array Edge} {gd:Option (Nat×Bool)} {R:List Res}
def OpdR(R:List Res)(x:Operand)(s:Sig)(i:Env):Prop:=∀(X:Nat->Prop) (B:Nat) (g:G) (w:World) (a:Act),Agree g.H w->SatI i g a->Own X B g w R->s.p (fun b=>w.heap[b]?) (a.eval x)
theorem rD{s:Sig}(h:Opd x (.d s) i):OpdR R x s i:=fun X B g w a hA hi _=>s.mono (fun b o e=>hA b o e) (h g a hi)
theorem rR{α:Type} {d:Kd α} {xs:List α} {n id t:Nat} {E:TypeId}(hr:R[n]?=some (.row id E d xs)):OpdR R (.tmp t) ((kL d).sig xs) [(t,.v id)]:=fun X B g w a hA hi ho=>by
 obtain⟨v,cells,hv,hrow,hro,hbig⟩:=ho.get hr
 have ex:g.nm id=some (a.tmps.getD t undef):=hi (t,.v id) (List.mem_cons_self ..)
 rw[hv] at ex
 cases ex
 show ((kL d).sig xs).p _ (a.tmps.getD t undef)
 generalize a.tmps.getD t undef=v at*
 rcases hrow.2 with ⟨rfl,hn⟩|⟨b,cap,cur,rfl,_,hb,hnc,hcm,hcs,htk⟩
 ·obtain rfl:=List.eq_nil_of_length_eq_zero hn
  exact kL_sig.2 ⟨none,0,rfl,Nat.le_refl _,by omega,hbig,.inl rfl⟩
 ·refine kL_sig.2 ⟨some ⟨b,0,none⟩,cap,rfl,hnc,by unfold maxLen at hcm;omega,hbig,.inr ⟨b,0,cur,E,(0,0),rfl,hb,?_⟩⟩
  rw[List.drop_zero,htk]
  exact hro.mono (fun b o e=>hA b o e)
def OpdsR(R:List Res):List Operand->List Sig->Env->Prop
 |[],[],i=>i=[]
 |x::xs,s::ss,i=>∃a b,i=a++b/\OpdR R x s a/\OpdsR R xs ss b
 |_,_,_=>False
theorem rn0:OpdsR R [] [] []:=rfl
theorem rc1{xs:List Operand} {s:Sig} {ss:List Sig} {a b:Env}(h:OpdR R x s a)(k:OpdsR R xs ss b):OpdsR R (x::xs) (s::ss) (a++b):=⟨a,b,rfl,h,k⟩
theorem lG{X:Nat->Prop} {B:Nat} {w:World} {g:G} {a:Act}(hA:Agree g.H w)(ho:Own X B g w R):∀{xs:List Operand} {ss:List Sig} {i:Env},OpdsR R xs ss i->SatI i g a->Sats ss (fun b=>w.heap[b]?) (xs.map a.eval)
 |[],[],_,_,_=>rfl
 |x::xs,s::ss,i,⟨p,q,e,h,k⟩,hi=>by
  subst e
  exact⟨a.eval x,xs.map a.eval,rfl,h X B g w a hA (satI_l hi) ho,lG hA ho k (satI_r hi)⟩
theorem oCallB{f:FuncId} {xs:List Operand} {as_:Array Operand} {ts:Array TypeId} {ins:List Sig} {out:Sig}(hx:as_.toList=xs)(hf:FnA P f ins out)(hfl:Flat out)(hb:bodied P f)(h:OpdsR R xs ins i):Ok P ⟨dst,.call ⟨.value (.func f),as_,ts⟩,ty,pos,af,gd⟩ i R (.d out) none R:=by
 intro X H0 w0 g w a K Q hk hi ho hn hK
 obtain⟨fn,hfn,hb'⟩:=Option.map_eq_some_iff.1 hb
 simp only[Bool.and_eq_true,Bool.not_eq_true',beq_eq_false_iff_ne,ne_eq] at hb'
 unfold Oper.wp
 have hr:(execOp a.eval ⟨dst,.call ⟨.value (.func f),as_,ts⟩,ty,pos,af,gd⟩).run P w=.ok (.enter f (xs.map a.eval).toArray) w:=by
  have hm:as_.map a.eval=(xs.map a.eval).toArray:=by
   subst hx
   apply Array.ext'
   simp
  have hbn:fn.body.isNone=false:=by simpa using hb'.1
  have hc:(callFunc f (xs.map a.eval).toArray).run P w=.ok (.enter f (xs.map a.eval).toArray) w:=by
   simp only[callFunc,program,Sem.run_bind,Sem.run,Sem.run_pure',Result.andThen_ok,hfn]
   rw[if_neg (by simpa using hb'.2),if_neg (by simp[hbn])]
   rfl
  simp only[execOp,resolve,Act.eval,Deferred.ofValue,Sem.run_bind,Sem.run_pure,Result.andThen_ok,invoke]
  rw[show (#[]++Array.map (Act.eval a) as_)++ #[]=(xs.map a.eval).toArray by simp[hm]]
  exact hc
 rw[hr]
 refine(hf (fun b=>w.heap[b]?) w _ ⟨hk.agree.base.mono (fun b o e=>hk.agree b o e),fun b o e=>e⟩ (lG hk.agree ho h hi)).mono ?_
 rintro e w' ⟨v,H',rfl,hk',hv⟩
 have hk2:Keep No g.H w g.H w':=⟨hk'.os,hk'.tape,hk'.output,hk'.size,hk'.block,fun _ _ _=>rfl,⟨hk.agree.base,fun b o e=>(hk'.block b (hk.agree.lt e) (fun x=>x)).trans (hk.agree b o e)⟩⟩
 exact hK v g w' (hk.step hk2 (fun i hi=>hi.elim)) (G.le.refl g) (fun i e _=>e) (hfl _ _ _ hv) (ho.keep (G.le.refl g) hk2)
def kN(α:Type):Kd (List α):=⟨1,false,fun _ cs x=>cs=[.slice none 0 0]/\x=[],fun _ h=>h,fun h=>by rw[h.1];rfl,fun h c hc=>by rw[h.1] at hc;simp at hc;subst hc;rfl,fun _=>rfl⟩
theorem zN{α:Type}(H:FH):(kN α).reps H [.slice none 0 0] []:=⟨rfl,rfl⟩
end
section
variable{C:Cx} {Q:Exit->Act->World->Prop} {Γ Γ':Env} {R R':List Res}
theorem lH:∀{ls:List Leaf} {g:G} {cs:List Value} {k:Nat} {l l':Leaf},ls[k]?=some l->(∀cs,l.ok g cs->l'.ok g cs)->leafs ls g cs->leafs (ls.set k l') g cs
 |[],_,_,_,_,_,h,_,_=>by simp at h
 |l0::ls,g,cs,0,l,l',h,hl,⟨c1,c2,e,h1,h2⟩=>by simp at h;subst h;exact⟨c1,c2,e,hl c1 h1,h2⟩
 |l0::ls,g,cs,k+1,l,l',h,hl,⟨c1,c2,e,h1,h2⟩=>⟨c1,c2,e,h1,lH (k:=k) (by simpa using h) hl h2⟩
theorem Own.swap{X:Nat->Prop} {B:Nat} {g:G} {w:World} {n:Nat} {id:Nat} {T:TypeId} {ls:List Leaf} {k:Nat} {l l':Leaf}(h:Own X B g w R)(hr:R[n]?=some (.box id T ls))(hk:ls[k]?=some l)(hl:∀cs,l.ok g cs->l'.ok g cs):Own X B g w (R.set n (.box id T (ls.set k l'))):=by
 obtain⟨b,cs,hb,hh,hlf⟩:=h.get hr
 have hblk:(Res.box id T ls).block g b:=by simp only[Res.block,hb]
 refine h.put hr (G.le.refl g) (Nat.le_refl _) (fun _ _ _ _=>rfl) (fun _ _ e _=>e) ⟨b,cs,hb,hh,lH hk hl hlf⟩ ?_
 intro b' e
 have:b'=b:=by simp only[Res.block,hb,Option.some.injEq] at e;exact e.symm
 subst this
 obtain⟨h1,h2,h3⟩:=h.at_ _ (List.mem_of_getElem? hr) b' hblk
 exact⟨h1,h2,h3,.inl hblk⟩
theorem dfr_swap{D:List Deferred} {B:Nat} {g:G} {w:World} {n:Nat} {id:Nat} {T:TypeId} {ls ls':List Leaf} {ds:List Deferred}(hD:Dfr D B g w R ds)(hr:R[n]?=some (.box id T ls)):Dfr D B g w (R.set n (.box id T ls')) ds:=by
 obtain⟨rs,e,hnd,hq⟩:=hD
 refine⟨rs,e,hnd,fun q hm=>?_⟩
 obtain⟨h1,h2,h3,h4⟩:=hq q hm
 refine⟨h1,h2,h3,fun s hs e'=>?_⟩
 rcases List.mem_or_eq_of_mem_set hs with hs|rfl
 ·exact h4 s hs e'
 ·exact h4 _ (List.mem_of_getElem? hr) e'
theorem wNilL{α:Type}(d:Kd α)(E:TypeId)(id:Nat){c:Code} {n k bid:Nat} {T:TypeId} {ls:List Leaf} {u:List α}(hr:R[n]?=some (.box bid T ls))(hk:ls[k]?=some (.d (kN α) u))(hf:memB id (C.pi++used Γ R)=false)(h:WP C c Q Γ (.row id E d u::R.set n (.box bid T (ls.set k (.v id))))):WP C c Q Γ R:=by
 intro g w a s
 have s':=s.only
 have hid:(g.only (C.pi++used Γ R)).nm id=none:=iF (fun hm=>by rw[memB_iff.2 hm] at hf;cases hf)
 have hle:G.le (g.only (C.pi++used Γ R)) ((g.only (C.pi++used Γ R)).name id (.slice none 0 0)):=gY hid
 have ho:=s'.own.mono hle (Nat.le_refl _) (fun _ _ _=>rfl) (fun _ _ e=>e)
 obtain⟨b,cs,hb,hh,hlf⟩:=s'.own.get hr
 have hu:u=[]:=(jr hk hlf).2
 subst hu
 have ho2:=ho.swap (l':=.v id) hr hk (fun cs hc=>⟨.slice none 0 0,dQ ..,hc.1,rfl⟩)
 refine h ((g.only (C.pi++used Γ R)).name id (.slice none 0 0)) w a ⟨s.size,dfr_swap (n:=n+1) (R:=.row id E d []::R) (nu s'.own s'.defers hle (fun b e=>by simp only[Res.block,dQ,Option.bind_some] at e;cases e)) hr,s'.keep,s'.sat.mono hle,?_,fun i hi=>nv s' hid hi (fun hm=>by rw[memB_iff.2 (List.mem_append_left _ hm)] at hf;cases hf)⟩
 refine Own.add ho2 ⟨.slice none 0 0,[],dQ ..,⟨by simp,.inl ⟨rfl,rfl⟩⟩,⟨by simp,by simp⟩,by simp⟩ ?_
 intro b e
 simp only[Res.block,dQ,Option.bind_some] at e
 cases e
end
end Go.Proofs.YtmjcpkmongafnaaGreatDoor.Ab
namespace Go.Proofs.YtmjcpkmongafnaaGreatDoor.Ab
open Go Go.RowKit
def rl1{α ρ:Type}(d:Kd α)(e:Kd ρ)(f:α->Option ρ):List Sig->Sig->Prop:=fun ins out=>∃a r,f a=some r/\ins=[d.sig a]/\out=e.sig r
def rl2{α β ρ:Type}(d:Kd α)(d2:Kd β)(e:Kd ρ)(f:α->β->Option ρ):List Sig->Sig->Prop:=fun ins out=>∃a b r,f a b=some r/\ins=[d.sig a,d2.sig b]/\out=e.sig r
theorem rl1i{α ρ:Type} {d:Kd α} {e:Kd ρ} {f:α->Option ρ} {a:α} {r:ρ}(h:f a=some r):rl1 d e f [d.sig a] (e.sig r):=⟨a,r,h,rfl,rfl⟩
theorem rl2i{α β ρ:Type} {d:Kd α} {d2:Kd β} {e:Kd ρ} {f:α->β->Option ρ} {a:α} {b:β} {r:ρ}(h:f a b=some r):rl2 d d2 e f [d.sig a,d2.sig b] (e.sig r):=⟨a,b,r,h,rfl,rfl⟩
theorem rl1e{α ρ:Type} {P:Program} {n:Nat} {caps:List Sig} {d:Kd α} {e:Kd ρ} {f:α->Option ρ}(k:∀{a:α} {r:ρ},f a=some r->FnA P n ([d.sig a]++caps) (e.sig r)):∀ins out,rl1 d e f ins out->FnA P n (ins++caps) out:=by
 rintro ins out ⟨a,r,h,rfl,rfl⟩;exact k h
theorem rl2e{α β ρ:Type} {P:Program} {n:Nat} {caps:List Sig} {d:Kd α} {d2:Kd β} {e:Kd ρ} {f:α->β->Option ρ}(k:∀{a:α} {b:β} {r:ρ},f a b=some r->FnA P n ([d.sig a,d2.sig b]++caps) (e.sig r)):∀ins out,rl2 d d2 e f ins out->FnA P n (ins++caps) out:=by
 rintro ins out ⟨a,b,r,h,rfl,rfl⟩;exact k h
theorem rl1n{α ρ:Type} {P:Program} {n:Nat} {d:Kd α} {e:Kd ρ} {f:α->Option ρ}(k:∀{a:α} {r:ρ},f a=some r->FnA P n [d.sig a] (e.sig r)):∀ins out,rl1 d e f ins out->FnA P n ins out:=by
 rintro ins out ⟨a,r,h,rfl,rfl⟩;exact k h
theorem rl2n{α β ρ:Type} {P:Program} {n:Nat} {d:Kd α} {d2:Kd β} {e:Kd ρ} {f:α->β->Option ρ}(k:∀{a:α} {b:β} {r:ρ},f a b=some r->FnA P n [d.sig a,d2.sig b] (e.sig r)):∀ins out,rl2 d d2 e f ins out->FnA P n ins out:=by
 rintro ins out ⟨a,b,r,h,rfl,rfl⟩;exact k h
end Go.Proofs.YtmjcpkmongafnaaGreatDoor.Ab
namespace Go.Proofs.YtmjcpkmongafnaaGreatDoor.Ab
open Go Go.RowKit
def sClo(f:FuncId)(caps:List Sig):Sig:=⟨fun H v=>∃cs:List Value,v=.func (.func f) #[] cs.toArray/\Sats caps H cs,fun h ⟨cs,e,k⟩=>⟨cs,e,iZ h k⟩⟩
section
variable{P:Program} {x y:Operand} {i j:Env} {dst:Option Nat} {ty:TypeId} {pos:String} {af:Array Edge} {gd:Option (Nat×Bool)} {R:List Res}
theorem oMkC{f:FuncId} {xs:List Operand} {cs:Array Operand} {caps:List Sig}(hx:cs.toList=xs)(h:Opds xs caps i):OkP P ⟨dst,.makeFunc (.func f) #[] cs,ty,pos,af,gd⟩ i (.d (sClo f caps)):=okV fun g w a hA hi=>by
 refine⟨.func (.func f) #[] (cs.map a.eval),by simp[execOp,Instr.makeFunc],xs.map a.eval,?_,iY h hi⟩
 subst hx
 congr 1
 apply Array.ext'
 simp
end
def Free(H:FH)(w:World)(bs:List Nat):Prop:=∀b∈bs,H b=none/\b<w.heap.size
def Turn{σ:Type}(A:Abs σ)(s':σ)(H:FH)(w:World)(bs:List Nat)(H':FH)(w':World):Prop:=
 ∃bs',Keep (fun b=>b∈bs) H w H' w'/\A.p s' H' w' bs'/\∀b∈bs',H' b=none/\b<w'.heap.size/\(b∈bs\/w.heap.size<=b)
def YieldP{σ α β:Type}(P:Program)(A:Abs σ)(y:σ->α->β->Option (Bool×σ))(sa:α->Sig)(sb:β->Sig)(l:Nat)(H:FH):Prop:=
 ∀s a b r s',y s a b=some (r,s')->∀H1 w bs va vb,FH.le H H1->Agree H1 w->A.p s H1 w bs->Free H1 w bs->(sa a).p H1 va->(sb b).p H1 vb->
  ∃fn tmps assign body,(Instr.yield l #[va,vb]).run P w=.ok (.round l fn tmps assign body) w/\
   RoundIn (FR none) 0 P l fn tmps assign body w (fun e w'=>∃H',e=.returned (.bool r)/\Turn A s' H1 w bs H' w')
def sYield{σ α β:Type}(P:Program)(A:Abs σ)(y:σ->α->β->Option (Bool×σ))(sa:α->Sig)(sb:β->Sig):Sig:=
 ⟨fun H v=>∃l,v=.func (.yield l) #[] #[]/\YieldP P A y sa sb l H,fun h ⟨l,e,k⟩=>⟨l,e,fun s a b r s' hy H1 w bs va vb hl=>k s a b r s' hy H1 w bs va vb (h.trans hl)⟩⟩
def FnY{α β:Type}(P:Program)(f:FuncId)(sa:α->Sig)(sb:β->Sig)(caps:List Sig)(F:{σ:Type}->(σ->α->β->Option (Bool×σ))->σ->Option σ):Prop:=
 ∀(σ:Type) (A:Abs σ) (y:σ->α->β->Option (Bool×σ)) (s s':σ),F y s=some s'->∀(H:FH) (w:World) (bs:List Nat) (args:List Value),
  Agree H w->Sats (sYield P A y sa sb::caps) H args->A.p s H w bs->Free H w bs->
  Calls P f args.toArray w (fun e w'=>∃v H',e=.returned v/\Turn A s' H w bs H' w')
def RetY{σ:Type}(A:Abs σ)(s':σ)(H:FH)(w:World)(bs:List Nat):Ending->World->Prop:=fun e w'=>∃v H',e=.returned v/\Turn A s' H w bs H' w'
theorem oYield{σ α β:Type} {P:Program} {A:Abs σ} {yf:σ->α->β->Option (Bool×σ)} {sa:α->Sig} {sb:β->Sig} {s s':σ} {a0:α} {b0:β} {r:Bool} {x y z:Operand} {ix iy iz:Env} {n id id':Nat} {dst:Option Nat} {ts:Array TypeId} {ty:TypeId} {pos:String} {af:Array Edge} {gd:Option (Nat×Bool)} {R:List Res} {rd:Option Nat}
  (hr:R[n]?=some (.abs id A s)) (hy:yf s a0 b0=some (r,s')) (h:Opd x (.d (sYield P A yf sa sb)) ix) (h1:Opd y (.d (sa a0)) iy) (h2:Opd z (.d (sb b0)) iz):
  OkL rd P ⟨dst,.call ⟨.value x,#[y,z],ts⟩,ty,pos,af,gd⟩ (ix++(iy++iz)) R (.d (kB.sig r)) [id'] (R.set n (.abs id' A s')):=by
 intro X H0 w0 g w a K Q hk hi ho hn hK
 obtain⟨l,e,hY⟩:=h g a (satI_l hi)
 have e1:=h1 g a (satI_l (satI_r hi))
 have e2:=h2 g a (satI_r (satI_r hi))
 obtain⟨bs,hbs,hp⟩:=ho.get hr
 have hat:=ho.at_ _ (List.mem_of_getElem? hr)
 have hblk:∀b∈bs,(Res.abs id A s).block g b:=fun b hb=>⟨bs,hbs,hb⟩
 obtain⟨fn,tmps,assign,body,hrun,hround⟩:=hY s a0 b0 r s' hy g.H w bs _ _ (FH.le.refl _) hk.agree hp (fun b hb=>⟨(hat b (hblk b hb)).1,(hat b (hblk b hb)).2.1⟩) e1 e2
 refine⟨fun _ _=>trivial,?_⟩
 rw[Oper.semAt_eq _ _ _ (fun c hc=>by cases hc)]
 rw[show (execOp a.eval ⟨dst,.call ⟨.value x,#[y,z],ts⟩,ty,pos,af,gd⟩).run P w=.ok (.round l fn tmps assign body) w by
  simp only[execOp,resolve,e,Deferred.ofValue,Sem.run_bind,Sem.run_pure,Result.andThen_ok,invoke,List.map_toArray,List.map_cons,List.map_nil]
  simpa using hrun]
 refine⟨fun he=>by simp[FR,Fence.wide] at he,RoundIn.mono (F:=FR rd) hround ?_⟩
 rintro e' w' ⟨H',rfl,bs',k,hp',hf'⟩
 have hid:=hn id' (List.mem_singleton.2 rfl)
 have hle:G.le g ⟨H',(g.name id' (encB bs')).nm⟩:=⟨k.le hk.agree,(gY hid).2⟩
 refine hK (.bool r) ⟨H',(g.name id' (encB bs')).nm⟩ w' (hk.step k (fun b hb=>(hat b (hblk b hb)).2.2)) hle (fun j e hj=>?_) (kB_sig.2 rfl) ?_
 ·show (g.name id' (encB bs')).nm j=none
  rw[io (fun hji=>hj (by rw[hji];exact List.mem_singleton.2 rfl))];exact e
 ·refine ho.put hr hle k.size (fun b hb hH hne=>k.block b hb (fun hm=>hne (hblk b hm))) (fun b hb hH hne=>(k.old b hb (fun hm=>absurd (hblk b hm) hne)).trans hH) ⟨bs',dQ ..,hp'⟩ ?_
  ·rintro b ⟨bs2,e2,hb2⟩
   have:bs2=bs':=by
    have h':=dQ g id' (encB bs')
    have e2':(g.name id' (encB bs')).nm id'=some (encB bs2):=e2
    rw[h'] at e2'
    exact(encB_inj (Option.some.inj e2')).symm
   subst this
   obtain⟨q1,q2,q3⟩:=hf' b hb2
   refine⟨q1,q2,?_,?_⟩
   ·rcases q3 with q3|q3
    ·exact(hat b (hblk b q3)).2.2
    ·exact .inr (Nat.le_trans hk.size q3)
   ·rcases q3 with q3|q3
    ·exact .inl (hblk b q3)
    ·exact .inr q3
theorem fnIntroY{α β:Type} {P:Program} {f:FuncId} {fn:Func} {c:Code} {sa:α->Sig} {sb:β->Sig} {caps:List Sig} {F:{σ:Type}->(σ->α->β->Option (Bool×σ))->σ->Option σ}(id:Nat)
  (hf:P.funcs[f]?=some fn) (hb:fn.body=some c) (hN':Nat.ble (caps.length+1) fn.ntmps=true)
  (h:∀(σ:Type) (A:Abs σ) (y:σ->α->β->Option (Bool×σ)) (s s':σ),F y s=some s'->∀bs H0 w0,
   WP ⟨P,fn.ntmps,fun b=>b∈bs,H0,w0,none,[],fun _=>none,[]⟩ c (BP ⟨P,fn.ntmps,fun b=>b∈bs,H0,w0,none,[],fun _=>none,[]⟩ fn (RetY A s' H0 w0 bs)) (paramsAt 0 (sYield P A y sa sb::caps)) [.abs id A s]):FnY P f sa sb caps F:=by
 have hN:=Nat.le_of_ble_eq_true hN'
 intro σ A y s s' hF H w bs args hA hs hp hfr
 have hblk:∀b,(Res.abs id A s).block ⟨H,fun j=>if j=id then some (encB bs) else none⟩ b->b∈bs:=by
  rintro b ⟨bs2,e2,hm⟩
  have e2':some (encB bs)=some (encB bs2):=by simpa using e2
  rw[encB_inj (Option.some.inj e2')];exact hm
 refine fnEnter (g:=⟨H,fun j=>if j=id then some (encB bs) else none⟩) hf hb rfl rfl (h σ A y s s' hF bs H w) ⟨?_,⟨[],rfl,List.nodup_nil,fun r hr=>by cases hr⟩,Keep.refl hA,?_,⟨fun r hr=>?_,fun r hr b e=>?_,by simp⟩,fun i hi=>by cases hi⟩
 ·have:=iB hs
  simp at this hN⊢
  omega
 ·intro t e hts
  have:=mh hs 0 [] (List.replicate (fn.ntmps-args.length) undef) rfl t e hts
  have h2:e.ok ⟨H,fun j=>if j=id then some (encB bs) else none⟩ (([]++args++List.replicate (fn.ntmps-args.length) undef).getD t undef):=Ent.mono (g:=⟨H,fun _=>none⟩) ⟨FH.le.refl _,fun _ _ e=>by cases e⟩ this
  simpa [Array.getD_eq_getD_getElem?,List.getD_eq_getElem?_getD,<-Array.getElem?_toList] using h2
 ·obtain rfl:=List.mem_singleton.1 hr
  exact⟨bs,by simp,hp⟩
 ·obtain rfl:=List.mem_singleton.1 hr
  obtain⟨q1,q2⟩:=hfr b (hblk b e)
  exact⟨q1,q2,.inl (hblk b e)⟩
theorem pRY{σ:Type} {A:Abs σ} {s':σ} {C:Cx} {bs:List Nat} {fn:Func} {e:Exit} {Γ:Env} {R:List Res} {n id:Nat}(he:e=.ret\/e=.normal)(hX:C.X=fun b=>b∈bs)(hr:fn.results.toList=[])(hR:R[n]?=some (.abs id A s'))(hrd:C.rd=none:=by rfl)(hds:C.ds=[]:=by rfl):Post C (BP C fn (RetY A s' C.H0 C.w0 bs)) e Γ R:=by
 refine pLeave he (fun g w tm s=>?_) hrd hds
 have hr':fn.results= #[]:=by apply Array.ext';simpa using hr
 obtain⟨bs',hbs,hp⟩:=s.own.get hR
 refine⟨.tuple #[],by simp[results,hr'],_,g.H,rfl,bs',hX▸s.keep,hp,fun b hb=>?_⟩
 obtain⟨q1,q2,q3⟩:=s.own.at_ _ (List.mem_of_getElem? hR) b ⟨bs',hbs,hb⟩
 rw[hX] at q3
 exact⟨q1,q2,q3⟩
end Go.Proofs.YtmjcpkmongafnaaGreatDoor.Ab
namespace Go.Proofs.YtmjcpkmongafnaaGreatDoor.Ab
open Go Go.RowKit
theorem Ent.move{e:Ent} {g g1:G} {v:Value}(k:e.ok g v)(hH:FH.le g.H g1.H)(hn:∀i∈e.ids,g1.nm i=g.nm i):e.ok g1 v:=by
 cases e with
 |d s=>exact s.mono hH k
 |v i=>exact(hn i (by simp[Ent.ids])).trans k
 |p i o=>obtain⟨b,h1,h2⟩:=k;exact⟨b,(hn i (by simp[Ent.ids])).trans h1,h2⟩
 |e i o=>obtain⟨b,n,c,h1,h2⟩:=k;exact⟨b,n,c,(hn i (by simp[Ent.ids])).trans h1,h2⟩
 |f ids s=>obtain⟨vs,h1,h2⟩:=k;exact⟨vs,(List.map_congr_left hn).trans h1,s.mono hH h2⟩
theorem iV{X:Nat->Prop} {H0 H:FH} {w0 w:World} {l:Nat}(o:Obj)(h:Keep X H0 w0 H w)(hl:X l\/w0.heap.size<=l)(hH:H l=none):Keep X H0 w0 H (w.putObj l o):=
 h.step (Y:=fun i=>i=l) ⟨rfl,rfl,rfl,Nat.le_of_eq World.putObj_size.symm,fun b hb hx=>World.putObj_heap_other hx,fun _ _ _=>rfl,⟨h.agree.base,fun b o' e=>(World.putObj_heap_other (fun e'=>by subst e';rw[hH] at e;cases e)).trans (h.agree b o' e)⟩⟩ (fun i hi=>by subst hi;exact hl)
theorem oJ{g:G} {w:World} {r:Res}(h:r.ok g w):∃bs:List Nat,∀b,b∈bs↔r.block g b:=by
 cases r with
 |box i T ls=>
  obtain⟨b,cs,e,_⟩:=h
  exact⟨[b],fun c=>by simp[Res.block,e,eq_comm]⟩
 |row i T d xs=>
  obtain⟨v,cells,e,_⟩:=h
  refine⟨v.ownBlock.toList,fun c=>?_⟩
  simp only[Res.block,e,Option.bind_some,Option.mem_toList,Option.mem_def]
 |abs i A s=>
  obtain⟨bs,e,_⟩:=h
  refine⟨bs,fun c=>⟨fun hc=>⟨bs,e,hc⟩,?_⟩⟩
  rintro⟨bs2,e2,hc⟩
  rw[e] at e2
  rw[encB_inj (Option.some.inj e2)];exact hc
theorem jf{g:G} {w:World}:∀{R:List Res},(∀r∈R,r.ok g w)->∃bs:List Nat,∀b,b∈bs↔∃r∈R,r.block g b
 |[],_=>⟨[],by simp⟩
 |r::R,h=>by
  obtain⟨b1,h1⟩:=oJ (h r (List.mem_cons_self ..))
  obtain⟨b2,h2⟩:=jf (fun s hs=>h s (List.mem_cons_of_mem _ hs))
  exact⟨b1++b2,fun b=>by simp[h1,h2]⟩
def jOf(js:List Code):Nat->Option Code
 |0=>none
 |j+1=>js[j]?
def yOf{τ α β:Type}(yb:τ->α->β->Option (Bool×(τ×Nat))):τ×Nat->α->β->Option (Bool×(τ×Nat)):=fun s a b=>match s.2 with|0=>yb s.1 a b|_+1=>none
def RB{τ:Type}(C:Cx)(Rs:τ->List Res)(js:List Code)(o:Bool×(τ×Nat)):Exit->Act->World->Prop
 |.normal,a,w=>(o.1=true/\o.2.2=0)/\∃g,St C [] (Rs o.2.1) g w a
 |.ret,a,w=>(o.1=false/\o.2.2≠0/\jOf js o.2.2=some .ret)/\∃g,St C [] (Rs o.2.1) g w a
 |.exit i,a,w=>(o.1=false/\o.2.2≠0/\jOf js o.2.2=some (.exit i))/\∃g,St C [] (Rs o.2.1) g w a
 |_,_,_=>False
def QA(C:Cx)(Γ:Env)(R:List Res):Exit->Act->World->Prop
 |.normal,a,w=>∃g,St C Γ R g w a
 |_,_,_=>False
section
variable{C:Cx} {Γ Γ':Env} {R:List Res}
theorem qA(hs:Sub Γ' Γ):Post C (QA C Γ' R) .normal Γ R:=fun g w a s=>⟨g,s.weak hs⟩
theorem subNil:Sub [] Γ:=trivial
theorem qN{τ:Type} {Rs:τ->List Res} {js:List Code} {t:τ}:Post C (RB C Rs js (true,t,0)) .normal Γ (Rs t):=fun g w a s=>⟨⟨rfl,rfl⟩,g,s.weak subNil⟩
theorem qR{τ:Type} {Rs:τ->List Res} {js:List Code} {t:τ} {j:Nat}(hj:js[j]?=some .ret):Post C (RB C Rs js (false,t,j+1)) .ret Γ (Rs t):=fun g w a s=>⟨⟨rfl,by simp,hj⟩,g,s.weak subNil⟩
end
def recOf(rec:Loop)(js:List Code)(j:Nat):Loop:={rec with state:=(match j with|0=>.ready|_+1=>.done),pending:=jOf js j}
def RAp{τ:Type}(Rs:τ->List Res)(js:List Code)(pi:List Nat)(pv:Nat->Option Value)(l:Nat)(rec:Loop)(s:τ×Nat)(H:FH)(w:World)(bs:List Nat):Prop:=
 (∃g:G,g.H=H/\(∀i∈pi,g.nm i=pv i)/\(∀r∈Rs s.1,r.ok g w)/\((Rs s.1).Pairwise fun r s=>∀b,r.block g b->¬s.block g b)/\∀r∈Rs s.1,∀b,r.block g b->b∈bs/\b≠l)/\
  l∈bs/\w.heap[l]?=some (.loop (recOf rec js s.2))
def rAbs{τ:Type}(Rs:τ->List Res)(js:List Code)(pi:List Nat)(pv:Nat->Option Value)(l:Nat)(rec:Loop):Abs (τ×Nat) where
 p:=RAp Rs js pi pv l rec
 mono:=by
  rintro s H H' w w' bs hle hsz hb ⟨⟨g,rfl,h1,h2,h3,h4⟩,hl,hr⟩
  have hgl:G.le g ⟨H',g.nm⟩:=⟨hle,fun _ _ e=>e⟩
  refine⟨⟨⟨H',g.nm⟩,rfl,h1,fun r hm=>Res.gr hgl hsz (fun b e=>hb b (h4 r hm b e).1) (h2 r hm),?_,fun r hm b e=>?_⟩,hl,(hb l hl).trans hr⟩
  ·refine List.Pairwise.imp_of_mem ?_ h3
   intro r s hr hs k b e
   rw[Res.du hgl (h2 r hr)] at e
   rw[Res.du hgl (h2 s hs)]
   exact k b e
  ·rw[Res.du hgl (h2 r hm)] at e
   exact h4 r hm b e
theorem nw{τ α β:Type} {P:Program} {N:Nat} {Rs:τ->List Res} {Rs2:τ->α->β->List Res} {js:List Code} {pi:List Nat} {pv:Nat->Option Value} {l:Nat} {rec:Loop} {yb:τ->α->β->Option (Bool×(τ×Nat))} {sa:α->Sig} {sb:β->Sig}
  {p1 p2:Nat} {Γ:Env} {Γ2:α->β->Env} {g0:G} (hps:rec.params= #[p1,p2]) (hne:p1≠p2) (hp1:p1<N) (hp2:p2<N) (hN:rec.tmps.size=N)
  (hsat:∀t e,look Γ t=some e->e.ok g0 (rec.tmps.getD t undef)) (hids:∀t e,look Γ t=some e->∀i∈e.ids,i∈pi) (hpv:∀i∈pi,g0.nm i=pv i)
  (hA:∀X H0 w0 t a b,WP ⟨P,N,X,H0,w0,some l,pi,pv,[]⟩ rec.assign (QA ⟨P,N,X,H0,w0,some l,pi,pv,[]⟩ (Γ2 a b) (Rs2 t a b)) ((p1,.d (sa a))::(p2,.d (sb b))::Γ) (Rs t))
  (hB:∀X H0 w0 t a b o,yb t a b=some o->WP ⟨P,N,X,H0,w0,some l,pi,pv,[]⟩ rec.body (RB ⟨P,N,X,H0,w0,some l,pi,pv,[]⟩ Rs js o) (Γ2 a b) (Rs2 t a b)):
  YieldP P (rAbs Rs js pi pv l rec) (yOf yb) sa sb l g0.H:=by
 rintro⟨t,j⟩ a b r ⟨t',j'⟩ hy H1 w bs va vb hle hAg ⟨⟨g,rfl,h1,h2,h3,h4⟩,hl,hrec⟩ hfr hva hvb
 cases j with
 |succ j=>cases hy
 |zero=>
 have hy:yb t a b=some (r,t',j'):=hy
 refine⟨_,_,_,_,run_yield hrec (by simp[recOf,hps]),roundIn_of_wpIn (F:=FR none) trivial ?_⟩
 have hlt:l<w.heap.size:=(hfr l hl).2
 have hHl:g.H l=none:=(hfr l hl).1
 let C1:Cx:=⟨P,N,fun b=>b∈bs/\b≠l,g.H,w,some l,pi,pv,[]⟩
 have s1:St C1 ((p1,.d (sa a))::(p2,.d (sb b))::Γ) (Rs t) g w ⟨(((recOf rec js 0).params.zip #[va,vb]).foldl (fun tmps (t,a)=>tmps.setIfInBounds t a) (recOf rec js 0).tmps),[]⟩:=by
  refine⟨?_,⟨[],rfl,List.nodup_nil,fun r hr=>by cases hr⟩,Keep.refl hAg,?_,⟨h2,fun r hr b e=>?_,h3⟩,h1⟩
  ·simp[recOf,hps,hN,C1]
  ·intro u e he
   have hg:(((recOf rec js 0).params.zip #[va,vb]).foldl (fun tmps (x:Nat×Value)=>tmps.setIfInBounds x.1 x.2) (recOf rec js 0).tmps).getD u undef=if p2=u then vb else if p1=u then va else rec.tmps.getD u undef:=by
    have hz:((recOf rec js 0).params.zip #[va,vb]).foldl (fun tmps (x:Nat×Value)=>tmps.setIfInBounds x.1 x.2) (recOf rec js 0).tmps=(rec.tmps.setIfInBounds p1 va).setIfInBounds p2 vb:=by
     rw[<-Array.foldl_toList,Array.toList_zip,show (recOf rec js 0).params= #[p1,p2] from hps]
     rfl
    rw[hz]
    simp only[Array.getD_eq_getD_getElem?,Array.getElem?_setIfInBounds]
    by_cases e2:p2=u
    ·subst e2;simp[hN,hp2]
    ·by_cases e1:p1=u
     ·subst e1;simp[e2,hN,hp1]
     ·simp[e1,e2]
   show e.ok g (Array.getD _ u undef)
   rw[hg]
   rw[eD] at he
   by_cases e1:p1=u
   ·rw[if_pos e1] at he;cases he
    rw[if_neg (fun e2=>hne (e1.trans e2.symm)),if_pos e1]
    exact hva
   ·rw[if_neg e1,eD] at he
    by_cases e2:p2=u
    ·rw[if_pos e2] at he;cases he
     rw[if_pos e2];exact hvb
    ·rw[if_neg e2] at he
     rw[if_neg e2,if_neg e1]
     exact Ent.move (hsat u e he) hle (fun i hi=>(h1 i (hids u e he i hi)).trans (hpv i (hids u e he i hi)).symm)
  ·obtain⟨q1,q2⟩:=h4 r hr b e
   exact⟨(hfr b q1).1,(hfr b q1).2,.inl ⟨q1,q2⟩⟩
 refine wpIn_mono (hA _ g.H w t a b g w _ s1) ?_
 intro e a1 w1 he
 cases e with
 |normal=>
  obtain⟨ga,s2⟩:=he
  have hw1:w1.heap[l]?=some (.loop (recOf rec js 0)):=(s2.keep.block l hlt (fun h=>h.2 rfl)).trans hrec
  have hHa:ga.H l=none:=(s2.keep.old l hlt (fun h=>absurd rfl h.2)).trans hHl
  have hl1:l<w1.heap.size:=Nat.lt_of_lt_of_le hlt s2.keep.size
  refine⟨_,run_beginRound hw1 rfl,?_⟩
  generalize hbusy:({recOf rec js 0 with state:=.busy}:Loop)=busy
  let C2:Cx:=⟨P,N,fun b=>(b∈bs\/w.heap.size<=b)/\b≠l,ga.H,w1.putObj l (.loop busy),some l,pi,pv,[]⟩
  have hsz:(w1.putObj l (.loop busy)).heap.size=w1.heap.size:=World.putObj_size
  have hat:∀r∈Rs2 t a b,∀b,r.block ga b->ga.H b=none/\b<w1.heap.size/\(b∈bs\/w.heap.size<=b)/\b≠l:=by
   intro r hr b e
   obtain⟨q1,q2,q3⟩:=s2.own.at_ r hr b e
   rcases q3 with q3|q3
   ·exact⟨q1,q2,.inl q3.1,q3.2⟩
   ·have q3:w.heap.size<=b:=q3
    exact⟨q1,q2,.inr q3,by omega⟩
  have s3:St C2 (Γ2 a b) (Rs2 t a b) ga (w1.putObj l (.loop busy)) a1:=by
   refine⟨s2.size,?_,Keep.refl ⟨s2.keep.agree.base,fun b o e=>(World.putObj_heap_other (fun e'=>by subst e';have e:ga.H b=some o:=e;rw[hHa] at e;cases e)).trans (s2.keep.agree b o e)⟩,s2.sat,⟨fun r hr=>?_,fun r hr b e=>?_,s2.own.apart⟩,s2.pin⟩
   ·obtain⟨rs,e,hnd,hq⟩:=s2.defers
    refine⟨rs,e,hnd,fun q hm=>?_⟩
    obtain⟨q1,q2,q3,q4⟩:=hq q hm
    exact⟨(World.putObj_heap_other (fun e'=>by subst e';rw[hw1] at q1;cases q1)).trans q1,q2,Nat.zero_le _,q4⟩
   ·exact Res.gr (G.le.refl ga) (Nat.le_of_eq hsz.symm) (fun b e=>World.putObj_heap_other (hat r hr b e).2.2.2) (s2.own.ok r hr)
   ·obtain⟨q1,q2,q3,q4⟩:=hat r hr b e
    exact⟨q1,by rw[hsz];exact q2,.inl ⟨q3,q4⟩⟩
  have k12:Keep (fun b=>b∈bs) g.H w ga.H (w1.putObj l (.loop busy)):=iV _ (s2.keep.mono fun i _ h=>h.1) (.inl hl) hHa
  refine wpIn_mono (hB _ ga.H _ t a b _ hy ga _ a1 s3) ?_
  intro e3 a3 w3 h3'
  have fin:∀(gb:G) (jump:Option Code),St C2 [] (Rs t') gb w3 a3->jump=jOf js j'->(r=jump.isNone)->(jump=none↔j'=0)->
    ∃v w',(Instr.endRound l jump).run P w3=.ok v w'/\∃H',Ending.returned v=.returned (.bool r)/\Turn (rAbs Rs js pi pv l rec) (t',j') g.H w bs H' w':=by
   intro gb jump sb' hj hr hj0
   have hl2:l<(w1.putObj l (.loop busy)).heap.size:=by rw[hsz];exact hl1
   have hw3:w3.heap[l]?=some (.loop busy):=(sb'.keep.block l hl2 (fun h=>h.2 rfl)).trans (World.putObj_heap_same hl1)
   have hHb:gb.H l=none:=(sb'.keep.old l hl2 (fun h=>absurd rfl h.2)).trans hHa
   refine⟨_,_,run_endRound jump hw3,gb.H,by rw[hr],?_⟩
   have k13:Keep (fun b=>b∈bs) g.H w gb.H w3:=k12.step sb'.keep (fun i hi=>hi.1)
   generalize hlast:({busy with state:=if jump.isNone then .ready else .done,pending:=jump}:Loop)=last
   have hlast':last=recOf rec js j':=by
    subst hlast;subst hbusy
    cases j' with
    |zero=>
     obtain rfl:=hj0.2 rfl
     simp[recOf,jOf]
    |succ j'=>
     cases jump with
     |none=>exact absurd (hj0.1 rfl) (by omega)
     |some c=>simp[recOf,<-hj]
   obtain⟨bs1,hbs1⟩:=jf sb'.own.ok
   have hsz3:(w3.putObj l (.loop last)).heap.size=w3.heap.size:=World.putObj_size
   have hbat:∀r∈Rs t',∀b,r.block gb b->gb.H b=none/\b<w3.heap.size/\(b∈bs\/w.heap.size<=b)/\b≠l:=by
    intro r hr b e
    obtain⟨q1,q2,q3⟩:=sb'.own.at_ r hr b e
    rcases q3 with q3|q3
    ·exact⟨q1,q2,q3.1,q3.2⟩
    ·have q3:(w1.putObj l (.loop busy)).heap.size<=b:=q3
     have hww:w.heap.size<=w1.heap.size:=s2.keep.size
     rw[hsz] at q3
     exact⟨q1,q2,.inr (by omega),by omega⟩
   have hl3:l<w3.heap.size:=Nat.lt_of_lt_of_le hl2 sb'.keep.size
   refine⟨l::bs1,iV _ k13 (.inl hl) hHb,⟨⟨gb,rfl,sb'.pin,fun r hr=>Res.gr (G.le.refl gb) (Nat.le_of_eq hsz3.symm) (fun b e=>World.putObj_heap_other (hbat r hr b e).2.2.2) (sb'.own.ok r hr),sb'.own.apart,fun r hr b e=>⟨List.mem_cons_of_mem _ ((hbs1 b).2 ⟨r,hr,e⟩),(hbat r hr b e).2.2.2⟩⟩,List.mem_cons_self ..,by rw[World.putObj_heap_same hl3,hlast']⟩,?_⟩
   intro b hb
   rcases List.mem_cons.1 hb with rfl|hb
   ·exact⟨hHb,by rw[hsz3];exact hl3,.inl hl⟩
   ·obtain⟨r',hr',e⟩:=(hbs1 b).1 hb
    obtain⟨q1,q2,q3,_⟩:=hbat r' hr' b e
    exact⟨q1,by rw[hsz3];exact q2,q3⟩
  cases e3 with
  |normal=>
   obtain⟨⟨e1,e2⟩,gb,sb'⟩:=h3'
   have e1:r=true:=e1
   have e2:j'=0:=e2
   exact fin gb none sb' (by rw[e2];rfl) e1 ⟨fun _=>e2,fun _=>rfl⟩
  |ret=>
   obtain⟨⟨e1,e2,e3⟩,gb,sb'⟩:=h3'
   have e1:r=false:=e1
   exact fin gb (some .ret) sb' e3.symm e1 ⟨fun h=>(by cases h),fun h=>absurd h e2⟩
  |exit i=>
   obtain⟨⟨e1,e2,e3⟩,gb,sb'⟩:=h3'
   have e1:r=false:=e1
   exact fin gb (some (.exit i)) sb' e3.symm e1 ⟨fun h=>(by cases h),fun h=>absurd h e2⟩
  |goto i=>exact h3'.elim
  |panic c=>exact h3'.elim
  |outgrown=>exact h3'.elim
 |ret=>exact he.elim
 |exit i=>exact he.elim
 |goto i=>exact he.elim
 |panic c=>exact he.elim
 |outgrown=>exact he.elim
def JP(C:Cx)(Q:Exit->Act->World->Prop)(Γ:Env)(R:List Res):Option Code->Prop
 |none=>Post C Q .normal Γ R
 |some .ret=>Post C Q .ret Γ R
 |some (.exit i)=>Post C Q (.exit i) Γ R
 |_=>False
theorem jp0{C:Cx} {Q:Exit->Act->World->Prop} {Γ:Env} {R:List Res} {js:List Code} {o2:Nat}(hj:o2=0)(h:Post C Q .normal Γ R):JP C Q Γ R (jOf js o2):=by subst hj;exact h
theorem jpR{C:Cx} {Q:Exit->Act->World->Prop} {Γ:Env} {R:List Res} {js:List Code} {o2 j:Nat}(hj:o2=j+1)(hc:js[j]?=some .ret)(h:Post C Q .ret Γ R):JP C Q Γ R (jOf js o2):=by
 subst hj
 show JP C Q Γ R js[j]?
 rw[hc];exact h
theorem Ent.kJ{Γ:Env} {t:Nat} {e:Ent}(h:look Γ t=some e){i:Nat}(hi:i∈e.ids):i∈usedE Γ:=jH (fl h) hi
def subB:List Nat->List Nat->Bool
 |[],_=>true
 |a::l,m=>match memB a m with|true=>subB l m|false=>false
theorem ku:∀{l m:List Nat},subB l m=true->∀i∈l,i∈m
 |[],_,_,i,hi=>by cases hi
 |a::l,m,h,i,hi=>by
  unfold subB at h
  cases hm:memB a m with
  |false=>rw[hm] at h;cases h
  |true=>
   rw[hm] at h
   rcases List.mem_cons.1 hi with rfl|hi
   ·exact memB_iff.1 hm
   ·exact ku h i hi
theorem wRange{τ α β:Type} {C:Cx} {Q:Exit->Act->World->Prop} {Γ Γ':Env} {f:FuncId} {t p1 p2:Nat} {assign body:Code} {caps:List Sig} {sa:α->Sig} {sb:β->Sig} {F:{σ:Type}->(σ->α->β->Option (Bool×σ))->σ->Option σ}
  {Γ2:α->β->Env} {o:τ×Nat} (Rs:τ->List Res) (Rs2:τ->α->β->List Res) (js:List Code) (pi:List Nat) (yb:τ->α->β->Option (Bool×(τ×Nat))) (t0:τ)
  (hrd:C.rd=none) (hfY:FnY C.P f sa sb caps F) (hbod:bodied C.P f) (hrun:F (yOf yb) (t0,0)=some o)
  (ht:look Γ t=some (.d (sClo f caps))) (hΓ:Sub Γ' Γ) (hids:subB (C.pi++usedE Γ') pi=true) (hps:Nat.beq p1 p2=false) (hp:Nat.ble (max p1 p2+1) C.N=true)
  (hA:∀X H0 w0 l pv s a b,WP ⟨C.P,C.N,X,H0,w0,some l,pi,pv,[]⟩ assign (QA ⟨C.P,C.N,X,H0,w0,some l,pi,pv,[]⟩ (Γ2 a b) (Rs2 s a b)) ((p1,.d (sa a))::(p2,.d (sb b))::Γ') (Rs s))
  (hB:∀X H0 w0 l pv s a b o,yb s a b=some o->WP ⟨C.P,C.N,X,H0,w0,some l,pi,pv,[]⟩ body (RB ⟨C.P,C.N,X,H0,w0,some l,pi,pv,[]⟩ Rs js o) (Γ2 a b) (Rs2 s a b))
  (hK:JP C Q Γ' (Rs o.1) (jOf js o.2)):WP C (.rangeFunc (.tmp t) #[p1,p2] assign body) Q Γ (Rs t0):=by
 intro g w a s
 have hne:p1≠p2:=fun e=>by subst e;simp[Nat.beq_refl] at hps
 have hpN:=Nat.le_of_ble_eq_true hp
 have hpi:=ku hids
 refine wpIn_rangeFunc fun fn _=>?_
 let r0:=w.heap.size
 let l:=r0+1
 let rec0:Loop:={state:=.ready,pending:=none,fn,tmps:=a.tmps,params:= #[p1,p2],assign,body,defers:=r0}
 let w1:=(w.alloc (.deferred (some []))).alloc (.loop rec0)
 have he:(Instr.enterLoop fn a.tmps #[p1,p2] assign body (FR C.rd).round).run C.P w=.ok (l,[mark r0]) w1:=by
  rw[hrd];exact run_enterLoop_outer fn a.tmps #[p1,p2] assign body
 obtain⟨cs,ev,hcs⟩:=s.sat t _ ht
 have ev:a.eval (.tmp t)=.func (.func f) #[] cs.toArray:=by
  have:a.eval (.tmp t)=a.tmps.getD t undef:=rfl
  rw[this];exact ev
 have hsz1:w1.heap.size=w.heap.size+2:=by simp[w1]
 have hold:∀b,b<w.heap.size->w1.heap[b]?=w.heap[b]?:=fun b hb=>(Below.heap_alloc _ _ b (by simp;omega)).trans (Below.heap_alloc w _ b hb)
 have hl1:w1.heap[l]?=some (.loop rec0):=by
  have:=ig (w.alloc (.deferred (some []))) (.loop rec0)
  simpa [w1,l,r0] using this
 have hr1:w1.heap[r0]?=some (.deferred (some [])):=(Below.heap_alloc _ _ r0 (by simp[r0])).trans (ig w _)
 have hk1:Keep C.X C.H0 C.w0 g.H w1:=gT (gT s.keep _) _
 obtain⟨bs,hbs⟩:=jf s.own.ok
 have hat:∀b∈bs,g.H b=none/\b<w.heap.size/\(C.X b\/C.w0.heap.size<=b):=fun b hb=>let ⟨r,hr,e⟩:=(hbs b).1 hb;s.own.at_ r hr b e
 have hHr:g.H r0=none:=s.keep.agree.none (Nat.le_refl _)
 have hHl:g.H l=none:=s.keep.agree.none (by simp[l,r0])
 have hp0:(rAbs Rs js pi g.nm l rec0).p (t0,0) g.H w1 (l::bs):=by
  refine⟨⟨g,rfl,fun _ _=>rfl,fun r hr=>Res.gr (G.le.refl g) (by omega) (fun b e=>hold b (s.own.at_ r hr b e).2.1) (s.own.ok r hr),s.own.apart,fun r hr b e=>⟨List.mem_cons_of_mem _ ((hbs b).2 ⟨r,hr,e⟩),?_⟩⟩,List.mem_cons_self ..,hl1⟩
  have:=(s.own.at_ r hr b e).2.1
  show b≠r0+1
  omega
 have hfr:Free g.H w1 (l::bs):=by
  intro b hb
  rcases List.mem_cons.1 hb with rfl|hb
  ·exact⟨hHl,by rw[hsz1];simp[l,r0]⟩
  ·exact⟨(hat b hb).1,by have:=(hat b hb).2.1;omega⟩
 obtain⟨fnc,hfn,hb'⟩:=Option.map_eq_some_iff.1 hbod
 simp only[Bool.and_eq_true,Bool.not_eq_true',beq_eq_false_iff_ne,ne_eq] at hb'
 have hc:∀as:Array Value,(callFunc f as).run C.P w1=.ok (.enter f as) w1:=by
  intro as
  have hbn:fnc.body.isNone=false:=by simpa using hb'.1
  simp only[callFunc,program,Sem.run_bind,Sem.run,Sem.run_pure',Result.andThen_ok,hfn]
  rw[if_neg (by simpa using hb'.2),if_neg (by simp[hbn])]
  rfl
 refine⟨l,[mark r0],w1,{target:=.fn (.func f) cs.toArray,args:= #[.func (.yield l) #[] #[]]},w1,f,(.func (.yield l) #[] #[]::cs).toArray,w1,he,?_,fun _ _=>trivial,?_,fun e=>by simp[FR,Fence.wide] at e,?_⟩
 ·simp only[resolve,ev,Deferred.ofValue,Sem.run_bind,Sem.run_pure,Result.andThen_ok]
  simp[Act.eval]
 ·simp only[invoke,Sem.run_bind,Sem.run_pure,Result.andThen_ok]
  refine(hc _).trans ?_
  simp
 ·refine j4.2 ((hfY _ (rAbs Rs js pi g.nm l rec0) (yOf yb) (t0,0) o hrun g.H w1 (l::bs) _ hk1.agree ⟨_,_,rfl,⟨l,rfl,?_⟩,hcs⟩ hp0 hfr).mono ?_)
  ·exact nw (rec:=rec0) (Γ:=Γ') rfl hne (by omega) (by omega) s.size (fun u e hu=>s.sat u e (hΓ.mem _ (fl hu))) (fun u e hu i hi=>hpi i (List.mem_append_right _ (Ent.kJ hu hi))) (fun _ _=>rfl)
    (fun X H0 w0 s a b=>hA X H0 w0 l g.nm s a b) (fun X H0 w0 s a b o h=>hB X H0 w0 l g.nm s a b o h)
  ·rintro e w2 ⟨v,H2,rfl,bs2,k2,⟨⟨gb,rfl,q1,q2,q3,q4⟩,hl2,hrec2⟩,hfr2⟩
   have hnb:(recOf rec0 js o.2).state≠ .busy:=by unfold recOf;split<;>simp
   refine⟨_,_,run_endLoop hrec2 hnb,?_⟩
   generalize hlast:({recOf rec0 js o.2 with state:=.exhausted}:Loop)=last
   have hlk:l<w2.heap.size:=(hfr2 l hl2).2.1
   have hsz2:(w2.putObj l (.loop last)).heap.size=w2.heap.size:=World.putObj_size
   have hs12:w1.heap.size<=w2.heap.size:=k2.size
   have hw0:C.w0.heap.size<=w.heap.size:=s.keep.size
   have k02:Keep C.X C.H0 C.w0 gb.H w2:=hk1.step k2 (fun i hi=>by
    rcases List.mem_cons.1 hi with rfl|hi
    ·exact .inr (by simp[l,r0];omega)
    ·exact(hat i hi).2.2)
   have hB2:∀r∈Rs o.1,∀b,r.block gb b->gb.H b=none/\b<w2.heap.size/\(C.X b\/C.w0.heap.size<=b)/\b≠l/\b≠r0:=by
    intro r hr b e
    obtain⟨m1,m2⟩:=q4 r hr b e
    obtain⟨z1,z2,z3⟩:=hfr2 b m1
    refine⟨z1,z2,?_,m2,?_⟩
    ·rcases z3 with z3|z3
     ·rcases List.mem_cons.1 z3 with rfl|z3
      ·exact absurd rfl m2
      ·exact(hat b z3).2.2
     ·exact .inr (by omega)
    ·rcases z3 with z3|z3
     ·rcases List.mem_cons.1 z3 with rfl|z3
      ·exact absurd rfl m2
      ·have:=(hat b z3).2.1
       omega
     ·omega
   have hrl:r0≠l:=by simp[l]
   have hr0b:r0∉l::bs:=fun hm=>by
    rcases List.mem_cons.1 hm with h|h
    ·exact hrl h
    ·exact absurd (hat r0 h).2.1 (by simp[r0])
   have s':St C Γ' (Rs o.1) gb (w2.putObj l (.loop last)) {a with defers:=[mark r0]++a.defers}:=by
    refine⟨s.size,?_,iV _ k02 (.inr (by simp[l,r0];omega)) (hfr2 l hl2).1,fun u e hu=>?_,⟨fun r hr=>Res.gr (G.le.refl gb) (Nat.le_of_eq hsz2.symm) (fun b e=>World.putObj_heap_other (hB2 r hr b e).2.2.2.1) (q2 r hr),fun r hr b e=>?_,q3⟩,fun i hi=>?_⟩
    ·obtain⟨rs,e,hnd,hq⟩:=s.defers
     have hBw:C.B<=w.heap.size:=by unfold Cx.B;rw[hrd];exact hw0
     refine⟨r0::rs,by rw[e];rfl,List.nodup_cons.2 ⟨fun hm=>?_,hnd⟩,fun q hm=>?_⟩
     ·have:=(Array.getElem?_eq_some_iff.1 (hq r0 hm).1).1
      simp[r0] at this
     ·rcases List.mem_cons.1 hm with rfl|hm
      ·refine⟨(World.putObj_heap_other hrl).trans ((k2.block r0 (by rw[hsz1];simp[r0]) hr0b).trans hr1),?_,hBw,fun r hr e=>(hB2 r hr _ e).2.2.2.2 rfl⟩
       exact(k2.old r0 (by rw[hsz1];simp[r0]) (fun h=>absurd h hr0b)).trans hHr
      ·obtain⟨z1,z2,z3,z4⟩:=hq q hm
       have hqw:q<w.heap.size:=(Array.getElem?_eq_some_iff.1 z1).1
       have hqb:q∉l::bs:=fun h=>by
        rcases List.mem_cons.1 h with h|h
        ·simp[l,r0] at h;omega
        ·obtain⟨r,hr,e⟩:=(hbs q).1 h
         exact z4 r hr e
       refine⟨(World.putObj_heap_other (fun e=>hqb (by rw[e];exact List.mem_cons_self ..))).trans ((k2.block q (by omega) hqb).trans ((hold q hqw).trans z1)),(k2.old q (by omega) (fun h=>absurd h hqb)).trans z2,z3,fun r hr e=>?_⟩
       obtain⟨m1,m2⟩:=q4 r hr q e
       rcases(hfr2 q m1).2.2 with h|h
       ·exact hqb h
       ·omega
    ·exact Ent.move (s.sat u e (hΓ.mem _ (fl hu))) (k2.le hk1.agree) (fun i hi=>q1 i (hpi i (List.mem_append_right _ (Ent.kJ hu hi))))
    ·obtain⟨z1,z2,z3,_⟩:=hB2 r hr b e
     exact⟨z1,by rw[hsz2];exact z2,z3⟩
    ·exact(q1 i (hpi i (List.mem_append_left _ hi))).trans (s.pin i hi)
   show (match jOf js o.2 with|none=>_|some c=>_)
   revert hK
   cases jOf js o.2 with
   |none=>exact fun hK=>hK gb _ _ s'
   |some c=>
    intro hK
    cases c with
    |ret=>exact wpIn_ret (hK gb _ _ s')
    |exit i=>exact wpIn_exit (hK gb _ _ s')
    |_=>exact hK.elim
end Go.Proofs.YtmjcpkmongafnaaGreatDoor.Ab
