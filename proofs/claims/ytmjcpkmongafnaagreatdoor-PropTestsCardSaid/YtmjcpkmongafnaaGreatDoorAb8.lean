import Derived.Test.YtmjcpkmongafnaaGreatDoorAb7
import Derived.Great.FillDense
import Derived.Laws.CopyRow
set_option linter.unusedVariables false
set_option linter.unusedSimpArgs false
namespace Go.Proofs.YtmjcpkmongafnaaGreatDoor.Ab
open Go Go.RowKit
section
variable{P:Program} {x y:Operand} {i j:Env} {dst:Option Nat} {T T' ty:TypeId} {pos:String} {af:Array Edge} {gd:Option (Nat×Bool)} {R:List Res}
theorem ii{w:World} {b off:Nat} {cs:Array Value} {t:TypeId} {v:Value} {vs:List Value}(hb:w.heap[b]?=some (.cells cs t (0,0)))(hv:v.cells=vs.toArray)(hs:sizeIs P T vs.length)(hl:off+vs.length<=cs.size)(h1:∀v∈vs,v.oneCell'=true):
  (Instr.storeAt T (.pointer (some ⟨b,off,none⟩)) v).run P w=.ok () (w.setRow b (cs.toList.take off++vs++cs.toList.drop (off+vs.length)).toArray):=by
 have:=run_storeCells_at (P:=P) b off t vs 0 cs w hb (by omega) h1
 simp only[Nat.add_zero] at this
 simp only[Instr.storeAt,Instr.sureAddr,Sem.run_bind,Sem.run_pure,Result.andThen_ok,storeVar,fU hs,hv,List.size_toArray,ne_eq,not_true_eq_false,if_false]
 exact this
theorem iw{X:Nat->Prop} {H0 H:FH} {w0 w:World}(h:Keep X H0 w0 H w){b:Nat}(hX:X b\/w0.heap.size<=b)(hH:H b=none)(cs:Array Value):Keep X H0 w0 H (w.setRow b cs):=by
 refine h.step (Y:=fun i=>i=b) ⟨rfl,rfl,rfl,by simp,fun i hi hn=>setRow_other w b i cs hn,fun _ _ _=>rfl,⟨h.agree.base,fun i o e=>?_⟩⟩ (fun i hi=>by subst hi;exact hX)
 rw[setRow_other w b i cs (fun hi=>by subst hi;rw[hH] at e;cases e)]
 exact h.agree i o e
theorem ky:∀{ls:List Leaf} {g:G} {cs:List Value} {k:Nat} {l l':Leaf} {vs:List Value},ls[k]?=some l->leafs ls g cs->l'.ok g vs->vs.length=l.sz->leafs (ls.set k l') g (cs.take (offL ls k)++vs++cs.drop (offL ls k+vs.length))
 |[],_,_,_,_,_,_,h,_,_,_=>by simp at h
 |l0::ls,g,cs,0,l,l',vs,h,⟨c1,c2,e,h1,h2⟩,hv,hs=>by
  simp at h;subst h
  refine⟨vs,c2,?_,hv,h2⟩
  rw[offL,List.take_zero,List.nil_append,Nat.zero_add,e,hs,<-iG h1,List.drop_left]
 |l0::ls,g,cs,k+1,l,l',vs,h,⟨c1,c2,e,h1,h2⟩,hv,hs=>by
  refine⟨c1,_,?_,h1,ky (k:=k) (by simpa using h) h2 hv hs⟩
  rw[offL,e,<-iG h1,Nat.add_assoc,List.drop_length_add_append,List.take_length_add_append,List.append_assoc,List.append_assoc,List.append_assoc]
theorem j6:∀{ls:List Leaf} {g:G} {cs:List Value} {k:Nat} {l:Leaf},ls[k]?=some l->leafs ls g cs->offL ls k+l.sz<=cs.length
 |[],_,_,_,_,h,_=>by simp at h
 |l0::ls,g,cs,0,l,h,⟨c1,c2,e,h1,h2⟩=>by
  simp at h;subst h
  rw[offL,e,List.length_append,iG h1];omega
 |l0::ls,g,cs,k+1,l,h,⟨c1,c2,e,h1,h2⟩=>by
  have:=j6 (k:=k) (by simpa using h) h2
  rw[offL,e,List.length_append,iG h1];omega
theorem ju{o:Oper} {ins:Env} {n id:Nat} {T0:TypeId} {ls ls':List Leaf}(hr:R[n]?=some (.box id T0 ls))
  (h:∀(X:Nat->Prop) (B:Nat) (g:G) (w:World) (a:Act) (b:Nat) (cs:Array Value),Own X B g w R->Agree g.H w->SatI ins g a->g.nm id=some (.pointer (some ⟨b,0,none⟩))->w.heap[b]?=some (.cells cs T0 (0,0))->leafs ls g cs.toList->
   ∃cs':Array Value,(execOp a.eval o).run P w=.ok .skip (w.setRow b cs')/\leafs ls' g cs'.toList):Ok P o ins R (.d sAny) none (R.set n (.box id T0 ls')):=by
 intro X H0 w0 g w a K Q hk hi ho _ hK
 obtain⟨b,cs,hb,hh,hl⟩:=ho.get hr
 obtain⟨cs',hrun,hl'⟩:=h X _ g w a b cs ho hk.agree hi hb hh hl
 have hblk:(Res.box id T0 ls).block g b:=by simp only[Res.block,hb]
 obtain⟨h1,h2,h3⟩:=ho.at_ _ (List.mem_of_getElem? hr) b hblk
 unfold Oper.wp
 rw[hrun]
 refine hK undef g _ (iw hk h3 h1 cs') (G.le.refl g) (fun i e _=>e) trivial ?_
 refine ho.put hr (G.le.refl g) (by simp) (fun b' hb' _ hne=>setRow_other w b b' cs' (fun e=>hne (by rw[e];exact hblk))) (fun _ _ e _=>e) ⟨b,cs',hb,setRow_heap w b cs cs' T0 (0,0) hh,hl'⟩ ?_
 intro b' e
 have:b'=b:=by simp only[Res.block,hb,Option.some.injEq] at e;exact e.symm
 subst this
 exact⟨h1,by simpa using h2,h3,.inl hblk⟩
theorem oSt{α:Type} {d:Kd α} {u:α} {n id k off:Nat} {T0:TypeId} {ls:List Leaf} {l:Leaf}(hr:R[n]?=some (.box id T0 ls))(hk:ls[k]?=some l)(hs:l.sz=d.sz)(ho:offL ls k=off)(hi:sizeIs P T d.sz)(h:Opd x (.p id off) i)(h':Opd y (.d (d.sig u)) j):Ok P ⟨dst,.store T x y,ty,pos,af,gd⟩ (i++j) R (.d sAny) none (R.set n (.box id T0 (ls.set k (.d d u)))):=
 ju hr fun X B g w ac b cs hown hA hi' hb hh hl=>by
  obtain⟨b',hb',e⟩:=h g ac (satI_l hi')
  rw[hb] at hb';cases hb'
  obtain⟨vs,hv,e'⟩:=h' g ac (satI_r hi')
  have hlen:=d.len hv
  subst ho
  have hfit:=j6 hk hl
  rw[Array.length_toList] at hfit
  have hfit2:offL ls k+vs.length<=cs.size:=by omega
  have hrun:=ii (P:=P) (T:=T) hh (d.gD hv) (hlen▸hi) hfit2 (d.ok hv)
  refine⟨(cs.toList.take (offL ls k)++vs++cs.toList.drop (offL ls k+vs.length)).toArray,?_,by simpa using ky (l':=.d d u) hk hl hv (by rw[hlen,hs])⟩
  simp only[execOp,e,e',Sem.run_bind,hrun,Result.andThen_ok,Sem.run_pure]
theorem ml{w:World} {e:TypeId} {size n:Nat} {v:Value} {xs:List Value}(h:w.ownsRow 0 e size v n xs):v.oneCell'=true:=by
 rcases h.2 with ⟨rfl,_⟩|⟨g,cap,cur,rfl,_⟩<;>rfl
theorem oStN{α:Type} {d:Kd α} {xs:List α} {E:TypeId} {n m id id' k off:Nat} {T0:TypeId} {ls:List Leaf} {l:Leaf}(hr:R[n]?=some (.box id T0 ls))(hk:ls[k]?=some l)(hs:l.sz=1)(ho:offL ls k=off)(hi:sizeIs P T 1)(hm:R[m]?=some (.row id' E d xs))(h:Opd x (.p id off) i)(h':Opd y (.v id') j):Ok P ⟨dst,.store T x y,ty,pos,af,gd⟩ (i++j) R (.d sAny) none (R.set n (.box id T0 (ls.set k (.v id')))):=
 ju hr fun X B g w ac b cs hown hA hi' hb hh hl=>by
  obtain⟨b',hb',e⟩:=h g ac (satI_l hi')
  rw[hb] at hb';cases hb'
  have hv:g.nm id'=some (ac.eval y):=h' g ac (satI_r hi')
  obtain⟨v0,cells,hv0,hrow,_⟩:=hown.get hm
  rw[hv] at hv0;cases hv0
  have h1:=ml hrow
  subst ho
  have hfit:=j6 hk hl
  rw[Array.length_toList] at hfit
  have hfit2:offL ls k+[ac.eval y].length<=cs.size:=by simp;omega
  have hrun:=ii (P:=P) (T:=T) (v:=ac.eval y) hh (vs:=[ac.eval y]) (kz h1) hi hfit2 (fun u hu=>by simp at hu;subst hu;exact h1)
  refine⟨(cs.toList.take (offL ls k)++[ac.eval y]++cs.toList.drop (offL ls k+[ac.eval y].length)).toArray,?_,by simpa using ky (l':=.v id') (vs:=[ac.eval y]) hk hl ⟨_,hv,rfl,h1⟩ (by simp[hs])⟩
  simp only[execOp,e,Sem.run_bind,hrun,Result.andThen_ok,Sem.run_pure]
theorem oStA{S:Type} {fs:List (Fld S)} {u:S} {n id:Nat} {T0:TypeId} {ls:List Leaf}(hr:R[n]?=some (.box id T0 ls))(hs:(ls.map Leaf.sz).sum=szF fs)(hi:sizeIs P T (szF fs))(h:Opd x (.p id 0) i)(h':Opd y (.d ((kR fs).sig u)) j):Ok P ⟨dst,.store T x y,ty,pos,af,gd⟩ (i++j) R (.d sAny) none (R.set n (.box id T0 (leafF fs u))):=
 ju hr fun X B g w ac b cs hown hA hi' hb hh hl=>by
  obtain⟨b',hb',e⟩:=h g ac (satI_l hi')
  rw[hb] at hb';cases hb'
  obtain⟨vs,hv,e'⟩:=h' g ac (satI_r hi')
  have hlen:vs.length=szF fs:=(kR fs).len hv
  have hcs:cs.toList.length=szF fs:=by
   rw[<-hs]
   have:∀(ls:List Leaf) (cs:List Value),leafs ls g cs->cs.length=(ls.map Leaf.sz).sum:=by
    intro ls
    induction ls with
    |nil=>intro cs h;rw[show cs=[] from h];rfl
    |cons l ls ih=>intro cs ⟨c1,c2,e,h1,h2⟩;rw[e,List.length_append,iG h1,ih c2 h2];simp
   exact this ls _ hl
  have hfit2:0+vs.length<=cs.size:=by rw[<-Array.length_toList];omega
  have hrun:=ii (P:=P) (T:=T) hh ((kR fs).gD hv) (hlen▸hi) hfit2 ((kR fs).ok hv)
  refine⟨(cs.toList.take 0++vs++cs.toList.drop (0+vs.length)).toArray,?_,?_⟩
  ·simp only[execOp,e,e',Sem.run_bind,hrun,Result.andThen_ok,Sem.run_pure]
  ·rw[List.take_zero,List.nil_append,Nat.zero_add,List.drop_eq_nil_of_le (by omega),List.append_nil]
   exact leafF_ok hv
theorem jv{α:Type} {d:Kd α} {H:FH} {a b:List Value} {xs ys:List α}(h:RowOf d H a xs)(k:RowOf d H b ys):RowOf d H (a++b) (xs++ys):=by
 refine⟨by rw[List.length_append,List.length_append,h.1,k.1,Nat.add_mul],fun j x hx=>?_⟩
 by_cases hj:j<xs.length
 ·rw[List.getElem?_append_left hj] at hx
  have hle:j*d.sz+d.sz<=xs.length*d.sz:=by rw[<-Nat.succ_mul];exact Nat.mul_le_mul_right _ hj
  have:=h.2 j x hx
  rw[List.drop_append_of_le_length (by rw[h.1];omega),List.take_append_of_le_length (by rw[List.length_drop,h.1];omega)]
  exact this
 ·rw[List.getElem?_append_right (by omega)] at hx
  have hle:xs.length*d.sz<=j*d.sz:=Nat.mul_le_mul_right _ (by omega)
  have:=k.2 (j-xs.length) x hx
  rw[Nat.sub_mul] at this
  rw[List.drop_append,List.drop_eq_nil_of_le (by rw[h.1];exact hle),List.nil_append,h.1]
  exact this
theorem j2{α:Type} {d:Kd α} {H:FH} {a:List Value} {xs:List α}(h:RowOf d H a xs)(n:Nat):RowOf d H (a.take (n*d.sz)) (xs.take n):=by
 refine⟨?_,fun j x hx=>?_⟩
 ·rw[List.length_take,List.length_take,h.1]
  rcases Nat.le_total n xs.length with hn|hn
  ·rw[Nat.min_eq_left hn,Nat.min_eq_left (Nat.mul_le_mul_right _ hn)]
  ·rw[Nat.min_eq_right hn,Nat.min_eq_right (Nat.mul_le_mul_right _ hn)]
 ·rw[List.getElem?_take] at hx
  split at hx
  ·rename_i hj
   have hle:j*d.sz+d.sz<=n*d.sz:=by rw[<-Nat.succ_mul];exact Nat.mul_le_mul_right _ hj
   rw[List.drop_take,List.take_take,Nat.min_eq_left (by omega)]
   exact h.2 j x hx
  ·cases hx
structure ElTy(P:Program)(T E:TypeId)(sz by_:Nat):Prop where
 ty:P.underlying T=some (.slice E)
 inf:(P.info? E).map (fun i=>(i.size,i.bytes,i.zero.map (·.cells.size)))=some (sz,by_,some sz)
theorem ElTy.get{E:TypeId} {sz by_:Nat}(h:ElTy P T E sz by_):∃i z,P.info? E=some i/\i.zero=some z/\i.size=sz/\i.bytes=by_/\z.cells.size=sz:=by
 obtain⟨i,hi,he⟩:=Option.map_eq_some_iff.1 h.inf
 simp only[Prod.mk.injEq,Option.map_eq_some_iff] at he
 obtain⟨h1,h2,z,hz,hzs⟩:=he
 exact⟨i,z,hi,hz,h1,h2,hzs⟩
theorem oK{X:Nat->Prop} {H0 H:FH} {w0 w w':World}(h:Keep X H0 w0 H w){row:Option Nat}(hg:w.grownBy w' row)(hrow:∀b,row=some b->(X b\/w0.heap.size<=b)/\H b=none):Keep X H0 w0 H w':=by
 refine h.step (Y:=fun i=>row=some i) ⟨hg.os,hg.tape,hg.output,hg.size,fun i hi hn=>hg.block i hi (fun e=>hn e.symm),fun _ _ _=>rfl,⟨h.agree.base,fun i o e=>?_⟩⟩ (fun i hi=>(hrow i hi).1)
 rw[hg.block i (h.agree.lt e) (fun hi=>by rw[(hrow i hi.symm).2] at e;cases e)]
 exact h.agree i o e
theorem mn{w:World} {E:TypeId} {sz by_:Nat}(hT:ElTy P T E sz by_){v:Value} {n:Nat} {xs:List Value}(ho:w.ownsRow 0 E sz v n xs){c:Nat} {ty:TypeId}:
  (Builtin.append_ #[T,T] ty #[v,.slice none 0 c]).run P w=.ok v w:=by
 obtain⟨i,z,hi,hz,hs,hb,hzs⟩:=hT.get
 rcases ho.2 with ⟨rfl,hn⟩|⟨g,cap,cur,rfl,_,_,hnc,_⟩
 ·simp[Builtin.append_,run_underlying hT.ty,sizeOf,typeInfo,hi,Builtin.lenOf,Builtin.firstCells]
 ·simp[Builtin.append_,run_underlying hT.ty,sizeOf,typeInfo,hi,Builtin.lenOf,Builtin.firstCells,hnc,storeCells]
theorem oApp{α:Type} {d:Kd α} {xs ys:List α} {E:TypeId} {by_ n id id':Nat}(hT:ElTy P T E d.sz by_)(hp:0<d.sz)(hr:R[n]?=some (.row id E d xs))(hb1:0<by_)(hb:(xs.length+ys.length)*by_<=big)(h:Opd x (.v id) i)(h':Opd y (.d ((kL d).sig ys)) j):
  Ok P ⟨dst,.call ⟨.builtin .append,#[x,y],#[T,T]⟩,ty,pos,af,gd⟩ (i++j) R (.v id') (some id') (R.set n (.row id' E d (xs++ys))):=by
 intro X H0 w0 g w a K Q hk hi ho hn hK
 have hlim:xs.length+ys.length<=big:=Nat.le_trans (Nat.le_mul_of_pos_right _ hb1) hb
 obtain⟨v,cells,hv,hrow,hro,_⟩:=ho.get hr
 have ex:g.nm id=some (a.eval x):=h g a (satI_l hi)
 rw[hv] at ex;cases ex
 obtain⟨A,c,ey,h1,h2,h3,h4⟩:=kL_sig.1 (h' g a (satI_r hi))
 have hid':=hn id' rfl
 have hat:=ho.at_ _ (List.mem_of_getElem? hr)
 have hblk:∀b,(a.eval x).ownBlock=some b->(Res.row id E d xs).block g b:=fun b e=>by simp only[Res.block,hv];exact e
 have key:∃v' w' cells',(Builtin.append_ #[T,T] ty #[a.eval x,.slice A ys.length c]).run P w=.ok v' w'/\w'.ownsRow 0 E d.sz v' (xs++ys).length cells'/\RowOf d g.H cells' (xs++ys)/\w.grownBy w' (a.eval x).ownBlock/\(v'.ownBlock=(a.eval x).ownBlock\/v'.ownBlock=some w.heap.size):=by
  rcases Nat.eq_zero_or_pos ys.length with h0|hpos
  ·obtain rfl:=List.eq_nil_of_length_eq_zero h0
   rcases A with _|ad
   ·exact⟨a.eval x,w,cells,mn hT hrow,by simpa using hrow,by simpa using hro,World.grownBy.refl w _,.inl rfl⟩
   ·obtain⟨i0,z,hi0,hz,hs,hby,hzs⟩:=hT.get
    obtain⟨v',w',hrun,hown,hg,_,hat'⟩:=run_append_own_at (P:=P) w 0 T ty E i0 z d.sz by_ hT.ty hi0 hz hs hby hzs hp (a.eval x) xs.length cells hrow ad 0 c [] (by simp) (fun j u hu=>by simp at hu) (fun u hu=>by simp at hu) (by unfold maxLen;unfold big at hlim;simp at hlim⊢;omega) (by unfold big at hb;simpa using hb) (Nat.zero_le _)
    exact⟨v',w',cells,hrun,by simpa using hown,by simpa using hro,hg,hat'⟩
  ·rcases h4 with rfl|⟨b,off,bc,t,fr,rfl,hb',hrow'⟩
   ·simp at hpos
   ·obtain⟨i0,z,hi0,hz,hs,hby,hzs⟩:=hT.get
    have hnew:∀q u,((bc.toList.drop off).take (ys.length*d.sz))[q]?=some u->w.cell? ((⟨b,off,none⟩:Addr).add q)=some u:=by
     intro q u hu
     rw[gR,cell_of_row w b (off+q) bc t fr (hk.agree b _ hb')]
     rw[List.getElem?_take] at hu
     split at hu
     ·rw[List.getElem?_drop] at hu;simpa using hu
     ·cases hu
    have hone:∀u∈(bc.toList.drop off).take (ys.length*d.sz),u.oneCell'=true:=by
     intro u hu
     obtain⟨q,hq,rfl⟩:=List.mem_iff_getElem.1 hu
     have hql:q<ys.length*d.sz:=by rw[<-hrow'.1];exact hq
     have hqd:q/d.sz<ys.length:=by rw[Nat.div_lt_iff_lt_mul hp];exact hql
     have:=hrow'.2 (q/d.sz) ys[q/d.sz] (by simp[hqd])
     refine d.ok this _ ?_
     rw[List.mem_iff_getElem?]
     refine⟨q%d.sz,?_⟩
     have e0:q/d.sz*d.sz+q%d.sz=q:=by rw[Nat.mul_comm];exact Nat.div_add_mod ..
     rw[List.getElem?_take,if_pos (Nat.mod_lt _ hp),List.getElem?_drop,e0]
     exact List.getElem?_eq_getElem hq
    obtain⟨v',w',hrun,hown,hg,_,hat'⟩:=run_append_own_at (P:=P) w 0 T ty E i0 z d.sz by_ hT.ty hi0 hz hs hby hzs hp (a.eval x) xs.length cells hrow ⟨b,off,none⟩ ys.length c _ hrow'.1 hnew hone (by unfold maxLen;unfold big at hlim;omega) (by unfold big at hb;exact hb) (Nat.zero_le _)
    exact⟨v',w',_,hrun,by rw[List.length_append];exact hown,jv hro hrow',hg,hat'⟩
 obtain⟨v',w',cells',hrun,hown,hro',hg,hat'⟩:=key
 have hle:G.le g (g.name id' v'):=gY hid'
 unfold Oper.wp
 rw[show (execOp a.eval ⟨dst,.call ⟨.builtin .append,#[x,y],#[T,T]⟩,ty,pos,af,gd⟩).run P w=.ok (.value v') w' by
  simp only[execOp,resolve,invoke,builtin,Sem.run_bind,Sem.run_pure,Result.andThen_ok,List.map_toArray,List.map_cons,List.map_nil,ey,hrun]]
 have hrowb:∀b,(a.eval x).ownBlock=some b->(X b\/w0.heap.size<=b)/\g.H b=none:=fun b e=>⟨(hat b (hblk b e)).2.2,(hat b (hblk b e)).1⟩
 refine hK v' (g.name id' v') w' (oK hk hg hrowb) hle (fun q e hq=>by rw[io (fun hqi=>hq (by rw[hqi]))];exact e) (dQ ..) ?_
 refine ho.put hr hle hg.size (fun b hb' _ hne=>hg.block b hb' (fun e=>hne (hblk b e.symm))) (fun _ _ e _=>e) ⟨v',cells',dQ ..,hown,hro',by rw[List.length_append];exact hlim⟩ ?_
 intro b e
 have e':v'.ownBlock=some b:=by simpa only[Res.block,dQ,Option.bind_some] using e
 have hlt:=hown.lt b e'
 rcases hat' with hh|hh
 ·rw[hh] at e'
  have:=hat b (hblk b e')
  exact⟨this.1,hlt.2,this.2.2,.inl (hblk b e')⟩
 ·rw[hh] at e';cases e'
  exact⟨hk.agree.none (Nat.le_refl _),hlt.2,.inr hk.size,.inr (Nat.le_refl _)⟩
def Elts{α:Type}(d:Kd α):List Operand->List α->Env->Prop
 |[],[],i=>i=[]
 |x::xs,u::us,i=>∃a b,i=a++b/\Opd x (.d (d.sig u)) a/\Elts d xs us b
 |_,_,_=>False
theorem e0{α:Type} {d:Kd α}:Elts d [] [] []:=rfl
theorem e1{α:Type} {d:Kd α} {x:Operand} {xs:List Operand} {u:α} {us:List α} {a b:Env}(h:Opd x (.d (d.sig u)) a)(k:Elts d xs us b):Elts d (x::xs) (u::us) (a++b):=⟨a,b,rfl,h,k⟩
theorem mo{α:Type} {d:Kd α}:∀{xs:List Operand} {us:List α} {i:Env} {g:G} {a:Act},Elts d xs us i->SatI i g a->(∀x∈xs,(a.eval x).cells.size=d.sz)/\RowOf d g.H ((xs.map a.eval).flatMap fun v=>v.cells.toList) us/\xs.length=us.length
 |[],[],_,_,_,_,_=>⟨by simp,⟨by simp,by simp⟩,rfl⟩
 |x::xs,u::us,i,g,a,⟨p,q,e,h,k⟩,hi=>by
  subst e
  obtain⟨cs,hr,he⟩:=h g a (satI_l hi)
  obtain⟨h1,h2,h3⟩:=mo k (satI_r hi)
  have hc:(a.eval x).cells=cs.toArray:=by rw[he];exact d.gD hr
  refine⟨fun y hy=>?_,?_,by simp[h3]⟩
  ·rcases List.mem_cons.1 hy with rfl|hy
   ·rw[hc];simpa using d.len hr
   ·exact h1 y hy
  ·rw[List.map_cons,List.flatMap_cons]
   have:RowOf d g.H (a.eval x).cells.toList [u]:=by
    rw[hc]
    refine⟨by simpa using d.len hr,fun j y hj=>?_⟩
    cases j with
    |zero=>simp at hj;subst hj;simp only[Nat.zero_mul,List.drop_zero];rw[List.take_of_length_le (by have:=d.len hr;omega)];exact hr
    |succ j=>simp at hj
   exact jv this h2
def partsOf:Nat->List Operand->List (Nat×Operand)
 |_,[]=>[]
 |k,x::xs=>(k,x)::partsOf (k+1) xs
theorem lM(a:Act):∀(xs:List Operand) (k:Nat),(partsOf k xs).map (fun p=>(p.1,a.eval p.2))=((xs.map a.eval).zipIdx k).map fun x=>(x.2,x.1)
 |[],_=>rfl
 |x::xs,k=>by simp[partsOf,List.zipIdx_cons,lM a xs (k+1)]
theorem run_lit{w:World} {E:TypeId} {sz by_:Nat}(hT:ElTy P T E sz by_)(hp:0<sz){xs:List Operand}(hsm:xs.length*sz<=16777216){a:Act}(h:∀x∈xs,(a.eval x).cells.size=sz){ps:Array (Nat×Operand)}(hps:ps.toList=partsOf 0 xs):
  (Instr.buildSlice T xs.length (ps.map fun(i,x)=>(i,a.eval x))).run P w=.ok (.slice (some ⟨w.heap.size,0,none⟩) xs.length xs.length) (w.alloc (.cells ((xs.map a.eval).flatMap fun v=>v.cells.toList).toArray E)):=by
 obtain⟨i0,z,hi0,hz,hs,hby,hzs⟩:=hT.get
 have hfill:=Great.fill_whole hp (xs.map a.eval) ((Array.range (xs.length*sz)).map (z.cells[·%z.cells.size]!)) (fun v hv=>by obtain⟨x,hx,rfl⟩:=List.mem_map.1 hv;exact h x hx) (by simp)
 have hpl:(ps.toList.map fun x=>(x.1,a.eval x.2))=((xs.map a.eval).zipIdx 0).map fun x=>(x.2,x.1):=by
  rw[hps];exact lM a xs 0
 rcases Nat.eq_zero_or_pos xs.length with h0|hpos
 ·obtain rfl:=List.eq_nil_of_length_eq_zero h0
  have hp0:ps= #[]:=by apply Array.ext';simpa [partsOf] using hps
  subst hp0
  simp[Instr.buildSlice,run_underlying hT.ty,sizeOf,typeInfo,hi0,Instr.fill,newRow,newObj,Sem.run,show Array.range 0= #[] from rfl]
 ·have hne:¬xs.length*sz=0:=by
   have:=Nat.mul_pos hpos hp
   omega
  have hsm':¬xs.length*sz>2^24:=by omega
  simp[Instr.buildSlice,run_underlying hT.ty,sizeOf,typeInfo,zeroValue,hi0,hz,hs,hsm',hne,hpl,hfill,newRow,newObj,Sem.run]
theorem oLit{α:Type} {d:Kd α} {us:List α} {E:TypeId} {by_ n:Nat} {xs:List Operand} {ps:Array (Nat×Operand)}(hT:ElTy P T E d.sz by_)(hp:0<d.sz)(hps:ps.toList=partsOf 0 xs)(hn:n=xs.length)(hsm:Nat.ble (n*d.sz) 16777216=true)(h:Elts d xs us i):OkP P ⟨dst,.buildSlice T n ps,ty,pos,af,gd⟩ i (.d ((kL d).sig us)):=okA fun g w a hA hi=>by
 subst hn
 have hsm:=Nat.le_of_ble_eq_true hsm
 obtain⟨h1,h2,h3⟩:=mo h hi
 have hlen:xs.length<=16777216:=Nat.le_trans (Nat.le_mul_of_pos_right _ hp) hsm
 refine⟨.slice (some ⟨w.heap.size,0,none⟩) xs.length xs.length,.cells ((xs.map a.eval).flatMap fun v=>v.cells.toList).toArray E,?_,fun H' hl hH=>kL_sig.2 ⟨some ⟨w.heap.size,0,none⟩,xs.length,by rw[h3],by rw[h3];exact Nat.le_refl _,by omega,by unfold big;omega,.inr ⟨w.heap.size,0,_,E,(0,0),rfl,hH,?_⟩⟩⟩
 ·simp only[execOp,Sem.run_bind,run_lit hT hp hsm h1 hps,Result.andThen_ok,Sem.run_pure]
 ·rw[List.drop_zero,List.take_of_length_le (by rw[h2.1];exact Nat.le_refl _)]
  exact h2.mono hl
theorem oLitR{α:Type} {d:Kd α} {us:List α} {E:TypeId} {by_ n id:Nat} {xs:List Operand} {ps:Array (Nat×Operand)}(hT:ElTy P T E d.sz by_)(hp:0<d.sz)(hps:ps.toList=partsOf 0 xs)(hn:n=xs.length)(hsm:Nat.ble (n*d.sz) 16777216=true)(h:Elts d xs us i):Ok P ⟨dst,.buildSlice T n ps,ty,pos,af,gd⟩ i R (.v id) (some id) (.row id E d us::R):=by
 intro X H0 w0 g w a K Q hk hi ho hnn hK
 subst hn
 have hsm:=Nat.le_of_ble_eq_true hsm
 obtain⟨h1,h2,h3⟩:=mo h hi
 have hlen:xs.length<=16777216:=Nat.le_trans (Nat.le_mul_of_pos_right _ hp) hsm
 have hid:=hnn id rfl
 have hle:G.le g (g.name id (.slice (some ⟨w.heap.size,0,none⟩) xs.length xs.length)):=gY hid
 unfold Oper.wp
 rw[show (execOp a.eval ⟨dst,.buildSlice T xs.length ps,ty,pos,af,gd⟩).run P w=.ok (.value (.slice (some ⟨w.heap.size,0,none⟩) xs.length xs.length)) (w.alloc (.cells ((xs.map a.eval).flatMap fun v=>v.cells.toList).toArray E)) by
  simp only[execOp,Sem.run_bind,run_lit hT hp hsm h1 hps,Result.andThen_ok,Sem.run_pure]]
 refine hK _ (g.name id _) _ (gT hk _) hle (fun q e hq=>by rw[io (fun hqi=>hq (by rw[hqi]))];exact e) (dQ ..) ?_
 have ho':Own X w0.heap.size (g.name id (.slice (some ⟨w.heap.size,0,none⟩) xs.length xs.length)) (w.alloc (.cells ((xs.map a.eval).flatMap fun v=>v.cells.toList).toArray E)) R:=ho.mono hle (by simp) (fun b hb _=>Below.heap_alloc w _ b hb) (fun b hb e=>e)
 refine Own.add ho' ⟨_,_,dQ ..,⟨?_,.inr ⟨w.heap.size,xs.length,_,by rw[h3],Nat.zero_le _,ig w _,by rw[h3];exact Nat.le_refl _,by unfold maxLen;omega,by rw[List.size_toArray,h2.1,h3],?_⟩⟩,h2,by unfold big;omega⟩ ?_
 ·rw[h2.1]
 ·rw[List.take_of_length_le (by rw[h2.1];exact Nat.le_refl _)]
 ·intro b e
  have hb:b=w.heap.size:=by
   simp only[Res.block,dQ,Option.bind_some,Value.ownBlock,Option.some.injEq] at e
   exact e.symm
  subst hb
  refine⟨hk.agree.none (Nat.le_refl _),by simp,.inr hk.size,?_⟩
  intro s hs e'
  rw[Res.du hle (ho.ok s hs)] at e'
  have:=(ho.at_ s hs _ e').2.1
  omega
end
end Go.Proofs.YtmjcpkmongafnaaGreatDoor.Ab
