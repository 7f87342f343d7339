import Derived.Test.YtmjcpkmongafnaaGreatDoorAb6
set_option linter.unusedVariables false
set_option linter.unusedSimpArgs false
namespace Go.Proofs.YtmjcpkmongafnaaGreatDoor.Ab
open Go Go.RowKit
theorem Own.put{X:Nat->Prop} {B:Nat} {g g':G} {w w':World} {R:List Res} {n:Nat} {r r':Res}(h:Own X B g w R)(hr:R[n]?=some r)(hl:G.le g g')(hs:w.heap.size<=w'.heap.size)
  (hb:∀b,b<w.heap.size->g.H b=none->¬r.block g b->w'.heap[b]?=w.heap[b]?) (hn:∀b,b<w.heap.size->g.H b=none->¬r.block g b->g'.H b=none)
  (hok:r'.ok g' w') (hat:∀b,r'.block g' b->g'.H b=none/\b<w'.heap.size/\(X b\/B<=b)/\(r.block g b\/w.heap.size<=b)):Own X B g' w' (R.set n r'):=by
 have hlt:n<R.length:=(List.getElem?_eq_some_iff.1 hr).1
 have other:∀(m:Nat) (s:Res),m≠n->R[m]?=some s->∀b,s.block g b->¬r.block g b:=by
  intro m s hm hs' b hb' hrb
  have hp:=List.pairwise_iff_getElem.1 h.apart
  have hlm:m<R.length:=(List.getElem?_eq_some_iff.1 hs').1
  have e1:R[m]=s:=(List.getElem?_eq_some_iff.1 hs').2
  have e2:R[n]=r:=(List.getElem?_eq_some_iff.1 hr).2
  rcases Nat.lt_or_gt_of_ne hm with hlt'|hgt
  ·exact hp m n hlm hlt hlt' b (by rw[e1];exact hb') (by rw[e2];exact hrb)
  ·exact hp n m hlt hlm hgt b (by rw[e2];exact hrb) (by rw[e1];exact hb')
 have keepS:∀(m:Nat) (s:Res),m≠n->R[m]?=some s->s.ok g' w':=by
  intro m s hm hs'
  have hmem:=List.mem_of_getElem? hs'
  exact Res.gr hl hs (fun b e=>hb b (h.at_ s hmem b e).2.1 (h.at_ s hmem b e).1 (other m s hm hs' b e)) (h.ok s hmem)
 have blk:∀(m:Nat) (s:Res),R[m]?=some s->s.block g'=s.block g:=fun m s hs'=>Res.du hl (h.ok s (List.mem_of_getElem? hs'))
 have get:∀(m:Nat) (s:Res),(R.set n r')[m]?=some s->(m=n/\s=r')\/(m≠n/\R[m]?=some s):=by
  intro m s hs'
  by_cases hm:m=n
  ·subst hm
   rw[List.getElem?_set_self hlt] at hs'
   exact .inl ⟨rfl,(Option.some.inj hs').symm⟩
  ·rw[List.getElem?_set_ne (Ne.symm hm)] at hs'
   exact .inr ⟨hm,hs'⟩
 refine⟨fun s hs'=>?_,fun s hs' b e=>?_,?_⟩
 ·obtain⟨m,hm⟩:=List.mem_iff_getElem?.1 hs'
  rcases get m s hm with ⟨_,rfl⟩|⟨hne,hR⟩
  ·exact hok
  ·exact keepS m s hne hR
 ·obtain⟨m,hm⟩:=List.mem_iff_getElem?.1 hs'
  rcases get m s hm with ⟨_,rfl⟩|⟨hne,hR⟩
  ·exact⟨(hat b e).1,(hat b e).2.1,(hat b e).2.2.1⟩
  ·rw[blk m s hR] at e
   obtain⟨h1,h2,h3⟩:=h.at_ s (List.mem_of_getElem? hR) b e
   exact⟨hn b h2 h1 (other m s hne hR b e),Nat.lt_of_lt_of_le h2 hs,h3⟩
 ·rw[List.pairwise_iff_getElem]
  intro p q hp hq hpq b e
  rcases get p _ (List.getElem?_eq_getElem hp) with ⟨rfl,e1⟩|⟨hne1,hR1⟩
  ·rcases get q _ (List.getElem?_eq_getElem hq) with ⟨rfl,e2⟩|⟨hne2,hR2⟩
   ·omega
   ·rw[e1] at e
    rw[blk q _ hR2]
    intro hq'
    rcases(hat b e).2.2.2 with hh|hh
    ·exact other q _ hne2 hR2 b hq' hh
    ·exact absurd (h.at_ _ (List.mem_of_getElem? hR2) b hq').2.1 (by omega)
  ·rw[blk p _ hR1] at e
   rcases get q _ (List.getElem?_eq_getElem hq) with ⟨rfl,e2⟩|⟨hne2,hR2⟩
   ·rw[e2]
    intro hq'
    rcases(hat b hq').2.2.2 with hh|hh
    ·exact other p _ hne1 hR1 b e hh
    ·exact absurd (h.at_ _ (List.mem_of_getElem? hR1) b e).2.1 (by omega)
   ·rw[blk q _ hR2]
    have hp':=List.pairwise_iff_getElem.1 h.apart
    have l1:p<R.length:=(List.getElem?_eq_some_iff.1 hR1).1
    have l2:q<R.length:=(List.getElem?_eq_some_iff.1 hR2).1
    have e1:=(List.getElem?_eq_some_iff.1 hR1).2
    have e2:=(List.getElem?_eq_some_iff.1 hR2).2
    have:=hp' p q l1 l2 hpq b (by rw[e1];exact e)
    rwa [e2] at this
theorem Own.add{X:Nat->Prop} {B:Nat} {g':G} {w':World} {R:List Res} {r':Res}(h:Own X B g' w' R)(hok:r'.ok g' w')(hat:∀b,r'.block g' b->g'.H b=none/\b<w'.heap.size/\(X b\/B<=b)/\∀s∈R,¬s.block g' b):Own X B g' w' (r'::R):=
  ⟨fun s hs=>by rcases List.mem_cons.1 hs with rfl|hs;exact hok;exact h.ok s hs,
   fun s hs b e=>by rcases List.mem_cons.1 hs with rfl|hs;exact⟨(hat b e).1,(hat b e).2.1,(hat b e).2.2.1⟩;exact h.at_ s hs b e,
   List.pairwise_cons.2 ⟨fun s hs b e=>(hat b e).2.2.2 s hs,h.apart⟩⟩
def G.name(g:G)(i:Nat)(v:Value):G:=⟨g.H,fun j=>if j=i then some v else g.nm j⟩
theorem gY{g:G} {i:Nat} {v:Value}(h:g.nm i=none):G.le g (g.name i v):=⟨FH.le.refl _,fun j u e=>by
 show (if j=i then some v else g.nm j)=some u
 rw[if_neg (fun hj=>by subst hj;rw[h] at e;cases e)];exact e⟩
theorem dQ(g:G)(i:Nat)(v:Value):(g.name i v).nm i=some v:=by simp[G.name]
theorem io{g:G} {i j:Nat} {v:Value}(h:j≠i):(g.name i v).nm j=g.nm j:=by simp[G.name,h]
theorem gT{X:Nat->Prop} {H0 H:FH} {w0 w:World}(h:Keep X H0 w0 H w)(o:Obj):Keep X H0 w0 H (w.alloc o):=
 h.step (Y:=No) ⟨rfl,rfl,rfl,by simp,fun b hb _=>Below.heap_alloc w o b hb,fun _ _ _=>rfl,⟨h.agree.base,fun b o' e=>(Below.heap_alloc w o b (h.agree.lt e)).trans (h.agree b o' e)⟩⟩ (fun i hi=>hi.elim)
section
variable{P:Program} {x y:Operand} {i j:Env} {dst:Option Nat} {T T' ty:TypeId} {pos:String} {af:Array Edge} {gd:Option (Nat×Bool)} {R:List Res}
theorem ok_new{o:Oper} {ins:Env} {id:Nat} {T:TypeId} {ls:List Leaf}
  (h:∀(g:G) (w:World) (a:Act),Agree g.H w->SatI ins g a->∃cs:Array Value,(execOp a.eval o).run P w=.ok (.value (.pointer (some ⟨w.heap.size,0,none⟩))) (w.alloc (.cells cs T))/\leafs ls g cs.toList):
  Ok P o ins R (.p id 0) (some id) (.box id T ls::R):=by
 intro X H0 w0 g w a K Q hk hi ho hn hK
 obtain⟨cs,hr,hl⟩:=h g w a hk.agree hi
 unfold Oper.wp
 rw[hr]
 have hid:=hn id rfl
 have hle:G.le g (g.name id (.pointer (some ⟨w.heap.size,0,none⟩))):=gY hid
 refine hK _ (g.name id (.pointer (some ⟨w.heap.size,0,none⟩))) _ (gT hk _) hle (fun j e hj=>?_) ⟨w.heap.size,dQ ..,rfl⟩ ?_
 ·rw[io (fun hji=>hj (by rw[hji]))];exact e
 ·have ho':Own X w0.heap.size (g.name id (.pointer (some ⟨w.heap.size,0,none⟩))) (w.alloc (.cells cs T)) R:=ho.mono hle (by simp) (fun b hb _=>Below.heap_alloc w _ b hb) (fun b hb e=>e)
  refine Own.add ho' ⟨w.heap.size,cs,dQ ..,ig w _,j7 hle hl⟩ ?_
  intro b e
  have hb:b=w.heap.size:=by
   simp only[Res.block,dQ,Option.some.injEq] at e
   exact e.symm
  subst hb
  refine⟨hk.agree.none (Nat.le_refl _),by simp,.inr hk.size,?_⟩
  intro s hs e'
  rw[Res.du hle (ho.ok s hs)] at e'
  have:=(ho.at_ s hs _ e').2.1
  omega
def zeroIs(P:Program)(T:TypeId)(cs:List Value):Prop:=((P.info? T).bind (·.zero)).map (·.cells.toList)=some cs
theorem oAlloc{id:Nat} {ls:List Leaf} {cs:List Value}(hz:zeroIs P T cs)(hl:∀g,leafs ls g cs):Ok P ⟨dst,.alloc T,ty,pos,af,gd⟩ [] R (.p id 0) (some id) (.box id T ls::R):=by
 refine ok_new fun g w a hA hi=>?_
 obtain⟨z,hz1,hz2⟩:=Option.map_eq_some_iff.1 hz
 obtain⟨inf,hi1,hi2⟩:=Option.bind_eq_some_iff.1 hz1
 refine⟨z.cells,?_,by rw[hz2];exact hl g⟩
 have hzr:(zeroValue T).run P w=.ok z w:=by
  simp only[zeroValue,typeInfo,program,Sem.run_bind,Sem.run,Sem.run_pure',Result.andThen_ok,hi1,Sem.run_pure,hi2]
 simp only[execOp,Instr.alloc,Sem.run_bind,hzr,Result.andThen_ok,newVar,newRow,newObj,Sem.run,Sem.run_pure,Sem.run_pure']
 rfl
def leafF{S:Type}:List (Fld S)->S->List Leaf
 |[],_=>[]
 |f::fs,u=>.d f.d (f.get u)::leafF fs u
theorem leafF_ok{S:Type}:∀{fs:List (Fld S)} {g:G} {cs:List Value} {u:S},repsF fs g.H cs u->leafs (leafF fs u) g cs
 |[],_,_,_,h=>h
 |f::fs,_,_,_,⟨c1,c2,e,h1,h2⟩=>⟨c1,c2,e,h1,leafF_ok h2⟩
theorem oBoxS{S:Type} {fs:List (Fld S)} {u:S} {id:Nat}(h:Opd x (.d ((kR fs).sig u)) i):Ok P ⟨dst,.box T x,ty,pos,af,gd⟩ i R (.p id 0) (some id) (.box id T (leafF fs u)::R):=
 ok_new fun g w ac hA hs=>by
  obtain⟨cs,hr,e⟩:=h g ac hs
  refine⟨cs.toArray,?_,leafF_ok hr⟩
  simp only[execOp,e,Instr.box,newVar,newRow,newObj,Sem.run_bind,Sem.run,Sem.run_pure,Sem.run_pure',Result.andThen_ok,(kR fs).gD hr]
  rfl
theorem oFldP{id o off k:Nat}(ho:fofs P T k=some off)(h:Opd x (.p id o) i):OkP P ⟨dst,.fieldAddr T x k,ty,pos,af,gd⟩ i (.p id (o+off)):=okV fun g w ac hA hs=>by
 obtain⟨b,hb,e⟩:=h g ac hs
 exact⟨.pointer (some ⟨b,o+off,none⟩),by simp only[execOp,e,Sem.run_bind,jN ho,Result.andThen_ok,Sem.run_pure],b,hb,rfl⟩
def offL:List Leaf->Nat->Nat
 |[],_=>0
 |_::_,0=>0
 |l::ls,k+1=>l.sz+offL ls k
theorem iG{l:Leaf} {g:G} {cs:List Value}(h:l.ok g cs):cs.length=l.sz:=by
 cases l with
 |d k x=>exact k.len h
 |v i=>obtain⟨v,_,e,_⟩:=h;rw[e];rfl
 |o i=>rcases h with e|⟨v,_,e,_⟩<;>rw[e]<;>rfl
theorem jr:∀{ls:List Leaf} {g:G} {cs:List Value} {k:Nat} {l:Leaf},ls[k]?=some l->leafs ls g cs->l.ok g ((cs.drop (offL ls k)).take l.sz)
 |[],_,_,_,_,h,_=>by simp at h
 |l0::ls,g,cs,0,l,h,⟨c1,c2,e,h1,h2⟩=>by
  simp at h;subst h
  rw[e,offL,List.drop_zero,List.take_left' (iG h1)];exact h1
 |l0::ls,g,cs,k+1,l,h,⟨c1,c2,e,h1,h2⟩=>by
  have:=jr (k:=k) (by simpa using h) h2
  rw[e,offL,<-iG h1,List.drop_length_add_append];exact this
theorem Own.get{X:Nat->Prop} {B:Nat} {g:G} {w:World} {n:Nat} {r:Res}(h:Own X B g w R)(hr:R[n]?=some r):r.ok g w:=h.ok r (List.mem_of_getElem? hr)
theorem okR{o:Oper} {ins:Env} {out:Ent}(h:∀(X:Nat->Prop) (B:Nat) (g:G) (w:World) (a:Act),Agree g.H w->SatI ins g a->Own X B g w R->∃v,(execOp a.eval o).run P w=.ok (.value v) w/\out.ok g v):Ok P o ins R out none R:=by
 intro X H0 w0 g w a K Q hk hi ho _ hK
 obtain⟨v,hr,hv⟩:=h X _ g w a hk.agree hi ho
 unfold Oper.wp
 rw[hr]
 exact hK v g w hk (G.le.refl g) (fun i e _=>e) hv ho
theorem oLdB{α:Type} {d:Kd α} {u:α} {n id k off:Nat} {T0:TypeId} {ls:List Leaf}(hr:R[n]?=some (.box id T0 ls))(hk:ls[k]?=some (.d d u))(ho:offL ls k=off)(hi:tinf P T=some (d.agg,d.sz))(h:Opd x (.p id off) i):Ok P ⟨dst,.load T x,ty,pos,af,gd⟩ i R (.d (d.sig u)) none R:=okR fun X B g w ac hA hs hown=>by
 obtain⟨b,hb,e⟩:=h g ac hs
 obtain⟨b',cs,hb',hh,hl⟩:=hown.get hr
 rw[hb] at hb';cases hb'
 have hk':=jr hk hl
 subst ho
 exact⟨mkv d.agg ((cs.toList.drop (offL ls k)).take d.sz),by simp only[execOp,e,Sem.run_bind,ie hi d.one hh rfl (d.len hk'),Result.andThen_ok,Sem.run_pure],_,hk',rfl⟩
theorem oLdN{n id id' k off:Nat} {T0:TypeId} {ls:List Leaf}(hr:R[n]?=some (.box id T0 ls))(hk:ls[k]?=some (.v id'))(ho:offL ls k=off)(hi:tinf P T=some (false,1))(h:Opd x (.p id off) i):Ok P ⟨dst,.load T x,ty,pos,af,gd⟩ i R (.v id') none R:=okR fun X B g w ac hA hs hown=>by
 obtain⟨b,hb,e⟩:=h g ac hs
 obtain⟨b',cs,hb',hh,hl⟩:=hown.get hr
 rw[hb] at hb';cases hb'
 obtain⟨v,hv,he,h1⟩:=jr hk hl
 subst ho
 refine⟨v,?_,hv⟩
 have:=ie (P:=P) (w:=w) (off:=offL ls k) hi (fun _=>rfl) hh he rfl
 simp only[execOp,e,Sem.run_bind,this,Result.andThen_ok,Sem.run_pure]
 rfl
def allD{S:Type}:List Leaf->List (Fld S)->S->Prop
 |[],[],_=>True
 |l::ls,f::fs,u=>l=.d f.d (f.get u)/\allD ls fs u
 |_,_,_=>False
theorem kw{S:Type}:∀{ls:List Leaf} {fs:List (Fld S)} {u:S} {g:G} {cs:List Value},allD ls fs u->leafs ls g cs->repsF fs g.H cs u
 |[],[],_,_,_,_,h=>h
 |l::ls,f::fs,_,_,_,⟨e,hr⟩,⟨c1,c2,e',h1,h2⟩=>by subst e;exact⟨c1,c2,e',h1,kw hr h2⟩
theorem oLdA{S:Type} {fs:List (Fld S)} {u:S} {n id:Nat} {T0:TypeId} {ls:List Leaf}(hr:R[n]?=some (.box id T0 ls))(ha:allD ls fs u)(hi:tinf P T=some (true,szF fs))(h:Opd x (.p id 0) i):Ok P ⟨dst,.load T x,ty,pos,af,gd⟩ i R (.d ((kR fs).sig u)) none R:=okR fun X B g w ac hA hs hown=>by
 obtain⟨b,hb,e⟩:=h g ac hs
 obtain⟨b',cs,hb',hh,hl⟩:=hown.get hr
 rw[hb] at hb';cases hb'
 have hrep:=kw ha hl
 have hlen:=jI fs hrep
 refine⟨mkv true cs.toList,?_,⟨_,hrep,rfl⟩⟩
 have:=ie (P:=P) (w:=w) (off:=0) hi (fun h=>by cases h) hh (ls:=cs.toList) (by rw[List.drop_zero,List.take_of_length_le (by omega)]) hlen
 simp only[execOp,e,Sem.run_bind,this,Result.andThen_ok,Sem.run_pure]
end
end Go.Proofs.YtmjcpkmongafnaaGreatDoor.Ab
