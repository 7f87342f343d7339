import Derived.Test.YtmjcpkmongafnaaGreatDoorAb2
set_option linter.unusedVariables false
set_option linter.unusedSimpArgs false
namespace Go.Proofs.YtmjcpkmongafnaaGreatDoor.Ab
open Go Go.RowKit
abbrev CW(C:Cx)(c:Code)(Q:Exit->Act->World->Prop)(a:Act)(w:World):Prop:=c.wpIn (FR C.rd) 0 C.P Q a w
def Post(C:Cx)(Q:Exit->Act->World->Prop)(e:Exit)(Γ:Env)(R:List Res):Prop:=∀g w a,St C Γ R g w a->Q e a w
def WP(C:Cx)(c:Code)(Q:Exit->Act->World->Prop)(Γ:Env)(R:List Res):Prop:=∀g w a,St C Γ R g w a->CW C c Q a w
def LoopAt(C:Cx)(c:Code)(Q:Exit->Act->World->Prop)(a:Act)(w:World):Prop:=
 ∀(b:Frame) (k:List Item) (cs:List Frame),b.roundOf=(FR C.rd).round->(FR C.rd).fn b.fn->(FR C.rd).room (cs.length+1+0)->
  ∃e a' w',Q e a' w'/\ArrivesIn (Machine.fenced C.P (FR C.rd)) C.P (lone (b.atR a (.code c:: .inLoop c::k)) cs w) b k cs e a' w'
theorem ng{C:Cx} {c:Code} {Q:Exit->Act->World->Prop} {a:Act} {w:World}(h:CW C c (Exit.then (LoopAt C c Q) Q) a w):LoopAt C c Q a w:=by
 intro b k cs hro hb hr
 obtain⟨e,a₁,w₁,hq,harr⟩:=h b (.inLoop c::k) cs hro hb hr
 cases e with
 |normal=>
  obtain⟨e₂,a₂,w₂,hq₂,harr₂⟩:=hq b k cs hro hb hr
  exact⟨e₂,a₂,w₂,hq₂,.of_steps (StepsIn.trans harr (.one (fenced_calm hb hr rfl) stepR_inLoop)) harr₂⟩
 |exit id=>exact⟨_,a₁,w₁,hq,.pass (x:=.inLoop c) rfl (fun _ _=>.inl (by simp)) harr⟩
 |goto l=>exact⟨_,a₁,w₁,hq,.pass (x:=.inLoop c) rfl (fun _ _=>.inl (by simp)) harr⟩
 |ret=>exact⟨_,a₁,w₁,hq,.pass (x:=.inLoop c) rfl (fun _ _=>.inl (by simp)) harr⟩
 |panic ch=>exact⟨_,a₁,w₁,hq,.pass (x:=.inLoop c) rfl (fun _ _=>.inl (by simp)) harr⟩
 |outgrown=>exact⟨_,a₁,w₁,hq,.pass (x:=.inLoop c) rfl (fun _ _=>.inl (by simp)) harr⟩
theorem oO{C:Cx} {c:Code} {Q:Exit->Act->World->Prop} {a:Act} {w:World}(h:LoopAt C c Q a w):CW C (Code.loop c) Q a w:=
 fun b k cs hro hb hr=>let ⟨e,a',w',hq,harr⟩:=h b k cs hro hb hr;⟨e,a',w',hq,.of_steps (.one (fenced_calm hb hr rfl) stepR_loop) harr⟩
def LP(C:Cx)(c:Code)(Q:Exit->Act->World->Prop)(Γ:Env)(R:List Res):Prop:=∀g w a,St C Γ R g w a->LoopAt C c Q a w
section
variable{C:Cx} {Q:Exit->Act->World->Prop} {Γ Γ':Env} {R R':List Res}
theorem wSkip(h:Post C Q .normal Γ R):WP C .skip Q Γ R:=fun g w a s=>wpIn_skip (h g w a s)
theorem wExit{id:Nat}(h:Post C Q (.exit id) Γ R):WP C (.exit id) Q Γ R:=fun g w a s=>wpIn_exit (h g w a s)
theorem wRet(h:Post C Q .ret Γ R):WP C .ret Q Γ R:=fun g w a s=>wpIn_ret (h g w a s)
theorem wSeq{x y:Code}(h:WP C x (Exit.then (CW C y Q) Q) Γ R):WP C (.seq x y) Q Γ R:=fun g w a s=>wpIn_seq (h g w a s)
theorem wBlock{id:Nat} {c:Code}(h:WP C c (Exit.inBlock id Q) Γ R):WP C (.block id c) Q Γ R:=fun g w a s=>wpIn_block (h g w a s)
theorem wLoop{c:Code}(h:LP C c Q Γ R):WP C (.loop c) Q Γ R:=fun g w a s=>oO (h g w a s)
theorem lUnfold{c:Code}(h:WP C c (Exit.then (LoopAt C c Q) Q) Γ R):LP C c Q Γ R:=fun g w a s=>ng (h g w a s)
theorem pSeq{y:Code}(h:WP C y Q Γ R):Post C (Exit.then (CW C y Q) Q) .normal Γ R:=h
theorem pLoop{c:Code}(h:LP C c Q Γ R):Post C (Exit.then (LoopAt C c Q) Q) .normal Γ R:=h
theorem pThenX{K:Act->World->Prop} {i:Nat}(h:Post C Q (.exit i) Γ R):Post C (Exit.then K Q) (.exit i) Γ R:=h
theorem pThenR{K:Act->World->Prop}(h:Post C Q .ret Γ R):Post C (Exit.then K Q) .ret Γ R:=h
theorem pThenP{K:Act->World->Prop} {ch:List PanicEntry}(h:Post C Q (.panic ch) Γ R):Post C (Exit.then K Q) (.panic ch) Γ R:=h
theorem pBlkP{i:Nat} {ch:List PanicEntry}(h:Post C Q (.panic ch) Γ R):Post C (Exit.inBlock i Q) (.panic ch) Γ R:=h
theorem pBlkN{i:Nat}(h:Post C Q .normal Γ R):Post C (Exit.inBlock i Q) .normal Γ R:=h
theorem pBlkR{i:Nat}(h:Post C Q .ret Γ R):Post C (Exit.inBlock i Q) .ret Γ R:=h
theorem pBlkX{i:Nat}(h:Post C Q .normal Γ R):Post C (Exit.inBlock i Q) (.exit i) Γ R:=by
 intro g w a s
 show if i=i then Q .normal a w else Q (.exit i) a w
 rw[if_pos rfl];exact h g w a s
def Opd(x:Operand)(e:Ent)(ins:Env):Prop:=∀g a,SatI ins g a->e.ok g (a.eval x)
theorem tm{t:Nat} {e:Ent}:Opd (.tmp t) e [(t,e)]:=fun g a h=>h (t,e) (List.mem_cons_self ..)
theorem cI{k:IntKind} {n:Int}(h:InR k n):Opd (.const (.int k n)) (.d ((kI k).sig n)) []:=fun g a _=>kI_sig.2 ⟨rfl,h⟩
theorem cB{b:Bool}:Opd (.const (.bool b)) (.d (kB.sig b)) []:=fun g a _=>kB_sig.2 rfl
theorem cS{s:List UInt8}(h:s.length<=9223372036854775807):Opd (.const (.string ⟨⟨s⟩⟩)) (.d (kS.sig s)) []:=fun g a _=>kS_sig.2 ⟨rfl,h⟩
theorem cN{α:Type} {d:Kd α}:Opd (.const (.slice none 0 0)) (.d ((kL d).sig [])) []:=fun g a _=>kL_sig.2 ⟨none,0,rfl,Nat.le_refl _,by omega,by simp[big],.inl rfl⟩
theorem wCondT{c:Operand} {x y:Code} {ins:Env}(hc:Opd c (.d (kB.sig true)) ins)(hs:Sub ins Γ)(h:WP C x Q Γ R):WP C (.cond c x y) Q Γ R:=
 fun g w a s=>wpIn_cond_true (kB_sig.1 (hc g a (hs.sat s.sat))) (h g w a s)
theorem wCondF{c:Operand} {x y:Code} {ins:Env}(hc:Opd c (.d (kB.sig false)) ins)(hs:Sub ins Γ)(h:WP C y Q Γ R):WP C (.cond c x y) Q Γ R:=
 fun g w a s=>wpIn_cond_false (kB_sig.1 (hc g a (hs.sat s.sat))) (h g w a s)
def noDefer:Op->Bool
 |.defer _=>false
 |_=>true
theorem nB{o:Op}(h:noDefer o=true):∀c,o≠ .defer c:=by
 intro c e
 subst e
 cases h
def fitsN(N:Nat)(l:List Oper):Bool:=l.all fun o=>(match o.dst with|some d=>decide (d<N)|none=>true)&&noDefer o.op
theorem jg{N:Nat} {l:List Oper}(h:fitsN N l=true):∀o∈l,(∀d,o.dst=some d->d<N)/\∀c,o.op≠ .defer c:=by
 intro o ho
 have:=List.all_eq_true.1 h o ho
 rw[Bool.and_eq_true] at this
 refine⟨fun d hd=>?_,nB this.2⟩
 have h1:=this.1
 rw[hd] at h1
 simpa using h1
def Ent.ids:Ent->List Nat|.d _=>[]|.v i=>[i]|.p i _=>[i]|.e i _=>[i]|.f l _=>l
def Leaf.id:Leaf->Option Nat|.d _ _=>none|.v i=>some i|.o i=>some i
def Res.ids:Res->List Nat
 |.box i _ ls=>i::ls.filterMap Leaf.id
 |.row i _ _ _=>[i]
 |.abs i _ _=>[i]
def usedE:Env->List Nat
 |[]=>[]
 |p::Γ=>p.2.ids++usedE Γ
theorem jH{n:Nat}:∀{Γ:Env} {t:Nat} {e:Ent},(t,e)∈Γ->n∈e.ids->n∈usedE Γ
 |p::Γ,t,e,h,hn=>by
  rcases List.mem_cons.1 h with rfl|h
  ·exact List.mem_append_left _ hn
  ·exact List.mem_append_right _ (jH h hn)
def used(Γ:Env)(R:List Res):List Nat:=usedE Γ++R.flatMap Res.ids
def G.only(g:G)(L:List Nat):G:=⟨g.H,fun i=>if L.contains i then g.nm i else none⟩
theorem gt{g:G} {L:List Nat} {i:Nat}(h:i∈L):(g.only L).nm i=g.nm i:=by simp[G.only,h]
theorem Ent.only{e:Ent} {g:G} {v:Value} {L:List Nat}(k:e.ok g v)(h:∀i∈e.ids,i∈L):e.ok (g.only L) v:=by
 cases e with
 |d s=>exact k
 |v i=>exact(gt (h i (by simp[Ent.ids]))).trans k
 |p i o=>obtain⟨b,h1,h2⟩:=k;exact⟨b,(gt (h i (by simp[Ent.ids]))).trans h1,h2⟩
 |e i o=>obtain⟨b,n,c,h1,h2⟩:=k;exact⟨b,n,c,(gt (h i (by simp[Ent.ids]))).trans h1,h2⟩
 |f ids s=>obtain⟨vs,h1,h2⟩:=k;exact⟨vs,(List.map_congr_left (fun i hi=>gt (h i hi))).trans h1,h2⟩
theorem jh:∀{ls:List Leaf} {g:G} {cs:List Value} {L:List Nat},(∀i,i∈ls.filterMap Leaf.id->i∈L)->leafs ls g cs->leafs ls (g.only L) cs
 |[],_,_,_,_,h=>h
 |.d k x::ls,_,_,_,hL,⟨c1,c2,e,h1,h2⟩=>⟨c1,c2,e,h1,jh hL h2⟩
 |.v i::ls,_,_,_,hL,⟨c1,c2,e,⟨v,h0,h1⟩,h2⟩=>⟨c1,c2,e,⟨v,(gt (hL i (by simp[Leaf.id]))).trans h0,h1⟩,jh (fun j hj=>hL j (by rw[List.filterMap_cons];split;exact hj;exact List.mem_cons_of_mem _ hj)) h2⟩
 |.o i::ls,_,_,_,hL,⟨c1,c2,e,h1,h2⟩=>⟨c1,c2,e,h1.imp (fun e=>e) (fun⟨v,h0,h1⟩=>⟨v,(gt (hL i (by simp[Leaf.id]))).trans h0,h1⟩),jh (fun j hj=>hL j (by rw[List.filterMap_cons];split;exact hj;exact List.mem_cons_of_mem _ hj)) h2⟩
theorem Res.ji{r:Res} {g:G} {L:List Nat}(h:∀i∈r.ids,i∈L):r.block (g.only L)=r.block g:=by
 funext x
 cases r with
 |abs i A s=>simp only[Res.block,gt (h i (by simp[Res.ids]))]
 |box i T ls=>simp only[Res.block,gt (h i (by simp[Res.ids]))]
 |row i T d xs=>simp only[Res.block,gt (h i (by simp[Res.ids]))]
theorem Res.ok_only{r:Res} {g:G} {w:World} {L:List Nat}(h:∀i∈r.ids,i∈L)(k:r.ok g w):r.ok (g.only L) w:=by
 cases r with
 |box i T ls=>
  obtain⟨b,cs,e,hh,hl⟩:=k
  exact⟨b,cs,(gt (h i (by simp[Res.ids]))).trans e,hh,jh (fun j hj=>h j (by simp only[Res.ids];exact List.mem_cons_of_mem _ hj)) hl⟩
 |row i T d xs=>
  obtain⟨v,cells,e,ho,hr⟩:=k
  exact⟨v,cells,(gt (h i (by simp[Res.ids]))).trans e,ho,hr⟩
 |abs i A s=>
  obtain⟨bs,e,hp⟩:=k
  exact⟨bs,(gt (h i (by simp[Res.ids]))).trans e,hp⟩
theorem Own.only{X:Nat->Prop} {B:Nat} {g:G} {w:World} {L:List Nat}(h:∀i∈R.flatMap Res.ids,i∈L)(k:Own X B g w R):Own X B (g.only L) w R:=by
 have hr:∀r∈R,∀i∈r.ids,i∈L:=fun r hr i hi=>h i (List.mem_flatMap.2 ⟨r,hr,hi⟩)
 refine⟨fun r h'=>Res.ok_only (hr r h') (k.ok r h'),fun r h' b e=>?_,?_⟩
 ·rw[Res.ji (hr r h')] at e;exact k.at_ r h' b e
 ·refine List.Pairwise.imp_of_mem ?_ k.apart
  intro r s h1 h2 hrs b e
  rw[Res.ji (hr r h1)] at e
  rw[Res.ji (hr s h2)]
  exact hrs b e
theorem Dfr.only{D:List Deferred} {B:Nat} {g:G} {w:World} {L:List Nat} {ds:List Deferred}(h:∀i∈R.flatMap Res.ids,i∈L)(k:Dfr D B g w R ds):Dfr D B (g.only L) w R ds:=by
 obtain⟨rs,e,hnd,hr⟩:=k
 refine⟨rs,e,hnd,fun r hm=>?_⟩
 obtain⟨h1,h2,h3,h4⟩:=hr r hm
 refine⟨h1,h2,h3,fun s hs=>?_⟩
 rw[Res.ji (fun i hi=>h i (List.mem_flatMap.2 ⟨s,hs,hi⟩))]
 exact h4 s hs
theorem Own.sub{X:Nat->Prop} {B:Nat} {g:G} {w:World}(h:R'.Sublist R)(k:Own X B g w R):Own X B g w R':=
 ⟨fun r hr=>k.ok r (h.subset hr),fun r hr=>k.at_ r (h.subset hr),k.apart.sublist h⟩
theorem fl:∀{Γ:Env} {t:Nat} {e:Ent},look Γ t=some e->(t,e)∈Γ
 |[],_,_,h=>by simp[look] at h
 |(u,x)::r,t,e,h=>by
  rw[eD] at h
  by_cases hu:u=t
  ·rw[if_pos hu] at h;cases h;subst hu;exact List.mem_cons_self ..
  ·rw[if_neg hu] at h;exact List.mem_cons_of_mem _ (fl h)
theorem St.weak{g:G} {w:World} {a:Act}(hs:Sub Γ' Γ)(h:St C Γ R g w a):St C Γ' R g w a:=
 ⟨h.size,h.defers,h.keep,fun t e he=>h.sat t e (hs.mem _ (fl he)),h.own,h.pin⟩
theorem St.only{g:G} {w:World} {a:Act}(h:St C Γ R g w a):St C Γ R (g.only (C.pi++used Γ R)) w a:=
 ⟨h.size,h.defers.only (fun i hi=>List.mem_append_right _ (List.mem_append_right _ hi)),h.keep,fun t e he=>Ent.only (h.sat t e he) (h:=fun i hi=>List.mem_append_right _ (List.mem_append_left _ (jH (fl he) hi))),h.own.only (fun i hi=>List.mem_append_right _ (List.mem_append_right _ hi)),fun i hi=>(gt (List.mem_append_left _ hi)).trans (h.pin i hi)⟩
theorem iF{g:G} {L:List Nat} {n:Nat}(h:n∉L):(g.only L).nm n=none:=by simp[G.only,h]
theorem wRg{id:Nat} {ops:Array Oper} {l:List Oper} {es:List En}(hl:ops.toList=l)(hc:Chain C.rd C.P ops l Γ R es Γ' R')(hf:fitsN C.N l=true)
  (hn:(nids es).Nodup) (hu:∀n∈nids es,n∉C.pi++used Γ R) {Γp:Env} (hX:PX C Q Γp es) (hG:∀t x,look Γp t=some x->(∀e∈es,e.kind=.boom->look Γ t=some x)) (h:Post C Q .normal Γ' R'):WP C (.region id ops false) Q Γ R:=by
 subst hl
 intro g w a s
 refine wpIn_region ?_
 rw[show List.range ops.size=List.range' 0 ops.toList.length by simp[List.range_eq_range']]
 have:=ll hX hc (jg hf) hn (fun e he=>he) hG 0 [] [] (by simp) _ w a s.only (fun n hn'=>iF (hu n hn')) (fun n hn' hp=>hu n hn' (List.mem_append_left _ hp)) (fun g' w' a' s'=>h g' w' a' s')
 rwa [List.append_nil] at this
theorem oN{es:List En} {n:Nat}(h:lowOk (es.map (·.kind)) (es.map fun e=>e.R.length) n=true):∀(j:Nat) (e:En),es[j]?=some e->e.kind=.low->e.R.length=n/\∀(i:Nat) (ei:En),i<j->es[i]?=some ei->ei.kind.isH=false:=by
 intro j e he hk
 have hj:j<es.length:=(List.getElem?_eq_some_iff.1 he).1
 have h1:=List.all_eq_true.1 h j (List.mem_range.2 (by simpa using hj))
 have hkd:∀(k:Nat) (ek:En),es[k]?=some ek->(es.map (·.kind)).getD k .pure=ek.kind:=by
  intro k ek hek
  rw[List.getD_eq_getElem?_getD,List.getElem?_map,hek];rfl
 have hls:(es.map fun e=>e.R.length).getD j 0=e.R.length:=by
  rw[List.getD_eq_getElem?_getD,List.getElem?_map,he];rfl
 rw[hkd j e he,hls,hk] at h1
 simp only[Kind.isLow,Bool.not_true,Bool.false_or,Bool.and_eq_true] at h1
 refine⟨Nat.eq_of_beq_eq_true h1.1,fun i ei hi hei=>?_⟩
 have h2:=List.all_eq_true.1 h1.2 i (List.mem_range.2 hi)
 rw[hkd i ei hei] at h2
 simpa using h2
theorem oP{es:List En} {b:Bool}(h:(((es.map (·.kind)).all fun k=> !k.isLow)&&b)=true):b=true/\∀(j:Nat) (e:En),es[j]?=some e->e.kind=.low->False:=by
 rw[Bool.and_eq_true] at h
 refine⟨h.2,fun j e he hk=>?_⟩
 have:=List.all_eq_true.1 h.1 e.kind (List.mem_map.2 ⟨e,List.mem_of_getElem? he,rfl⟩)
 rw[hk] at this;cases this
theorem wRgL{id:Nat} {ops:Array Oper} {l:List Oper} {es:List En}(hm:C.P.follows .mixedOrders=true)(hl:ops.toList=l)(hc:Chain C.rd C.P ops l Γ R es Γ' R')(hf:fitsN C.N l=true)
  (hn:(nids es).Nodup) (hu:∀n∈nids es,n∉C.pi++used Γ R) (hr:rgOk0 ops (es.map (·.kind)) (es.map fun e=>e.ins.map (·.1))=true) (hlw:∀(j:Nat) (e:En),es[j]?=some e->e.kind=.low->e.R.length=R.length/\∀(i:Nat) (ei:En),i<j->es[i]?=some ei->ei.kind.isH=false) {Γp:Env} (hX:PX C Q Γp es) (hG:∀t x,look Γp t=some x->(∀e∈es,e.kind=.boom->look Γ t=some x)) (h:Post C Q .normal Γ' R'):WP C (.region id ops true) Q Γ R:=by
 subst hl
 intro g w a s
 refine wpIn_region_any hm ?_
 have s':=s.only
 have hk:Keep C.X C.H0 C.w0 (g.only (C.pi++used Γ R)).H {w with drawn:=w.drawn+1}:=⟨s'.keep.os,s'.keep.tape,s'.keep.output,s'.keep.size,s'.keep.block,s'.keep.old,⟨s'.keep.agree.base,s'.keep.agree.at_⟩⟩
 have ho:Own C.X C.w0.heap.size (g.only (C.pi++used Γ R)) {w with drawn:=w.drawn+1} R:=
  s'.own.mono (G.le.refl _) (Nat.le_refl _) (fun _ _ _=>rfl) (fun _ _ e=>e)
 have hz:(fun i=>(Array.replicate ops.size false).getD i false)=fun _=>false:=by
  funext i
  rw[Array.getD_eq_getD_getElem?,Array.getElem?_replicate]
  split<;>rfl
 refine chain_any hc (jg hf) hn (fun n hn' hp=>hu n hn' (List.mem_append_left _ hp)) (rgFacts hr) hlw hX hG ops.size (Array.replicate ops.size false) (by simp) ?_ (g.only (C.pi++used Γ R)) _ a ?_ s'.size hk ?_ ?_ ?_ s'.pin ?_ (fun g' w' a' s''=>h g' w' a' s'')
 ·simp
 ·intro i o _ hi
  have:=congrFun hz i
  simp only at this hi
  rw[this] at hi
  cases hi
 ·rw[hz,iI];exact s'.sat
 ·rw[hz,iK];exact ho
 ·rw[hz,iK];exact s'.defers
 ·intro i e n he _ hne
  exact iF (hu n (j9.2 ⟨e,List.mem_of_getElem? he,hne⟩))
theorem wRgD{id:Nat} {ops:Array Oper} {l:List Oper} {es:List En}(hm:C.P.follows .mixedOrders=true)(hl:ops.toList=l)(hc:Chain C.rd C.P ops l Γ R es Γ' R')(hf:fitsN C.N l=true)
  (hn:(nids es).Nodup) (hu:∀n∈nids es,n∉C.pi++used Γ R) (hr:rgOk ops (es.map (·.kind)) (es.map fun e=>e.ins.map (·.1))=true) {Γp:Env} (hX:PX C Q Γp es) (hG:∀t x,look Γp t=some x->(∀e∈es,e.kind=.boom->look Γ t=some x)) (h:Post C Q .normal Γ' R'):WP C (.region id ops true) Q Γ R:=
 let ⟨a,b⟩:=oP hr;wRgL hm hl hc hf hn hu a (fun j e he hk=>(b j e he hk).elim) hX hG h
theorem wWeak{c:Code}(hs:Sub Γ' Γ)(h:WP C c Q Γ' R):WP C c Q Γ R:=fun g w a s=>h g w a (s.weak hs)
theorem lWeak{c:Code}(hs:Sub Γ' Γ)(h:LP C c Q Γ' R):LP C c Q Γ R:=fun g w a s=>h g w a (s.weak hs)
theorem wJoin{x y:Code}(J:Act->World->Prop)(h:WP C x (Exit.then J Q) Γ R)(k:∀a w,J a w->CW C y Q a w):WP C (.seq x y) Q Γ R:=
 fun g w a s=>wpIn_seq (wpIn_mono (h g w a s) (fun e a w he=>by cases e<;>first|exact k a w he|exact he))
end
def Sats:List Sig->FH->List Value->Prop
 |[],_,vs=>vs=[]
 |s::r,H,vs=>∃v vr,vs=v::vr/\s.p H v/\Sats r H vr
def Ret(X:Nat->Prop)(H0:FH)(w0:World)(out:Sig):Ending->World->Prop:=fun e w'=>∃v H',e=.returned v/\Keep X H0 w0 H' w'/\out.p H' v
def FnA(P:Program)(f:FuncId)(ins:List Sig)(out:Sig):Prop:=∀(H:FH) (w:World) (args:List Value),Agree H w->Sats ins H args->Calls P f args.toArray w (Ret No H w out)
@[reducible] def paramsAt:Nat->List Sig->Env
 |_,[]=>[]
 |i,s::r=>(i,.d s)::paramsAt (i+1) r
theorem mh:∀{ins:List Sig} {H:FH} {vs:List Value},Sats ins H vs->∀(i:Nat) (pre suf:List Value),pre.length=i->∀t s,look (paramsAt i ins) t=some s->s.ok ⟨H,fun _=>none⟩ ((pre++vs++suf).getD t undef)
 |[],_,_,_,_,_,_,_,t,s,h=>by simp[paramsAt,look] at h
 |s0::r,H,vs,⟨v,vr,e,h1,h2⟩,i,pre,suf,hp,t,s,h=>by
  rw[paramsAt,eD] at h
  subst e
  by_cases ht:i=t
  ·rw[if_pos ht] at h;cases h
   subst ht;subst hp
   simpa [Ent.ok] using h1
  ·rw[if_neg ht] at h
   have:=mh h2 (i+1) (pre++[v]) suf (by simp[hp]) t s h
   simpa using this
theorem iB:∀{ins:List Sig} {H:FH} {vs:List Value},Sats ins H vs->vs.length=ins.length
 |[],_,_,h=>by rw[show _=[] from h];rfl
 |_::_,_,_,⟨v,vr,e,_,h2⟩=>by rw[e,List.length_cons,iB h2];rfl
abbrev BP(C:Cx)(fn:Func)(R:Ending->World->Prop):Exit->Act->World->Prop:=bodyPostM (FR C.rd) 0 C.P fn R
theorem run_take{P:Program} {r:Nat} {w:World}(h:w.heap[r]?=some (.deferred (some []))):(Instr.takeDeferred r).run P w=.ok [] (w.putObj r (.deferred none)):=run_takeDeferred h
theorem St.leaveU{C:Cx} {Γ:Env} {R:List Res} {fn:Func} {Rt:Ending->World->Prop} {tm:Array Value} {g:G} {u:FrameMode}(hu:u≠ .run):
  ∀{rs:List Nat} {w:World},C.rd=none->St C Γ R g w ⟨tm,rs.map mark++C.ds⟩->rs.Nodup->(∀r∈rs,w.heap[r]?=some (.deferred (some []))/\g.H r=none/\C.B<=r/\∀s∈R,¬s.block g r)->(∀w',St C Γ R g w' ⟨tm,C.ds⟩->LeavesInM (FR C.rd) 0 C.P fn tm Rt C.ds u w')->
   LeavesInM (FR C.rd) 0 C.P fn tm Rt (rs.map mark++C.ds) u w:=by
 intro rs
 induction rs with
 |nil=>intro w hrd s _ _ k;exact k w s
 |cons r rs ih=>
  intro w hrd s hnd hr k
  obtain⟨h1,h2,h3,h4⟩:=hr r (List.mem_cons_self ..)
  have hB:C.B=C.w0.heap.size:=by unfold Cx.B;rw[hrd]
  rw[hB] at h3
  have hlt:r<w.heap.size:=(Array.getElem?_eq_some_iff.1 h1).1
  have hoth:∀b,b≠r->(w.putObj r (.deferred none)).heap[b]?=w.heap[b]?:=fun b hb=>World.putObj_heap_other hb
  have hsz:(w.putObj r (.deferred none)).heap.size=w.heap.size:=World.putObj_size
  have hn:=List.nodup_cons.1 hnd
  have hrq:∀q∈rs,(w.putObj r (.deferred none)).heap[q]?=some (.deferred (some []))/\g.H q=none/\C.B<=q/\∀s∈R,¬s.block g q:=fun q hq=>by
   obtain⟨q1,q2,q3,q4⟩:=hr q (List.mem_cons_of_mem _ hq)
   exact⟨by rw[hoth q (fun e=>hn.1 (e▸hq))];exact q1,q2,q3,q4⟩
  refine⟨hu,.inl ⟨r,_,rfl,run_take h1,ih hrd ⟨s.size,⟨rs,rfl,hn.2,hrq⟩,⟨s.keep.os,s.keep.tape,s.keep.output,by rw[hsz];exact s.keep.size,fun b hb hx=>?_,s.keep.old,⟨s.keep.agree.base,fun b o e=>?_⟩⟩,s.sat,⟨fun r' hr'=>?_,fun r' hr' b e=>?_,s.own.apart⟩,s.pin⟩ hn.2 hrq k⟩⟩
  ·rw[hoth b (by omega)];exact s.keep.block b hb hx
  ·rw[hoth b (fun e'=>by subst e';rw[h2] at e;cases e)];exact s.keep.agree b o e
  ·exact Res.gr (G.le.refl g) (by rw[hsz];exact Nat.le_refl _) (fun b e=>hoth b (fun e'=>by subst e';exact h4 r' hr' e)) (s.own.ok r' hr')
  ·obtain⟨a1,a2,a3⟩:=s.own.at_ r' hr' b e
   exact⟨a1,by rw[hsz];exact a2,a3⟩
theorem St.leaveD{C:Cx} {Γ:Env} {R:List Res} {fn:Func} {Rt:Ending->World->Prop} {a:Act} {g:G} {u:FrameMode} {w:World}(hu:u≠ .run)(hrd:C.rd=none)(s:St C Γ R g w a)(k:∀w',St C Γ R g w' ⟨a.tmps,C.ds⟩->LeavesInM (FR C.rd) 0 C.P fn a.tmps Rt C.ds u w'):
  LeavesInM (FR C.rd) 0 C.P fn a.tmps Rt a.defers u w:=by
 obtain⟨rs,e,hnd,hr⟩:=s.defers
 have s':St C Γ R g w ⟨a.tmps,rs.map mark++C.ds⟩:=by rw[<-e];exact s
 rw[e]
 exact St.leaveU hu hrd s' hnd hr k
theorem pLeave{C:Cx} {Γ:Env} {R:List Res} {fn:Func} {Rt:Ending->World->Prop} {e:Exit}(he:e=.ret\/e=.normal)
  (h:∀g w tm,St C Γ R g w ⟨tm,[]⟩->∃v,(results fn tm).run C.P w=.ok v w/\Rt (.returned v) w) (hrd:C.rd=none:=by rfl) (hds:C.ds=[]:=by rfl):Post C (BP C fn Rt) e Γ R:=by
 intro g w a s
 have:=St.leaveD (fn:=fn) (Rt:=Rt) (u:=.returning) (by simp) hrd s (fun w' s'=>by rw[hds] at s'⊢;exact h g w' a.tmps s')
 rcases he with rfl|rfl<;>exact this
theorem pPanic{C:Cx} {Γ:Env} {R:List Res} {fn:Func} {Rt:Ending->World->Prop} {ch:List PanicEntry}
  (h:∀g w tm,St C Γ R g w ⟨tm,[]⟩->Rt (.panicked ch) w) (hrd:C.rd=none:=by rfl) (hds:C.ds=[]:=by rfl):Post C (BP C fn Rt) (.panic ch) Γ R:=by
 intro g w a s
 exact St.leaveD (fn:=fn) (Rt:=Rt) (u:=.panicking ch) (by simp) hrd s (fun w' s'=>by rw[hds] at s'⊢;exact h g w' a.tmps s')
theorem fnEnter{P:Program} {f:FuncId} {fn:Func} {c:Code} {Rt:Ending->World->Prop} {C:Cx} {Γ:Env} {R:List Res} {g:G} {w:World} {args:List Value}(hf:P.funcs[f]?=some fn)(hb:fn.body=some c)(hP:C.P=P)(hrd:C.rd=none)
  (h:WP C c (BP C fn Rt) Γ R) (s:St C Γ R g w ⟨args.toArray++Array.replicate (fn.ntmps-args.toArray.size) undef,[]⟩):Calls P f args.toArray w Rt:=by
 subst hP
 refine(j4 (r:=none) (n:=0)).1 (callsIn_of_wp_marks hf hb trivial ?_)
 have:=h g w _ s
 unfold CW BP at this
 rw[hrd] at this
 exact this
theorem fnIntro{P:Program} {f:FuncId} {fn:Func} {c:Code} {ins:List Sig} {out:Sig}(hf:P.funcs[f]?=some fn)(hb:fn.body=some c)(hN':Nat.ble ins.length fn.ntmps=true)
  (h:∀H0 w0,WP ⟨P,fn.ntmps,No,H0,w0,none,[],fun _=>none,[]⟩ c (BP ⟨P,fn.ntmps,No,H0,w0,none,[],fun _=>none,[]⟩ fn (Ret No H0 w0 out)) (paramsAt 0 ins) []):FnA P f ins out:=by
 have hN:=Nat.le_of_ble_eq_true hN'
 intro H w args hA hs
 refine fnEnter (g:=⟨H,fun _=>none⟩) hf hb rfl rfl (h H w) ⟨?_,⟨[],rfl,List.nodup_nil,fun r hr=>by cases hr⟩,Keep.refl hA,?_,⟨fun r hr=>by simp at hr,fun r hr=>by simp at hr,List.Pairwise.nil⟩,fun i hi=>by cases hi⟩
 ·have:=iB hs
  simp[this];omega
 ·intro t s hts
  have:=mh hs 0 [] (List.replicate (fn.ntmps-args.length) undef) rfl t s hts
  simpa [Array.getD_eq_getD_getElem?,List.getD_eq_getElem?_getD,<-Array.getElem?_toList] using this
theorem iZ:∀{ins:List Sig} {H H':FH} {vs:List Value},FH.le H H'->Sats ins H vs->Sats ins H' vs
 |[],_,_,_,_,h=>h
 |s::_,_,_,_,hl,⟨v,vr,e,h1,h2⟩=>⟨v,vr,e,s.mono hl h1,iZ hl h2⟩
def tup(ss:List Sig):Sig:=⟨fun H v=>∃vs,v=.tuple vs.toArray/\Sats ss H vs,by intro H H' v h k;obtain⟨vs,e,k⟩:=k;exact⟨vs,e,iZ h k⟩⟩
end Go.Proofs.YtmjcpkmongafnaaGreatDoor.Ab
