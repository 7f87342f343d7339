import Derived.Test.YtmjcpkmongafnaaGreatDoorAb23
import Derived.Test.YtmjcpkmongafnaaGreatDoorAb18
set_option linter.unusedVariables false
set_option linter.unusedSimpArgs false
namespace Go.Proofs.YtmjcpkmongafnaaGreatDoor.Ab
open Go Go.RowKit
variable{κ ν:Type}
def mAll(dk:Kd κ)(dv:Kd ν)(H:FH):List MapEntry->List (κ×ν)->Prop
 |[],[]=>True
 |e::es,kv::l=>dk.reps H [e.key] kv.1/\dv.reps H [e.val] kv.2/\mAll dk dv H es l
 |_,_=>False
theorem jL{dk:Kd κ} {dv:Kd ν} {H H':FH}(h:FH.le H H'):∀{es:List MapEntry} {l:List (κ×ν)},mAll dk dv H es l->mAll dk dv H' es l
 |[],[],_=>trivial
 |e::es,kv::l,⟨h1,h2,h3⟩=>⟨dk.mono h h1,dv.mono h h2,jL h h3⟩
 |[],_::_,k=>k
 |_::_,[],k=>k
theorem nF{dk:Kd κ} {dv:Kd ν} {H:FH} {e:MapEntry} {kv:κ×ν}(h1:dk.reps H [e.key] kv.1)(h2:dv.reps H [e.val] kv.2):∀{es:List MapEntry} {l:List (κ×ν)},mAll dk dv H es l->mAll dk dv H (es++[e]) (l++[kv])
 |[],[],_=>⟨h1,h2,trivial⟩
 |e'::es,kv'::l,⟨q1,q2,q3⟩=>⟨q1,q2,nF h1 h2 q3⟩
 |[],_::_,k=>k.elim
 |_::_,[],k=>k.elim
def sMap(dk:Kd κ)(dv:Kd ν)(l:List (κ×ν)):Sig:=⟨fun H v=>∃b es n,v=.map (some b)/\H b=some (.map es n)/\mAll dk dv H es.toList l,
 fun h ⟨b,es,n,e,h1,h2⟩=>⟨b,es,n,e,h _ _ h1,jL h h2⟩⟩
def aMap(dk:Kd κ)(dv:Kd ν):Abs (List (κ×ν)):=⟨fun l H w bs=>∃b es n,bs=[b]/\w.heap[b]?=some (.map es n)/\mAll dk dv H es.toList l,
 fun h hs hb ⟨b,es,n,e,h1,h2⟩=>⟨b,es,n,e,by rw[hb b (by rw[e];simp)];exact h1,jL h h2⟩⟩
def sMapN:SigN:=⟨fun H vs v=>∃b,vs=[encB [b]]/\v=.map (some b),fun _ h=>h⟩
def mFind [DecidableEq κ]:List (κ×ν)->κ->Option ν
 |[],_=>none
 |kv::r,x=>if x=kv.1 then some kv.2 else mFind r x
def mGet [DecidableEq κ](l:List (κ×ν))(z:ν)(x:κ):ν×Bool:=match mFind l x with|some y=>(y,true)|none=>(z,false)
structure MKey(P:Program)(K:TypeId)(td:TypeDesc)[DecidableEq κ](dk:Kd κ):Prop where
 und:P.underlying K=some td
 ag:dk.agg=false
 chk:∀(H:FH) (v:Value) (x:κ) (e:Bool) (w:World),dk.reps H [v] x->(Instr.checkKey e 10000 K v).run P w=.ok () w
 same:∀(H:FH) (a b:Value) (x y:κ),dk.reps H [a] x->dk.reps H [b] y->Instr.sameNow td a b=some (decide (x=y))
theorem keyI{P:Program} {K:TypeId} {k:IntKind}(h:P.underlying K=some (.int k)):MKey P K (.int k) (kI k):=by
 refine⟨h,rfl,fun H v x e w hr=>?_,fun H a b x y ha hb=>?_⟩
 ·obtain⟨hv,_⟩:=hr
  simp at hv;subst hv
  rw[Instr.checkKey]
  simp only[Sem.run_bind,run_underlying h,Result.andThen_ok,Sem.run_pure]
 ·obtain⟨h1,_⟩:=ha
  obtain⟨h2,_⟩:=hb
  simp at h1 h2;subst h1 h2
  show (if k=k then some (x==y) else none)=_
  rw[if_pos rfl]
  congr 1
theorem jk{P:Program} {K:TypeId} {td:TypeDesc}[DecidableEq κ]{dk:Kd κ} {dv:Kd ν} {H:FH}(hk:MKey P K td dk){v:Value} {x:κ}(hx:dk.reps H [v] x):∀{es:List MapEntry} {l:List (κ×ν)} (i:Nat),mAll dk dv H es l->
  (mFind l x=none->Instr.findNow td v es i=some none)/\∀y,mFind l x=some y->∃j u,Instr.findNow td v es i=some (some (j,u))/\dv.reps H [u] y
 |[],[],i,_=>⟨fun _=>rfl,fun y h=>by cases h⟩
 |e::es,kv::l,i,⟨h1,h2,h3⟩=>by
  have hs:=hk.same H v e.key x kv.1 hx h1
  have ih:=jk hk hx (i+1) h3
  unfold mFind Instr.findNow
  rw[hs]
  by_cases q:x=kv.1
  ·rw[if_pos q,decide_eq_true q]
   exact⟨fun h=>(by cases h),fun y h=>(by cases h;exact⟨i,e.val,rfl,h2⟩)⟩
  ·rw[if_neg q,decide_eq_false q]
   exact ih
 |[],_::_,_,k=>k.elim
 |_::_,[],_,k=>k.elim
section
variable{rd:Option Nat} {P:Program} {x y z:Operand} {i j k3:Env} {dst:Option Nat} {T T' ty K E:TypeId} {pos:String} {af:Array Edge} {gd:Option (Nat×Bool)} {R:List Res} {td:TypeDesc}
theorem kM{dk:Kd κ} {H:FH} {v:Value} {x:κ}(ha:dk.agg=false)(h:(dk.sig x).p H v):dk.reps H [v] x:=by
 obtain⟨cs,hr,e⟩:=h
 have hl:=dk.len hr
 rw[dk.one ha] at hl
 match cs,hl with
 |[c],_=>
  rw[ha] at e
  rw[show v=c from e];exact hr
theorem kO{dk:Kd κ} {H:FH} {v:Value} {x:κ}(ha:dk.agg=false)(h:dk.reps H [v] x):(dk.sig x).p H v:=⟨[v],h,by rw[ha];rfl⟩
theorem jQ{w:World}[DecidableEq κ]{dk:Kd κ} {v:Value} {es:List MapEntry} {r:Option (Nat×Value)}(hk:MKey P K td dk)(h:Instr.findNow td v es 0=some r):(Instr.findKey K v es).run P w=.ok r w:=by
 simp only[Instr.findKey,Sem.run_bind,run_underlying hk.und,Result.andThen_ok,h,Sem.run_pure]
theorem lp{w:World} {r:Nat} {es:Array MapEntry} {clock:Nat}(hb:w.heap[r]?=some (.map es clock)):(getObj r).run P w=.ok (.map es clock) w:=by simp[getObj,Sem.run,hb]
theorem run_setM{w:World} {r:Nat} {es:Array MapEntry} {clock:Nat}(o:Obj)(hb:w.heap[r]?=some (.map es clock)):(setObj r o).run P w=.ok () {w with heap:=w.heap.setIfInBounds r o}:=by simp[setObj,Sem.run,hb]
theorem oLookup [DecidableEq κ]{dk:Kd κ} {dv:Kd ν} {l:List (κ×ν)} {kx:κ} {z0:ν} {zv:Value}(hT:P.underlying T=some (.map K E))(hk:MKey P K td dk)(hz:zeroV P E zv)(hz':∀H,dv.reps H [zv] z0)(ha:dv.agg=false)
  (h:Opd x (.d (sMap dk dv l)) i) (h':Opd y (.d (dk.sig kx)) j):OkP P ⟨dst,.lookup T x y true,ty,pos,af,gd⟩ (i++j) (.d (tup [dv.sig (mGet l z0 kx).1,kB.sig (mGet l z0 kx).2])):=okV fun g w ac hA hs=>by
 obtain⟨b,es,n,e,hb,hall⟩:=h g ac (satI_l hs)
 have hkey:=kM hk.ag (h' g ac (satI_r hs))
 have hget:=hA b _ hb
 have hf:=jk hk hkey 0 hall
 have hrun:∀r:Option (Nat×Value),Instr.findNow td (ac.eval y) es.toList 0=some r->(execOp ac.eval ⟨dst,.lookup T x y true,ty,pos,af,gd⟩).run P w=.ok (.value (.tuple #[(match r with|some (_,v)=>v|none=>zv),.bool r.isSome])) w:=by
  intro r hr
  simp only[execOp,Instr.lookup,Sem.run_bind,run_underlying hT,Result.andThen_ok,e,lp hget,Sem.run_pure,hk.chk g.H _ _ _ w hkey,jQ hk hr]
  cases r with
  |none=>simp only[Sem.run_bind,jK hz,Result.andThen_ok,Sem.run_pure];rfl
  |some p=>obtain⟨q,v⟩:=p;simp only[Sem.run_bind,Result.andThen_ok,Sem.run_pure];rfl
 unfold mGet
 cases hm:mFind l kx with
 |none=>
  refine⟨_,hrun _ (hf.1 hm),[zv,.bool false],rfl,_,_,rfl,kO ha (hz' _),_,_,rfl,kB_sig.2 rfl,rfl⟩
 |some yv=>
  obtain⟨q,u,h1,h2⟩:=hf.2 _ hm
  refine⟨_,hrun _ h1,[u,.bool true],rfl,_,_,rfl,kO ha h2,_,_,rfl,kB_sig.2 rfl,rfl⟩
theorem oMkMap{dk:Kd κ} {dv:Kd ν} {id:Nat}:Ok P ⟨dst,.makeMap T none,ty,pos,af,gd⟩ [] R (.f [id] sMapN) (some id) (.abs id (aMap dk dv) []::R):=by
 intro X H0 w0 g w a KK Q hk hi ho hn hK
 unfold Oper.wp
 rw[show (execOp a.eval ⟨dst,.makeMap T none,ty,pos,af,gd⟩).run P w=.ok (.value (.map (some w.heap.size))) (w.alloc (.map #[] 0)) by
  simp only[execOp,Instr.makeMap,newObj,Sem.run_bind,Sem.run,Sem.run_pure,Sem.run_pure',Result.andThen_ok];rfl]
 have hid:=hn id rfl
 have hle:G.le g (g.name id (encB [w.heap.size])):=gY hid
 refine hK _ (g.name id (encB [w.heap.size])) _ (gT hk _) hle (fun j e hj=>?_) ⟨[encB [w.heap.size]],by simp[dQ],w.heap.size,rfl,rfl⟩ ?_
 ·rw[io (fun hji=>hj (by rw[hji]))];exact e
 ·have ho':Own X w0.heap.size (g.name id (encB [w.heap.size])) (w.alloc (.map #[] 0)) R:=ho.mono hle (by simp) (fun b hb _=>Below.heap_alloc w _ b hb) (fun b hb e=>e)
  refine Own.add ho' ⟨[w.heap.size],dQ ..,w.heap.size,#[],0,rfl,ig w _,trivial⟩ ?_
  intro b e
  have hb:b=w.heap.size:=by
   obtain⟨bs,e1,e2⟩:=e
   rw[dQ] at e1
   have:=encB_inj (Option.some.inj e1)
   subst this
   simpa using e2
  subst hb
  refine⟨hk.agree.none (Nat.le_refl _),by simp,.inr hk.size,?_⟩
  intro s hs e'
  rw[Res.du hle (ho.ok s hs)] at e'
  have:=(ho.at_ s hs _ e').2.1
  omega
theorem oz{X:Nat->Prop} {H0 H:FH} {w0 w:World}(h:Keep X H0 w0 H w){b:Nat}(hX:X b\/w0.heap.size<=b)(hH:H b=none)(o:Obj):Keep X H0 w0 H {w with heap:=w.heap.setIfInBounds b o}:=by
 refine h.step (Y:=fun i=>i=b) ⟨rfl,rfl,rfl,by simp,fun i hi hn=>?_,fun _ _ _=>rfl,⟨h.agree.base,fun i o' e=>?_⟩⟩ (fun i hi=>by subst hi;exact hX)
 ·show (w.heap.setIfInBounds b o)[i]?=_
  rw[Array.getElem?_setIfInBounds_ne (fun q=>hn q.symm)]
 ·show (w.heap.setIfInBounds b o)[i]?=_
  rw[Array.getElem?_setIfInBounds_ne (fun hi=>by subst hi;rw[hH] at e;cases e)]
  exact h.agree i o' e
theorem oInsert [DecidableEq κ]{dk:Kd κ} {dv:Kd ν} {l:List (κ×ν)} {kx:κ} {vx:ν} {id n:Nat}(hr:R[n]?=some (.abs id (aMap dk dv) l))(hT:P.underlying T=some (.map K E))(hk:MKey P K td dk)(ha:dv.agg=false)(hnew:(mFind l kx).isNone=true)
  (h:Opd x (.f [id] sMapN) i) (h':Opd y (.d (dk.sig kx)) j) (h'':Opd z (.d (dv.sig vx)) k3):Ok P ⟨dst,.insert T x y z,ty,pos,af,gd⟩ (i++(j++k3)) R (.d sAny) none (R.set n (.abs id (aMap dk dv) (l++[(kx,vx)]))):=by
 intro X H0 w0 g w a KK Q hkp hi hown _ hK
 obtain⟨vs,hvs,b,e1,e⟩:=h g a (satI_l hi)
 have hkey:=kM hk.ag (h' g a (satI_l (satI_r hi)))
 have hval:=kM ha (h'' g a (satI_r (satI_r hi)))
 obtain⟨bs,hnm,b',es,c,e2,hget,hall⟩:=hown.get hr
 subst e1 e2
 simp only[List.map_cons,List.map_nil,List.cons.injEq,and_true] at hvs
 rw[hvs] at hnm
 have hbb:=encB_inj (Option.some.inj hnm)
 simp only[List.cons.injEq,and_true] at hbb
 subst hbb
 have hblk:(Res.abs id (aMap dk dv) l).block g b:=⟨[b],hvs,by simp⟩
 obtain⟨q1,q2,q3⟩:=hown.at_ _ (List.mem_of_getElem? hr) b hblk
 have hf:=(jk hk hkey 0 hall).1 (by simpa using hnew)
 unfold Oper.wp
 rw[show (execOp a.eval ⟨dst,.insert T x y z,ty,pos,af,gd⟩).run P w=.ok .skip {w with heap:=w.heap.setIfInBounds b (.map (es.push {key:=a.eval y,val:=a.eval z,born:=c}) (c+1))} by
  simp only[execOp,Instr.mapUpdate,Sem.run_bind,run_underlying hT,Result.andThen_ok,e,lp hget,Sem.run_pure,hk.chk g.H _ _ _ w hkey,jQ hk hf,run_setM _ hget]]
 refine hK undef g _ (oz hkp q3 q1 _) (G.le.refl g) (fun i e _=>e) trivial ?_
 have hlt:b<w.heap.size:=q2
 refine hown.put hr (G.le.refl g) (by simp) (fun b' hb' _ hne=>?_) (fun _ _ e _=>e) ⟨[b],hvs,b,es.push {key:=a.eval y,val:=a.eval z,born:=c},c+1,rfl,?_,?_⟩ ?_
 ·show (w.heap.setIfInBounds b _)[b']?=_
  rw[Array.getElem?_setIfInBounds_ne (fun q=>hne (by rw[<-q];exact hblk))]
 ·show (w.heap.setIfInBounds b _)[b]?=_
  rw[Array.getElem?_setIfInBounds_self_of_lt hlt]
 ·rw[Array.toList_push]
  exact nF hkey hval hall
 ·intro b' e'
  obtain⟨bs,e1,e2⟩:=e'
  rw[hvs] at e1
  have:=encB_inj (Option.some.inj e1)
  subst this
  have:b'=b:=by simpa using e2
  subst this
  exact⟨q1,by simpa using hlt,q3,.inl hblk⟩
end
section
variable{C:Cx} {Q:Exit->Act->World->Prop} {Γ:Env} {R:List Res}
theorem wFrzM{dk:Kd κ} {dv:Kd ν} {l:List (κ×ν)} {n id:Nat} {c:Code}(t:Nat)(hr:R[n]?=some (.abs id (aMap dk dv) l))(ht:look Γ t=some (.f [id] sMapN))
  (h:WP C c Q ((t,.d (sMap dk dv l))::Γ) (R.eraseIdx n)):WP C c Q Γ R:=by
 intro g w a s
 obtain⟨bs,hnm,b,es,m,e2,hget,hall⟩:=s.own.get hr
 subst e2
 have hblk:(Res.abs id (aMap dk dv) l).block g b:=⟨[b],hnm,by simp⟩
 obtain⟨h1,h2,h3⟩:=s.own.at_ _ (List.mem_of_getElem? hr) b hblk
 have hle:G.le g (g.frz b (.map es m)):=jt h1
 refine h (g.frz b (.map es m)) w a ⟨s.size,mj s.own s.defers hr hblk h1,li s.keep h3 h1 hget,fun t' e he=>?_,mi s.own hr hblk h1,s.pin⟩
 rw[eD] at he
 by_cases htt:t=t'
 ·rw[if_pos htt] at he;cases he
  subst htt
  obtain⟨vs,hvs,b',e1,e'⟩:=s.sat t _ ht
  subst e1
  simp only[List.map_cons,List.map_nil,List.cons.injEq,and_true] at hvs
  rw[hvs] at hnm
  have hbb:=encB_inj (Option.some.inj hnm)
  simp only[List.cons.injEq,and_true] at hbb
  subst hbb
  exact⟨b',es,m,e',kK ..,jL hle.1 hall⟩
 ·rw[if_neg htt] at he
  exact Ent.mono hle (s.sat t' e he)
end
section
variable{rd:Option Nat} {P:Program} {x y z:Operand} {i j k3:Env} {dst:Option Nat} {T T' ty:TypeId} {pos:String} {af:Array Edge} {gd:Option (Nat×Bool)} {R:List Res}
end
end Go.Proofs.YtmjcpkmongafnaaGreatDoor.Ab
