import Derived.Test.YtmjcpkmongafnaaGreatDoorAb34
set_option linter.unusedVariables false
set_option linter.unusedSimpArgs false
namespace Go.Proofs.YtmjcpkmongafnaaGreatDoor.Ab
open Go Go.RowKit
theorem Leaf.mp_id(l:Leaf):l.mp (fun i=>i)=l:=by cases l<;>rfl
theorem Res.mp_id(r:Res):r.mp (fun i=>i)=r:=by
 cases r with
 |box i T ls=>
  have:ls.map (Leaf.mp fun i=>i)=ls:=by
   induction ls with
   |nil=>rfl
   |cons l ls ih=>rw[List.map_cons,Leaf.mp_id,ih]
  simp only[Res.mp,this]
 |row i T d xs=>rfl
 |abs i A s=>rfl
theorem Res.mps_id(R:List Res):R.map (Res.mp fun i=>i)=R:=by
 induction R with
 |nil=>rfl
 |cons r R ih=>rw[List.map_cons,Res.mp_id,ih]
theorem Ent.mp_id(e:Ent):e.mp (fun i=>i)=e:=by
 cases e<;>simp[Ent.mp]
theorem Ent.mps_id(R:List Ent):R.map (Ent.mp fun i=>i)=R:=by
 induction R with
 |nil=>rfl
 |cons r R ih=>rw[List.map_cons,Ent.mp_id,ih]
def TurnN{σ:Type}(A:Abs σ)(s':σ)(X:Nat->Prop)(H:FH)(w:World)(bs:List Nat)(H':FH)(w':World):Prop:=
 ∃bs',Keep (fun b=>b∈bs\/X b) H w H' w'/\A.p s' H' w' bs'/\∀b∈bs',H' b=none/\b<w'.heap.size/\(b∈bs\/X b\/w.heap.size<=b)
def FnYN{α β:Type}(P:Program)(f:FuncId)(sa:α->Sig)(sb:β->Sig)(ins:List Ent)(Rc:List Res)(F:{σ:Type}->(σ->α->β->Option (Bool×σ))->σ->Option σ):Prop:=
 ∀(σ:Type) (A:Abs σ) (y:σ->α->β->Option (Bool×σ)) (s s':σ),F y s=some s'->∀(g:G) (w:World) (bs:List Nat) (args:List Value),
  Agree g.H w->SatsE (.d (sYield P A y sa sb)::ins) g args->A.p s g.H w bs->Free g.H w bs->Own (fun _=>True) 0 g w Rc->(∀b∈bs,¬Blk g Rc b)->
  Calls P f args.toArray w (fun e w'=>∃v H',e=.returned v/\TurnN A s' (Blk g Rc) g.H w bs H' w')
def RetYN{σ:Type}(A:Abs σ)(s':σ)(X:Nat->Prop)(H:FH)(w:World)(bs:List Nat):Ending->World->Prop:=fun e w'=>∃v H',e=.returned v/\TurnN A s' X H w bs H' w'
theorem fnIntroYN{α β:Type} {P:Program} {f:FuncId} {fn:Func} {c:Code} {sa:α->Sig} {sb:β->Sig} {ins:List Ent} {Rc:List Res} {F:{σ:Type}->(σ->α->β->Option (Bool×σ))->σ->Option σ}(id:Nat)
  (hf:P.funcs[f]?=some fn) (hb:fn.body=some c) (hN':Nat.ble (ins.length+1) fn.ntmps=true) (hid:memB id (Rc.flatMap Res.ids++ins.flatMap Ent.ids)=false)
  (h:∀(σ:Type) (A:Abs σ) (y:σ->α->β->Option (Bool×σ)) (s s':σ),F y s=some s'->∀bs X H0 w0,
   WP ⟨P,fn.ntmps,fun b=>b∈bs\/X b,H0,w0,none,[],fun _=>none,[]⟩ c (BP ⟨P,fn.ntmps,fun b=>b∈bs\/X b,H0,w0,none,[],fun _=>none,[]⟩ fn (RetYN A s' X H0 w0 bs)) (paramsE 0 (.d (sYield P A y sa sb)::ins)) (.abs id A s::Rc)):FnYN P f sa sb ins Rc F:=by
 have hN:=Nat.le_of_ble_eq_true hN'
 have hni:id∉Rc.flatMap Res.ids++ins.flatMap Ent.ids:=fun hm=>by rw[memB_iff.2 hm] at hid;cases hid
 rintro σ A y s s' hF ⟨H,nm⟩ w bs args hA hs hp hfr ho hap
 let nm1:Nat->Option Value:=fun j=>if j=id then some (encB bs) else nm j
 have hnm:∀i,i≠id->nm i=nm1 i:=fun i hi=>by simp only[nm1,if_neg hi]
 have hnR:∀r∈Rc,∀i∈r.ids,nm i=nm1 ((fun i=>i) i):=fun r hr i hi=>hnm i fun e=>hni (List.mem_append_left _ (List.mem_flatMap.2 ⟨r,hr,e▸hi⟩))
 have hnE:∀e∈(.d (sYield P A y sa sb)::ins:List Ent),∀i∈e.ids,nm i=nm1 ((fun i=>i) i):=fun e he i hi=>hnm i fun q=>by
  rcases List.mem_cons.1 he with rfl|he
  ·simp[Ent.ids] at hi
  ·exact hni (List.mem_append_right _ (List.mem_flatMap.2 ⟨e,he,q▸hi⟩))
 have ho1:Own (fun _=>True) 0 ⟨H,nm1⟩ w Rc:=by
  have:=(Own.mp (H:=H) (nm:=nm) (nm':=nm1) (τ:=fun i=>i) (X:=fun _=>True) (B:=0) (w:=w) hnR).2 ho
  rwa [Res.mps_id] at this
 have hblk:∀r∈Rc,∀b,r.block ⟨H,nm1⟩ b->r.block ⟨H,nm⟩ b:=fun r hr b e=>by
  have:=Res.gM (H:=H) (nm:=nm) (nm':=nm1) (τ:=fun i=>i) (hnR r hr)
  rw[Res.mp_id] at this
  rw[<-this];exact e
 have habs:∀b,(Res.abs id A s).block ⟨H,nm1⟩ b->b∈bs:=by
  rintro b ⟨bs2,e2,hm⟩
  have e2':some (encB bs)=some (encB bs2):=by simpa [nm1] using e2
  rw[encB_inj (Option.some.inj e2')];exact hm
 refine fnEnter (g:=⟨H,nm1⟩) hf hb rfl rfl (h σ A y s s' hF bs (Blk ⟨H,nm⟩ Rc) H w) ⟨?_,⟨[],rfl,List.nodup_nil,fun r hr=>by cases hr⟩,Keep.refl hA,?_,⟨fun r hr=>?_,fun r hr b e=>?_,?_⟩,fun i hi=>by cases hi⟩
 ·have:=jE hs
  simp at this hN⊢
  omega
 ·intro t e hts
  have hs1:SatsE (.d (sYield P A y sa sb)::ins) ⟨H,nm1⟩ args:=by
   have hsw:∀e∈(.d (sYield P A y sa sb)::ins:List Ent),∀i∈e.ids,nm1 i=nm ((fun i=>i) i):=fun e he i hi=>(hnE e he i hi).symm
   refine satsE_mp (H:=H) (nm:=nm1) (nm':=nm) (τ:=fun i=>i) hsw ?_
   rw[Ent.mps_id];exact hs
  have:=satsE_at hs1 0 [] (List.replicate (fn.ntmps-args.length) undef) rfl t e hts
  simpa [Array.getD_eq_getD_getElem?,List.getD_eq_getElem?_getD,<-Array.getElem?_toList] using this
 ·rcases List.mem_cons.1 hr with rfl|hr
  ·exact⟨bs,by simp[nm1],hp⟩
  ·exact ho1.ok r hr
 ·rcases List.mem_cons.1 hr with rfl|hr
  ·obtain⟨q1,q2⟩:=hfr b (habs b e)
   exact⟨q1,q2,.inl (.inl (habs b e))⟩
  ·exact⟨(ho1.at_ r hr b e).1,(ho1.at_ r hr b e).2.1,.inl (.inr ⟨r,hr,hblk r hr b e⟩)⟩
 ·refine List.pairwise_cons.2 ⟨fun r hr b e e'=>hap b (habs b e) ⟨r,hr,hblk r hr b e'⟩,ho1.apart⟩
theorem pRYN{σ:Type} {A:Abs σ} {s':σ} {C:Cx} {bs:List Nat} {X:Nat->Prop} {fn:Func} {e:Exit} {Γ:Env} {R:List Res} {n id:Nat}(he:e=.ret\/e=.normal)(hX:C.X=fun b=>b∈bs\/X b)(hr:fn.results.toList=[])(hR:R[n]?=some (.abs id A s'))(hrd:C.rd=none:=by rfl)(hds:C.ds=[]:=by rfl):Post C (BP C fn (RetYN A s' X C.H0 C.w0 bs)) e Γ R:=by
 refine pLeave he (fun g w tm s=>?_) hrd hds
 have hr':fn.results= #[]:=by apply Array.ext';simpa using hr
 obtain⟨bs',hbs,hp⟩:=s.own.get hR
 refine⟨.tuple #[],by simp[results,hr'],_,g.H,rfl,bs',hX▸s.keep,hp,fun b hb=>?_⟩
 obtain⟨q1,q2,q3⟩:=s.own.at_ _ (List.mem_of_getElem? hR) b ⟨bs',hbs,hb⟩
 rw[hX] at q3
 exact⟨q1,q2,or_assoc.1 q3⟩
theorem pSF{fn:Func} {t:Nat} {ent:Ent} {e:Exit} {C:Cx} {Γ:Env} {R R':List Res}(is:List Nat)(hnd:nodupB is=true)(hp:is.map (fun i=>R[i]?)=R'.map some)(he:e=.ret\/e=.normal)(hr:fn.results.toList=[.tmp t])(hl:look Γ t=some ent)(hrd:C.rd=none:=by rfl)(hds:C.ds=[]:=by rfl):Post C (BP C fn (RetQ C.X C.H0 C.w0 C.pi C.pv ent R')) e Γ R:=by
 refine pLeave he (fun g w tm s=>?_) hrd hds
 have hr':fn.results= #[.tmp t]:=by apply Array.ext';simpa using hr
 refine⟨tm.getD t undef,by simp[results,hr'],_,g,rfl,s.keep,s.pin,s.sat t _ hl,s.own.pick (fC hnd) hp⟩
theorem wRangeN{τ α β:Type} {C:Cx} {Q:Exit->Act->World->Prop} {Γ Γ':Env} {f:FuncId} {t p1 p2:Nat} {assign body:Code} {caps:List (Option Sig)} {ids kn:List Nat} {Rc:List Res} {sa:α->Sig} {sb:β->Sig} {F:{σ:Type}->(σ->α->β->Option (Bool×σ))->σ->Option σ}
  {Γ2:α->β->Env} {o:τ×Nat} (tm:List (Nat×Nat)) (Rs:τ->List Res) (Rs2:τ->α->β->List Res) (js:List Code) (pi:List Nat) (yb:τ->α->β->Option (Bool×(τ×Nat))) (t0:τ)
  (hrd:C.rd=none) (hfY:FnYN C.P f sa sb (capE caps kn) Rc F) (hkn:kn.map (asF tm)=ids) (hbod:bodied C.P f) (hrun:F (yOf yb) (t0,0)=some o)
  (ht:look Γ t=some (.f ids (sCloN f caps))) (hΓ:Sub Γ' Γ) (hids:subB (C.pi++usedE Γ') pi=true) (hps:Nat.beq p1 p2=false) (hp:Nat.ble (max p1 p2+1) C.N=true)
  (hA:∀X H0 w0 l pv s a b,WP ⟨C.P,C.N,X,H0,w0,some l,pi,pv,[]⟩ assign (QA ⟨C.P,C.N,X,H0,w0,some l,pi,pv,[]⟩ (Γ2 a b) (Rs2 s a b)) ((p1,.d (sa a))::(p2,.d (sb b))::Γ') (Rs s))
  (hB:∀X H0 w0 l pv s a b o,yb s a b=some o->WP ⟨C.P,C.N,X,H0,w0,some l,pi,pv,[]⟩ body (RB ⟨C.P,C.N,X,H0,w0,some l,pi,pv,[]⟩ Rs js o) (Γ2 a b) (Rs2 s a b))
  (hK:JP C Q Γ' (Rs o.1) (jOf js o.2)):WP C (.rangeFunc (.tmp t) #[p1,p2] assign body) Q Γ (Rs t0++Rc.map (Res.mp (asF tm))):=by
 intro g w a s
 have hne:p1≠p2:=fun e=>by subst e;simp[Nat.beq_refl] at hps
 have hpN:=Nat.le_of_ble_eq_true hp
 have hpi:=ku hids
 refine wpIn_rangeFunc fun fn _=>?_
 let r0:=w.heap.size
 let l:=r0+1
 let rec0:Loop:={state:=.ready,pending:=none,fn,tmps:=a.tmps,params:= #[p1,p2],assign,body,defers:=r0}
 let w1:=(w.alloc (.deferred (some []))).alloc (.loop rec0)
 have he:(Instr.enterLoop fn a.tmps #[p1,p2] assign body (FR C.rd).round).run C.P w=.ok (l,[mark r0]) w1:=by
  rw[hrd];exact run_enterLoop_outer fn a.tmps #[p1,p2] assign body
 obtain⟨vs,hvs,cs,ev,hcs⟩:=s.sat t _ ht
 have ev:a.eval (.tmp t)=.func (.func f) #[] cs.toArray:=by
  have:a.eval (.tmp t)=a.tmps.getD t undef:=rfl
  rw[this];exact ev
 have hsz1:w1.heap.size=w.heap.size+2:=by simp[w1]
 have hold:∀b,b<w.heap.size->w1.heap[b]?=w.heap[b]?:=fun b hb=>(Below.heap_alloc _ _ b (by simp;omega)).trans (Below.heap_alloc w _ b hb)
 have hl1:w1.heap[l]?=some (.loop rec0):=by
  have:=ig (w.alloc (.deferred (some []))) (.loop rec0)
  simpa [w1,l,r0] using this
 have hr1:w1.heap[r0]?=some (.deferred (some [])):=(Below.heap_alloc _ _ r0 (by simp[r0])).trans (ig w _)
 have hk1:Keep C.X C.H0 C.w0 g.H w1:=gT (gT s.keep _) _
 have hoA:Own C.X C.w0.heap.size g w (Rs t0):=s.own.sub (List.sublist_append_left ..)
 have hoC:Own C.X C.w0.heap.size g w (Rc.map (Res.mp (asF tm))):=s.own.sub (List.sublist_append_right ..)
 have hcross:=(List.pairwise_append.1 s.own.apart).2.2
 obtain⟨bs,hbs⟩:=jf hoA.ok
 let gc:G:=⟨g.H,fun i=>g.nm (asF tm i)⟩
 have hpull:Own C.X C.w0.heap.size gc w Rc:=(Own.mp (H:=g.H) (nm:=fun i=>g.nm (asF tm i)) (nm':=g.nm) (τ:=asF tm) (fun r _ i _=>rfl)).1 hoC
 have hcB:∀b,Blk gc Rc b->g.H b=none/\b<w.heap.size/\(C.X b\/C.w0.heap.size<=b):=fun b ⟨r,hr,e⟩=>hpull.at_ r hr b e
 have hcR:∀b,Blk gc Rc b->∃r∈Rc.map (Res.mp (asF tm)),r.block g b:=fun b ⟨r,hr,e⟩=>
  ⟨r.mp (asF tm),List.mem_map.2 ⟨r,hr,rfl⟩,by
   have:=Res.gM (H:=g.H) (nm:=fun i=>g.nm (asF tm i)) (nm':=g.nm) (τ:=asF tm) (r:=r) (fun i _=>rfl)
   rw[this];exact e⟩
 have hat:∀b∈bs,g.H b=none/\b<w.heap.size/\(C.X b\/C.w0.heap.size<=b):=fun b hb=>let ⟨r,hr,e⟩:=(hbs b).1 hb;hoA.at_ r hr b e
 have hHr:g.H r0=none:=s.keep.agree.none (Nat.le_refl _)
 have hHl:g.H l=none:=s.keep.agree.none (by simp[l,r0])
 have hp0:(rAbs Rs js pi g.nm l rec0).p (t0,0) g.H w1 (l::bs):=by
  refine⟨⟨g,rfl,fun _ _=>rfl,fun r hr=>Res.gr (G.le.refl g) (by omega) (fun b e=>hold b (hoA.at_ r hr b e).2.1) (hoA.ok r hr),hoA.apart,fun r hr b e=>⟨List.mem_cons_of_mem _ ((hbs b).2 ⟨r,hr,e⟩),?_⟩⟩,List.mem_cons_self ..,hl1⟩
  have:=(hoA.at_ r hr b e).2.1
  show b≠r0+1
  omega
 have hfr:Free g.H w1 (l::bs):=by
  intro b hb
  rcases List.mem_cons.1 hb with rfl|hb
  ·exact⟨hHl,by rw[hsz1];simp[l,r0]⟩
  ·exact⟨(hat b hb).1,by have:=(hat b hb).2.1;omega⟩
 have hoC1:Own (fun _=>True) 0 gc w1 Rc:=⟨fun r hr=>Res.gr (G.le.refl gc) (by omega) (fun b e=>hold b (hpull.at_ r hr b e).2.1) (hpull.ok r hr),fun r hr b e=>⟨(hpull.at_ r hr b e).1,by have:=(hpull.at_ r hr b e).2.1;omega,.inl trivial⟩,hpull.apart⟩
 have hap:∀b∈l::bs,¬Blk gc Rc b:=by
  intro b hb hB
  rcases List.mem_cons.1 hb with rfl|hb
  ·have:=(hcB _ hB).2.1
   simp[l,r0] at this
   omega
  ·obtain⟨r,hr,e⟩:=(hbs b).1 hb
   obtain⟨r',hr',e'⟩:=hcR b hB
   exact hcross r hr r' hr' b e e'
 obtain⟨fnc,hfn,hb'⟩:=Option.map_eq_some_iff.1 hbod
 simp only[Bool.and_eq_true,Bool.not_eq_true',beq_eq_false_iff_ne,ne_eq] at hb'
 have hc:∀a0:Array Value,(callFunc f a0).run C.P w1=.ok (.enter f a0) w1:=by
  intro a0
  have hbn:fnc.body.isNone=false:=by simpa using hb'.1
  simp only[callFunc,program,Sem.run_bind,Sem.run,Sem.run_pure',Result.andThen_ok,hfn]
  rw[if_neg (by simpa using hb'.2),if_neg (by simp[hbn])]
  rfl
 have hsat:SatsE (capE caps kn) gc cs:=by
  have:=je (g:=g) hvs hcs
  rw[<-hkn,<-capE_mp] at this
  exact satsE_mp (H:=g.H) (nm:=fun i=>g.nm (asF tm i)) (nm':=g.nm) (τ:=asF tm) (fun e _ i _=>rfl) this
 refine⟨l,[mark r0],w1,{target:=.fn (.func f) cs.toArray,args:= #[.func (.yield l) #[] #[]]},w1,f,(.func (.yield l) #[] #[]::cs).toArray,w1,he,?_,fun _ _=>trivial,?_,fun e=>by simp[FR,Fence.wide] at e,?_⟩
 ·simp only[resolve,ev,Deferred.ofValue,Sem.run_bind,Sem.run_pure,Result.andThen_ok]
  simp[Act.eval]
 ·simp only[invoke,Sem.run_bind,Sem.run_pure,Result.andThen_ok]
  refine(hc _).trans ?_
  simp
 ·refine j4.2 ((hfY _ (rAbs Rs js pi g.nm l rec0) (yOf yb) (t0,0) o hrun gc w1 (l::bs) _ hk1.agree ⟨_,_,rfl,⟨l,rfl,?_⟩,hsat⟩ hp0 hfr hoC1 hap).mono ?_)
  ·exact nw (g0:=g) (rec:=rec0) (Γ:=Γ') rfl hne (by omega) (by omega) s.size (fun u e hu=>s.sat u e (hΓ.mem _ (fl hu))) (fun u e hu i hi=>hpi i (List.mem_append_right _ (Ent.kJ hu hi))) (fun _ _=>rfl)
    (fun X H0 w0 s a b=>hA X H0 w0 l g.nm s a b) (fun X H0 w0 s a b o h=>hB X H0 w0 l g.nm s a b o h)
  ·rintro e w2 ⟨v,H2,rfl,bs2,k2,⟨⟨gb,rfl,q1,q2,q3,q4⟩,hl2,hrec2⟩,hfr2⟩
   have hnb:(recOf rec0 js o.2).state≠ .busy:=by unfold recOf;split<;>simp
   refine⟨_,_,run_endLoop hrec2 hnb,?_⟩
   generalize hlast:({recOf rec0 js o.2 with state:=.exhausted}:Loop)=last
   have hlk:l<w2.heap.size:=(hfr2 l hl2).2.1
   have hsz2:(w2.putObj l (.loop last)).heap.size=w2.heap.size:=World.putObj_size
   have hs12:w1.heap.size<=w2.heap.size:=k2.size
   have hw0:C.w0.heap.size<=w.heap.size:=s.keep.size
   have k02:Keep C.X C.H0 C.w0 gb.H w2:=hk1.step k2 (fun i hi=>by
    rcases hi with hi|hi
    ·rcases List.mem_cons.1 hi with rfl|hi
     ·exact .inr (by simp[l,r0];omega)
     ·exact(hat i hi).2.2
    ·exact(hcB i hi).2.2)
   have hrl:r0≠l:=by simp[l]
   have hr0b:r0∉l::bs:=fun hm=>by
    rcases List.mem_cons.1 hm with h|h
    ·exact hrl h
    ·exact absurd (hat r0 h).2.1 (by simp[r0])
   have hr0c:¬Blk gc Rc r0:=fun h=>absurd (hcB r0 h).2.1 (by simp[r0])
   have hB2:∀r∈Rs o.1,∀b,r.block gb b->gb.H b=none/\b<w2.heap.size/\(C.X b\/C.w0.heap.size<=b)/\b≠l/\b≠r0:=by
    intro r hr b e
    obtain⟨m1,m2⟩:=q4 r hr b e
    obtain⟨z1,z2,z3⟩:=hfr2 b m1
    refine⟨z1,z2,?_,m2,?_⟩
    ·rcases z3 with z3|z3|z3
     ·rcases List.mem_cons.1 z3 with rfl|z3
      ·exact absurd rfl m2
      ·exact(hat b z3).2.2
     ·exact(hcB b z3).2.2
     ·exact .inr (by omega)
    ·rcases z3 with z3|z3|z3
     ·rcases List.mem_cons.1 z3 with rfl|z3
      ·exact absurd rfl m2
      ·have:=(hat b z3).2.1
       omega
     ·have:=(hcB b z3).2.1
      omega
     ·omega
   have s':St C Γ' (Rs o.1) gb (w2.putObj l (.loop last)) {a with defers:=[mark r0]++a.defers}:=by
    refine⟨s.size,?_,iV _ k02 (.inr (by simp[l,r0];omega)) (hfr2 l hl2).1,fun u e hu=>?_,⟨fun r hr=>Res.gr (G.le.refl gb) (Nat.le_of_eq hsz2.symm) (fun b e=>World.putObj_heap_other (hB2 r hr b e).2.2.2.1) (q2 r hr),fun r hr b e=>?_,q3⟩,fun i hi=>?_⟩
    ·obtain⟨rs,e,hnd,hq⟩:=s.defers
     have hBw:C.B<=w.heap.size:=by unfold Cx.B;rw[hrd];exact hw0
     refine⟨r0::rs,by rw[e];rfl,List.nodup_cons.2 ⟨fun hm=>?_,hnd⟩,fun q hm=>?_⟩
     ·have:=(Array.getElem?_eq_some_iff.1 (hq r0 hm).1).1
      simp[r0] at this
     ·rcases List.mem_cons.1 hm with rfl|hm
      ·refine⟨(World.putObj_heap_other hrl).trans ((k2.block r0 (by rw[hsz1];simp[r0]) (fun h=>h.elim hr0b hr0c)).trans hr1),?_,hBw,fun r hr e=>(hB2 r hr _ e).2.2.2.2 rfl⟩
       exact(k2.old r0 (by rw[hsz1];simp[r0]) (fun h=>absurd h (fun h=>h.elim hr0b hr0c))).trans hHr
      ·obtain⟨z1,z2,z3,z4⟩:=hq q hm
       have hqw:q<w.heap.size:=(Array.getElem?_eq_some_iff.1 z1).1
       have hqb:q∉l::bs:=fun h=>by
        rcases List.mem_cons.1 h with h|h
        ·simp[l,r0] at h;omega
        ·obtain⟨r,hr,e⟩:=(hbs q).1 h
         exact z4 r (List.mem_append_left _ hr) e
       have hqc:¬Blk gc Rc q:=fun h=>by
        obtain⟨r,hr,e⟩:=hcR q h
        exact z4 r (List.mem_append_right _ hr) e
       refine⟨(World.putObj_heap_other (fun e=>hqb (by rw[e];exact List.mem_cons_self ..))).trans ((k2.block q (by omega) (fun h=>h.elim hqb hqc)).trans ((hold q hqw).trans z1)),(k2.old q (by omega) (fun h=>absurd h (fun h=>h.elim hqb hqc))).trans z2,z3,fun r hr e=>?_⟩
       obtain⟨m1,m2⟩:=q4 r hr q e
       rcases(hfr2 q m1).2.2 with h|h|h
       ·exact hqb h
       ·exact hqc h
       ·omega
    ·exact Ent.move (s.sat u e (hΓ.mem _ (fl hu))) (k2.le hk1.agree) (fun i hi=>q1 i (hpi i (List.mem_append_right _ (Ent.kJ hu hi))))
    ·obtain⟨z1,z2,z3,_⟩:=hB2 r hr b e
     exact⟨z1,by rw[hsz2];exact z2,z3⟩
    ·exact(q1 i (hpi i (List.mem_append_left _ hi))).trans (s.pin i hi)
   show (match jOf js o.2 with|none=>_|some c=>_)
   revert hK
   cases jOf js o.2 with
   |none=>exact fun hK=>hK gb _ _ s'
   |some c=>
    intro hK
    cases c with
    |ret=>exact wpIn_ret (hK gb _ _ s')
    |exit i=>exact wpIn_exit (hK gb _ _ s')
    |_=>exact hK.elim
end Go.Proofs.YtmjcpkmongafnaaGreatDoor.Ab
