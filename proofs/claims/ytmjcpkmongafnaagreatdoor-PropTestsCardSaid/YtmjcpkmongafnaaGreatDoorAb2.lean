import Derived.Test.YtmjcpkmongafnaaGreatDoorAb1
set_option linter.unusedVariables false
set_option linter.unusedSimpArgs false
namespace Go.Proofs.YtmjcpkmongafnaaGreatDoor.Ab
open Go Go.RowKit
def maskE(acc:List Nat):List Edge->Nat
 |[]=>0
 |e::r=>(if Region.binds .any e then 2^e.on|||acc.getD e.on 0 else 0)|||maskE acc r
def masks:List Oper->List Nat->List Nat
 |[],acc=>acc
 |o::r,acc=>masks r (acc++[maskE acc o.after.toList])
def kclash:Kind->Kind->Bool
 |.write,.read=>true
 |.write,.write=>true
 |.read,.write=>true
 |.write,.low=>true
 |.low,.write=>true
 |.write,.new=>true
 |.new,.write=>true
 |.new,.new=>true
 |.new,.read=>true
 |.read,.new=>true
 |.boom,.pure=>false
 |.boom,.skip=>false
 |.boom,_=>true
 |.pure,.boom=>false
 |.skip,.boom=>false
 |_,.boom=>true
 |_,_=>false
def clash(ops:Array Oper)(ks:List Kind)(i j:Nat):Bool:=
 match ops[i]?,ops[j]? with
 |some a,some b=>(match a.dst with|some d=>(b.looksAt ops).contains d||b.dst==some d|none=>false)||(match b.dst with|some d=>(a.looksAt ops).contains d|none=>false)||kclash (ks.getD i .pure) (ks.getD j .pure)
 |_,_=>false
def rgOk0(ops:Array Oper)(ks:List Kind)(its:List (List Nat)):Bool:=
 let ms:=masks ops.toList []
 (List.range ops.size).all fun j=>match ops[j]? with
  |some o=>(o.after.toList.all fun e=> !Region.binds .any e||decide (e.on<j))&&((its.getD j []).all fun t=>(o.looksAt ops).contains t)&&(List.range j).all fun i=> !clash ops ks i j||(ms.getD j 0).testBit i
  |none=>true
def rgOk(ops:Array Oper)(ks:List Kind)(its:List (List Nat)):Bool:=(ks.all fun k=> !k.isLow)&&rgOk0 ops ks its
def lowOk(ks:List Kind)(ls:List Nat)(n:Nat):Bool:=
 (List.range ks.length).all fun j=> !(ks.getD j .pure).isLow||(Nat.beq (ls.getD j 0) n&&(List.range j).all fun i=> !(ks.getD i .pure).isH)
def Closed(ops:Array Oper)(L:Nat->Bool):Prop:=∀i o,ops[i]?=some o->L i=true->∀e∈o.after,Region.binds .any e=true->L e.on=true
def Ready(L:Nat->Bool)(o:Oper):Prop:=∀e∈o.after,Region.binds .any e=true->L e.on=true
theorem mF{acc:List Nat} {i:Nat}:∀{l:List Edge},(maskE acc l).testBit i=true->∃e∈l,Region.binds .any e=true/\(i=e.on\/(acc.getD e.on 0).testBit i=true)
 |[],h=>by simp[maskE] at h
 |e::r,h=>by
  rw[maskE,Nat.testBit_or,Bool.or_eq_true] at h
  rcases h with h|h
  ·by_cases hb:Region.binds .any e=true
   ·rw[if_pos hb,Nat.testBit_or,Bool.or_eq_true] at h
    rcases h with h|h
    ·rw[Nat.testBit_two_pow] at h
     exact⟨e,List.mem_cons_self ..,hb,.inl (by simpa using (of_decide_eq_true h).symm)⟩
    ·exact⟨e,List.mem_cons_self ..,hb,.inr h⟩
   ·rw[if_neg hb] at h;simp at h
  ·obtain⟨e',h1,h2⟩:=mF h
   exact⟨e',List.mem_cons_of_mem _ h1,h2⟩
theorem mH{ops:Array Oper} {L:Nat->Bool}(hL:Closed ops L):∀(l:List Oper) (acc:List Nat),ops.toList.drop acc.length=l->
  (∀(k m:Nat),acc[k]?=some m->∀o,ops[k]?=some o->Ready L o->∀i,m.testBit i=true->L i=true)->
  ∀(k m:Nat),(masks l acc)[k]?=some m->∀o,ops[k]?=some o->Ready L o->∀i,m.testBit i=true->L i=true
 |[],acc,_,h=>h
 |o::r,acc,hd,h=>by
  have ho:ops[acc.length]?=some o:=by
   have:=congrArg List.head? hd
   rw[List.head?_drop] at this
   simpa using this
  refine mH hL r (acc++[maskE acc o.after.toList]) ?_ ?_
  ·have:=congrArg List.tail hd
   rw[List.tail_drop] at this
   simpa using this
  ·intro k m hk o' ho' hr i hi
   by_cases hlt:k<acc.length
   ·rw[List.getElem?_append_left hlt] at hk
    exact h k m hk o' ho' hr i hi
   ·rw[List.getElem?_append_right (by omega)] at hk
    have hk0:k=acc.length:=by
     rcases Nat.eq_zero_or_pos (k-acc.length) with e|e
     ·omega
     ·rw[List.getElem?_eq_none (by simp;omega)] at hk;simp at hk
    subst hk0
    simp at hk;subst hk
    rw[ho] at ho';cases ho'
    obtain⟨e,he,hb,hor⟩:=mF hi
    have hLe:L e.on=true:=hr e (by simpa using he) hb
    rcases hor with rfl|hbit
    ·exact hLe
    ·cases hm:acc[e.on]? with
     |none=>rw[List.getD_eq_getElem?_getD,hm] at hbit;simp at hbit
     |some m'=>
      rw[List.getD_eq_getElem?_getD,hm] at hbit
      have hlt':e.on<acc.length:=(List.getElem?_eq_some_iff.1 hm).1
      cases hoe:ops[e.on]? with
      |none=>
       have h1:acc.length<ops.size:=(Array.getElem?_eq_some_iff.1 ho).1
       rw[Array.getElem?_eq_none_iff] at hoe
       omega
      |some oe=>exact h e.on m' hm oe hoe (fun e' he' hb'=>hL e.on oe hoe hLe e' he' hb') i hbit
structure RgFacts(ops:Array Oper)(ks:List Kind)(its:List (List Nat)):Prop where
 edge:∀j o,ops[j]?=some o->∀e∈o.after,Region.binds .any e=true->e.on<j
 ins:∀j o,ops[j]?=some o->∀t∈its.getD j [],t∈o.looksAt ops
 ord:∀i j o,i<j->ops[j]?=some o->clash ops ks i j=true->∀L,Closed ops L->Ready L o->L i=true
theorem rgFacts{ops:Array Oper} {ks:List Kind} {its:List (List Nat)}(h:rgOk0 ops ks its=true):RgFacts ops ks its:=by
 have hall:∀j o,ops[j]?=some o->((o.after.toList.all fun e=> !Region.binds .any e||decide (e.on<j))&&((its.getD j []).all fun t=>(o.looksAt ops).contains t)&&(List.range j).all fun i=> !clash ops ks i j||((masks ops.toList []).getD j 0).testBit i)=true:=by
  intro j o ho
  have:=List.all_eq_true.1 h j (List.mem_range.2 (Array.getElem?_eq_some_iff.1 ho).1)
  simpa only[ho] using this
 refine⟨fun j o ho e he hb=>?_,fun j o ho t ht=>?_,fun i j o hij ho hc L hL hr=>?_⟩
 ·have:=hall j o ho
  simp only[Bool.and_eq_true] at this
  have:=List.all_eq_true.1 this.1.1 e (by simpa using he)
  simpa [hb] using this
 ·have:=hall j o ho
  simp only[Bool.and_eq_true] at this
  have:=List.all_eq_true.1 this.1.2 t ht
  simpa using this
 ·have:=hall j o ho
  simp only[Bool.and_eq_true] at this
  have:=List.all_eq_true.1 this.2 i (List.mem_range.2 hij)
  rw[hc] at this
  simp only[Bool.not_true,Bool.false_or] at this
  cases hm:(masks ops.toList [])[j]? with
  |none=>rw[List.getD_eq_getElem?_getD,hm] at this;simp at this
  |some m=>
   rw[List.getD_eq_getElem?_getD,hm] at this
   exact mH hL ops.toList [] (by simp) (by simp) j m hm o ho hr i this
def envL:List En->(Nat->Bool)->Nat->Env->Env
 |[],_,_,Γ=>Γ
 |e::r,L,i,Γ=>envL r L (i+1) (if L i then e.env Γ else Γ)
def resL:List En->(Nat->Bool)->Nat->List Res->List Res
 |[],_,_,R=>R
 |e::r,L,i,R=>resL r L (i+1) (if L i&&e.kind.isW then e.R' else R)
theorem iN:∀(es:List En) (L:Nat->Bool) (i:Nat) (Γ:Env),envL es L (i+1) Γ=envL es (fun k=>L (k+1)) i Γ
 |[],_,_,_=>rfl
 |e::r,L,i,Γ=>by rw[envL,envL];exact iN r L (i+1) _
theorem iO:∀(es:List En) (L:Nat->Bool) (i:Nat) (R:List Res),resL es L (i+1) R=resL es (fun k=>L (k+1)) i R
 |[],_,_,_=>rfl
 |e::r,L,i,R=>by rw[resL,resL];exact iO r L (i+1) _
theorem iI:∀(es:List En) (i:Nat) (Γ:Env),envL es (fun _=>false) i Γ=Γ
 |[],_,_=>rfl
 |e::r,i,Γ=>by rw[envL];exact iI r (i+1) _
theorem iK:∀(es:List En) (i:Nat) (R:List Res),resL es (fun _=>false) i R=R
 |[],_,_=>rfl
 |e::r,i,R=>by rw[resL];exact iK r (i+1) _
theorem iL{t:Nat}:∀(es:List En) (L1 L2:Nat->Bool) (i:Nat) (Γ1 Γ2:Env),look Γ1 t=look Γ2 t->(∀k e,es[k]?=some e->e.dst=some t->L1 (i+k)=L2 (i+k))->look (envL es L1 i Γ1) t=look (envL es L2 i Γ2) t
 |[],_,_,_,_,_,h,_=>h
 |e::r,L1,L2,i,Γ1,Γ2,h,hk=>by
  rw[envL,envL]
  refine iL r L1 L2 (i+1) _ _ ?_ (fun k e' he' hd=>by rw[show i+1+k=i+(k+1) by omega];exact hk (k+1) e' (by simpa using he') hd)
  have h0:=hk 0 e (by simp)
  rw[Nat.add_zero] at h0
  unfold En.env
  cases hd:e.dst with
  |none=>simp only[ite_self];exact h
  |some d=>
   by_cases hdt:d=t
   ·subst hdt
    rw[h0 hd]
    split
    ·rw[eD,eD];simp
    ·exact h
   ·have h3:∀(b:Bool) (Γ:Env),look (if b=true then (d,e.out)::Γ else Γ) t=look Γ t:=by
     intro b Γ
     cases b
     ·rfl
     ·rw[if_pos rfl,eD,if_neg hdt]
    rw[h3,h3];exact h
theorem iP:∀(es:List En) (L1 L2:Nat->Bool) (i:Nat) (R1 R2:List Res),R1=R2->(∀k e,es[k]?=some e->e.kind.isW=true->L1 (i+k)=L2 (i+k))->resL es L1 i R1=resL es L2 i R2
 |[],_,_,_,_,_,h,_=>h
 |e::r,L1,L2,i,R1,R2,h,hk=>by
  rw[resL,resL]
  refine iP r L1 L2 (i+1) _ _ ?_ (fun k e' he' hd=>by rw[show i+1+k=i+(k+1) by omega];exact hk (k+1) e' (by simpa using he') hd)
  by_cases hw:e.kind.isW=true
  ·have h0:=hk 0 e (by simp) hw
   rw[Nat.add_zero] at h0
   rw[h0,h]
  ·simp only[hw,Bool.and_false,Bool.false_eq_true,if_false];exact h
theorem mI:∀(es:List En) (L:Nat->Bool) (i:Nat) (R:List Res) (j:Nat) (e:En),es[j]?=some e->e.kind.isW=true->L (i+j)=true->(∀k e',es[k]?=some e'->j<k->e'.kind.isW=true->L (i+k)=false)->resL es L i R=e.R'
 |[],_,_,_,_,_,h,_,_,_=>by simp at h
 |e0::r,L,i,R,0,e,h,hw,hL,hk=>by
  simp at h;subst h
  rw[resL]
  rw[Nat.add_zero] at hL
  rw[if_pos (by simp[hL,hw]),iP r L (fun _=>false) (i+1) _ _ rfl (fun k e' he' hw'=>by rw[show i+1+k=i+(k+1) by omega];exact hk (k+1) e' (by simpa using he') (by omega) hw'),iK]
 |e0::r,L,i,R,j+1,e,h,hw,hL,hk=>by
  rw[resL]
  exact mI r L (i+1) _ j e (by simpa using h) hw (by rw[show i+1+j=i+(j+1) by omega];exact hL) (fun k e' he' hjk hw'=>by rw[show i+1+k=i+(k+1) by omega];exact hk (k+1) e' (by simpa using he') (by omega) hw')
theorem EnOk.keepR{rd:Option Nat} {P:Program} {ops:Array Oper} {o:Oper} {e:En}(h:EnOk rd P ops o e)(hw:¬e.kind.isW=true):e.R'=e.R:=by cases h<;>first|rfl|exact absurd rfl hw
theorem oq{rd:Option Nat} {P:Program} {ops:Array Oper} {l:List Oper} {Γ:Env} {R:List Res} {es:List En} {Γ':Env} {R':List Res}(h:Chain rd P ops l Γ R es Γ' R'):
  es.length=l.length/\Γ'=envL es (fun _=>true) 0 Γ/\R'=resL es (fun _=>true) 0 R/\
  ∀j e,es[j]?=some e->∃o,l[j]?=some o/\EnOk rd P ops o e/\Sub e.ins (envL es (fun k=>decide (k<j)) 0 Γ)/\∃E,resL es (fun k=>decide (k<j)) 0 R=E++e.R/\(e.kind≠ .low->E=[]):=by
 induction h with
 |nil=>exact⟨rfl,rfl,rfl,fun j e h=>by simp at h⟩
 | @cons o rest e Γ Γ' R' es h hs k ih=>
  obtain⟨h1,h2,h3,h4⟩:=ih
  have hR:(if (true&&e.kind.isW)=true then e.R' else e.R)=e.R':=by
   by_cases hw:e.kind.isW=true
   ·simp[hw]
   ·simp[hw,h.keepR hw]
  refine⟨by simp[h1],?_,?_,?_⟩
  ·rw[envL,if_pos rfl,h2];rw[iN]
  ·rw[resL,hR,h3];rw[iO]
  ·intro j e' he'
   cases j with
   |zero=>
    simp at he';subst he'
    refine⟨o,by simp,h,?_,[],?_,fun _=>rfl⟩
    ·have:(fun k=>decide (k<0))=(fun _:Nat=>false):=by funext k;simp
     rw[this,iI];exact hs
    ·have:(fun k=>decide (k<0))=(fun _:Nat=>false):=by funext k;simp
     rw[this,iK];rfl
   |succ j=>
    obtain⟨o',ho',h5,h6,E',h7,h8⟩:=h4 j e' (by simpa using he')
    have hsh:(fun k=>decide (k+1<j+1))=(fun k=>decide (k<j)):=by funext k;simp
    refine⟨o',by simpa using ho',h5,?_,E',?_,h8⟩
    ·rw[envL,if_pos (by simp),iN,hsh];exact h6
    ·rw[resL]
     rw[show (if (decide (0<j+1)&&e.kind.isW)=true then e.R' else e.R)=e.R' by simpa using hR,iO,hsh];exact h7
 | @low o rest e Γ Γ' R' E es h hw hs k ih=>
  obtain⟨h1,h2,h3,h4⟩:=ih
  have hR:∀b:Bool,(if (b&&e.kind.isW)=true then e.R' else E++e.R)=E++e.R:=by
   intro b;rw[hw];cases b<;>rfl
  refine⟨by simp[h1],?_,?_,?_⟩
  ·rw[envL,if_pos rfl,h2];rw[iN]
  ·rw[resL,hR,h3];rw[iO]
  ·intro j e' he'
   cases j with
   |zero=>
    simp at he';subst he'
    refine⟨o,by simp,h,?_,E,?_,fun q=>absurd hw q⟩
    ·have:(fun k=>decide (k<0))=(fun _:Nat=>false):=by funext k;simp
     rw[this,iI];exact hs
    ·have:(fun k=>decide (k<0))=(fun _:Nat=>false):=by funext k;simp
     rw[this,iK]
   |succ j=>
    obtain⟨o',ho',h5,h6,E',h7,h8⟩:=h4 j e' (by simpa using he')
    have hsh:(fun k=>decide (k+1<j+1))=(fun k=>decide (k<j)):=by funext k;simp
    refine⟨o',by simpa using ho',h5,?_,E',?_,h8⟩
    ·rw[envL,if_pos (by simp),iN,hsh];exact h6
    ·rw[resL,hR,iO,hsh];exact h7
theorem jJ{R0:List Res}:∀(es:List En) (L:Nat->Bool) (i:Nat) (R:List Res),(∃N,R=N++R0)->(∀k e,es[k]?=some e->e.kind.isW=true->L (i+k)=true->∃N,e.R'=N++R0)->∃N,resL es L i R=N++R0
 |[],_,_,_,h,_=>h
 |e::r,L,i,R,h,hk=>by
  rw[resL]
  refine jJ r L (i+1) _ ?_ (fun k e' he' hw hl=>hk (k+1) e' (by simpa using he') hw (by rw[show i+(k+1)=i+1+k by omega];exact hl))
  by_cases hw:(L i&&e.kind.isW)=true
  ·rw[if_pos hw]
   rw[Bool.and_eq_true] at hw
   exact hk 0 e (by simp) hw.2 (by rw[Nat.add_zero];exact hw.1)
  ·rw[if_neg hw];exact h
theorem ln{a b:Kind}(ha:a.isW=true)(hb:b=.read\/b.isW=true):kclash a b=true/\kclash b a=true:=by
 cases a<;>simp[Kind.isW] at ha<;>cases b<;>simp[Kind.isW] at hb<;>simp[kclash]
theorem nC{a b:Kind}(ha:a.isH=true)(hb:b=.low\/b=.new):kclash a b=true/\kclash b a=true:=by
 rcases hb with rfl|rfl<;>cases a<;>simp[Kind.isH] at ha<;>simp[kclash]
theorem mJ:∀(l:List Bool) (i:Nat),l[i]?=some false->(l.set i true).count false+1=l.count false
 |[],_,h=>by simp at h
 |b::l,0,h=>by simp at h;subst h;simp
 |b::l,i+1,h=>by
  have:=mJ l i (by simpa using h)
  simp only[List.set_cons_succ,List.count_cons]
  omega
theorem lQ{listed:Array Bool} {i:Nat}(h:listed.getD i true=false):listed[i]?=some false:=by
 rw[Array.getD_eq_getD_getElem?] at h
 cases hh:listed[i]? with
 |none=>rw[hh] at h;simp at h
 |some b=>rw[hh] at h;simp at h;rw[h]
theorem getD_set(listed:Array Bool)(i j:Nat)(hi:i<listed.size):(listed.setIfInBounds i true).getD j false=if i=j then true else listed.getD j false:=by
 simp only[Array.getD_eq_getD_getElem?,Array.getElem?_setIfInBounds]
 by_cases h:i=j
 ·subst h;simp[hi]
 ·simp[h]
theorem chain_any{C:Cx} {ops:Array Oper} {Q:Exit->Act->World->Prop}
  {Γ:Env} {R:List Res} {es:List En} {Γ':Env} {R':List Res} (hc:Chain C.rd C.P ops ops.toList Γ R es Γ' R')
  (hd:∀o∈ops.toList,(∀d,o.dst=some d->d<C.N)/\∀c,o.op≠ .defer c) (hnd:(nids es).Nodup) (hpi:∀n∈nids es,n∉C.pi) (hf:RgFacts ops (es.map (·.kind)) (es.map fun e=>e.ins.map (·.1)))
  (hlow:∀(j:Nat) (e:En),es[j]?=some e->e.kind=.low->e.R.length=R.length/\∀(i:Nat) (ei:En),i<j->es[i]?=some ei->ei.kind.isH=false) {Γp:Env} (hX:PX C Q Γp es) (hG:∀t x,look Γp t=some x->(∀e∈es,e.kind=.boom->look Γ t=some x)):
  ∀(fuel:Nat) (listed:Array Bool),listed.size=ops.size->listed.toList.count false<=fuel->
   ∀(g:G) (w:World) (a:Act),Closed ops (fun i=>listed.getD i false)->a.tmps.size=C.N->Keep C.X C.H0 C.w0 g.H w->
    Sat (envL es (fun i=>listed.getD i false) 0 Γ) g a->Own C.X C.w0.heap.size g w (resL es (fun i=>listed.getD i false) 0 R)->Dfr C.ds C.B g w (resL es (fun i=>listed.getD i false) 0 R) a.defers->
    (∀i∈C.pi,g.nm i=C.pv i)->(∀i e n,es[i]?=some e->listed.getD i false=false->n∈e.nid->g.nm n=none)->
    (∀(g':G) (w':World) (a':Act),St C Γ' R' g' w' a'->Q .normal a' w')->
    wpAnyIn (FR C.rd) 0 C.P .any ops Q fuel listed a w:=by
 obtain⟨hlen,hΓ,hR,hen⟩:=oq hc
 have hlen':es.length=ops.size:=by simpa using hlen
 have hnews:∀(q:Nat) (e:En),es[q]?=some e->e.kind=.new->(∀(i:Nat) (ei:En),i<q->es[i]?=some ei->ei.kind.isH=false)->∃N,e.R'=N++R:=by
  intro q
  induction q using Nat.strongRecOn with
  |_ q ih=>
   intro e he hk hno
   obtain⟨o,_,hok,_,E,hE,hEn⟩:=hen q e he
   obtain rfl:=hEn (by rw[hk];intro c;cases c)
   have h1:∃N,resL es (fun k=>decide (k<q)) 0 R=N++R:=by
    refine jJ es _ 0 R ⟨[],rfl⟩ (fun k ek hek hw hl=>?_)
    rw[Nat.zero_add] at hl
    have hkq:k<q:=of_decide_eq_true hl
    have hnw:=hno k ek hkq hek
    refine ih k hkq ek hek ?_ (fun i ei hi hei=>hno i ei (by omega) hei)
    cases hkk:ek.kind with
    |write=>rw[hkk] at hnw;cases hnw
    |boom=>rw[hkk] at hnw;cases hnw
    |new=>rfl
    |_=>rw[hkk] at hw;cases hw
   obtain⟨N,hN⟩:=h1
   rw[hE,List.nil_append] at hN
   cases hok with
   | @new ins out id r dst R1 hd hg h=>
    have hN':R1=N++R:=hN.symm.symm▸hN.symm.symm
    exact⟨r::N,by show r::R1=_;rw[hN'];rfl⟩
   | @newL ins out id r dst R1 hd hg h=>
    have hN':R1=N++R:=hN.symm.symm▸hN.symm.symm
    exact⟨r::N,by show r::R1=_;rw[hN'];rfl⟩
   |_=>cases hk
 have fin:∀(listed:Array Bool),listed.size=ops.size->Region.ready .any ops listed=[]->∀(g:G) (w:World) (a:Act),a.tmps.size=C.N->Keep C.X C.H0 C.w0 g.H w->
    Sat (envL es (fun i=>listed.getD i false) 0 Γ) g a->Own C.X C.w0.heap.size g w (resL es (fun i=>listed.getD i false) 0 R)->Dfr C.ds C.B g w (resL es (fun i=>listed.getD i false) 0 R) a.defers->(∀i∈C.pi,g.nm i=C.pv i)->
    (∀(g':G) (w':World) (a':Act),St C Γ' R' g' w' a'->Q .normal a' w')->Q .normal a w:=by
  intro listed hsz hr g w a h1 h3 h4 h5 h2 hp hQ
  have hall:∀i,i<ops.size->listed.getD i false=true:=by
   intro i
   induction i using Nat.strongRecOn with
   |_ i ih=>
    intro hi
    cases hl:listed.getD i false with
    |true=>rfl
    |false=>
     exfalso
     have hmem:i∈Region.ready .any ops listed:=by
      rw[mem_ready]
      refine⟨?_,ops[i],by simp[hi],fun e he hb=>?_⟩
      ·simp only[Array.getD_eq_getD_getElem?] at hl⊢
       rw[Array.getElem?_eq_getElem (by omega)] at hl⊢
       simpa using hl
      ·have hlt:=hf.edge i ops[i] (by simp[hi]) e he hb
       exact ih e.on hlt (by omega)
     rw[hr] at hmem
     simp at hmem
  have hRl:resL es (fun i=>listed.getD i false) 0 R=R':=by
   rw[hR]
   exact iP es (fun i=>listed.getD i false) (fun _=>true) 0 R R rfl (fun k e he _=>by rw[Nat.zero_add];exact hall k (by rw[<-hlen'];exact(List.getElem?_eq_some_iff.1 he).1))
  rw[hRl] at h5 h2
  refine hQ g w a ⟨h1,h2,h3,?_,h5,hp⟩
  rw[hΓ]
  intro t x hx
  refine h4 t x ?_
  rw[<-hx]
  exact iL es _ _ 0 Γ Γ rfl (fun k e he _=>by rw[Nat.zero_add];exact hall k (by rw[<-hlen'];exact(List.getElem?_eq_some_iff.1 he).1))
 intro fuel
 induction fuel with
 |zero=>
  intro listed hsz hcnt g w a hcl h1 h3 h4 h5 h2 hp h6 hQ
  have hr:Region.ready .any ops listed=[]:=by
   apply List.eq_nil_iff_forall_not_mem.2
   intro j hj
   rw[mem_ready] at hj
   have:=lQ hj.1
   have hm:false∈listed.toList:=by
    rw[<-Array.getElem?_toList] at this
    exact List.mem_of_getElem? this
   have:=List.count_pos_iff.2 hm
   omega
  exact⟨hr,fin listed hsz hr g w a h1 h3 h4 h5 h2 hp hQ⟩
 |succ fuel ih=>
  intro listed hsz hcnt g w a hcl h1 h3 h4 h5 h2 hp h6 hQ
  refine⟨fun hr=>fin listed hsz hr g w a h1 h3 h4 h5 h2 hp hQ,fun j hj=>?_⟩
  rw[mem_ready] at hj
  obtain⟨hj0,o,ho,hready⟩:=hj
  have hjf:=lQ hj0
  have hjL:listed.getD j false=false:=by rw[Array.getD_eq_getD_getElem?,hjf];rfl
  have hjs:j<ops.size:=(Array.getElem?_eq_some_iff.1 ho).1
  have hje:j<es.length:=by omega
  obtain⟨o',ho',hok,hsub,E,hRe,hEn⟩:=hen j es[j] (by simp)
  have:o'=o:=by
   rw[Array.getElem?_toList] at ho'
   rw[ho] at ho'
   exact(Option.some.inj ho').symm
  subst this
  generalize hE:es[j]=e at hok hsub hRe hEn
  have he:es[j]?=some e:=by rw[<-hE];simp
  have hbefore:∀i,i<j->clash ops (es.map (·.kind)) i j=true->listed.getD i false=true:=fun i hij hcl'=>hf.ord i j o' hij ho hcl' _ hcl hready
  have hbehind:∀k,j<k->clash ops (es.map (·.kind)) j k=true->k<ops.size->listed.getD k false=false:=by
   intro k hjk hcl' hks
   cases hl:listed.getD k false with
   |false=>rfl
   |true=>
    have:=hf.ord j k ops[k] hjk (by simp[hks]) hcl' _ hcl (fun e' he' hb'=>hcl k ops[k] (by simp[hks]) hl e' he' hb')
    rw[hjL] at this
    cases this
  have hdst:∀(k:Nat) (ek:En),es[k]?=some ek->∃ok:Oper,ops[k]?=some ok/\ok.dst=ek.dst:=by
   intro k ek hek
   obtain⟨ok,hok',hok2,_⟩:=hen k ek hek
   exact⟨ok,by rw[Array.getElem?_toList] at hok';exact hok',hok2.dst⟩
  have hkd:∀(k:Nat) (ek:En),es[k]?=some ek->(es.map (·.kind)).getD k .pure=ek.kind:=by
   intro k ek hek
   rw[List.getD_eq_getElem?_getD,List.getElem?_map,hek];rfl
  have hins:SatI e.ins g a:=by
   intro p hp
   have hl:=hsub.mem p hp
   refine h4 p.1 p.2 ?_
   rw[<-hl]
   have hpl:p.1∈o'.looksAt ops:=by
    refine hf.ins j o' ho p.1 ?_
    rw[List.getD_eq_getElem?_getD,List.getElem?_map,he]
    simp only[Option.map_some,Option.getD_some]
    exact List.mem_map.2 ⟨p,hp,rfl⟩
   refine iL es _ _ 0 Γ Γ rfl (fun k ek hek hkd'=>?_)
   rw[Nat.zero_add]
   obtain⟨ok,hok',hokd⟩:=hdst k ek hek
   have hks:k<ops.size:=(Array.getElem?_eq_some_iff.1 hok').1
   rcases Nat.lt_trichotomy k j with hlt|rfl|hgt
   ·rw[decide_eq_true hlt]
    refine hbefore k hlt ?_
    unfold clash
    rw[hok',ho]
    simp only[hokd,hkd']
    simp[hpl]
   ·rw[decide_eq_false (by omega)];exact hjL
   ·rw[decide_eq_false (by omega)]
    refine hbehind k hgt ?_ hks
    unfold clash
    rw[hok',ho]
    simp only[hokd,hkd']
    simp[hpl]
  have hRr:e.kind=.read\/e.kind.isW=true->resL es (fun i=>listed.getD i false) 0 R=e.R:=by
   intro hk
   obtain rfl:=hEn (by rcases hk with hk|hk<;>intro c<;>rw[c] at hk<;>cases hk)
   rw[List.nil_append] at hRe
   rw[<-hRe]
   refine iP es _ _ 0 R R rfl (fun k ek hek hkw=>?_)
   rw[Nat.zero_add]
   obtain⟨ok,hok',_⟩:=hdst k ek hek
   have hks:k<ops.size:=(Array.getElem?_eq_some_iff.1 hok').1
   rcases Nat.lt_trichotomy k j with hlt|rfl|hgt
   ·rw[decide_eq_true hlt]
    refine hbefore k hlt ?_
    unfold clash
    rw[hok',ho]
    simp only[hkd k ek hek,hkd j e he]
    have:kclash ek.kind e.kind=true/\kclash e.kind ek.kind=true:=ln hkw hk
    simp[this.1,this.2]
   ·rw[decide_eq_false (by omega)];exact hjL
   ·rw[decide_eq_false (by omega)]
    refine hbehind k hgt ?_ hks
    unfold clash
    rw[hok',ho]
    simp only[hkd k ek hek,hkd j e he]
    have:kclash ek.kind e.kind=true/\kclash e.kind ek.kind=true:=ln hkw hk
    simp[this.1,this.2]
  have hRl:e.kind=.low->∃E,resL es (fun i=>listed.getD i false) 0 R=E++e.R:=by
   intro hk
   obtain⟨hll,hnw⟩:=hlow j e he hk
   have hR0:e.R=R:=by
    have h1:∃N,resL es (fun k=>decide (k<j)) 0 R=N++R:=by
     refine jJ es _ 0 R ⟨[],rfl⟩ (fun k ek hek hw hl=>?_)
     rw[Nat.zero_add] at hl
     have hkj:k<j:=of_decide_eq_true hl
     refine hnews k ek hek ?_ (fun i ei hi hei=>hnw i ei (by omega) hei)
     have:=hnw k ek hkj hek
     cases hkk:ek.kind with
     |write=>rw[hkk] at this;cases this
     |boom=>rw[hkk] at this;cases this
     |new=>rfl
     |_=>rw[hkk] at hw;cases hw
    obtain⟨N,hN⟩:=h1
    rw[hRe] at hN
    exact(List.append_inj' hN hll).2
   rw[hR0]
   refine jJ es _ 0 R ⟨[],rfl⟩ (fun k ek hek hw hl=>?_)
   rw[Nat.zero_add] at hl
   obtain⟨ok,hok',_⟩:=hdst k ek hek
   have hks:k<ops.size:=(Array.getElem?_eq_some_iff.1 hok').1
   have nowrite:∀(i:Nat) (ei:En),es[i]?=some ei->ei.kind.isH=true->listed.getD i false=true->False:=by
    intro i ei hei hiw hil
    obtain⟨oi,hoi,_⟩:=hdst i ei hei
    have his:i<ops.size:=(Array.getElem?_eq_some_iff.1 hoi).1
    rcases Nat.lt_trichotomy i j with hlt|rfl|hgt
    ·have:=hnw i ei hlt hei
     rw[hiw] at this;cases this
    ·rw[hjL] at hil;cases hil
    ·have:=hbehind i hgt (by
      unfold clash
      rw[hoi,ho]
      simp only[hkd i ei hei,hkd j e he,hk]
      simp[(nC hiw (.inl rfl)).2]) his
     rw[this] at hil;cases hil
   have hkn:ek.kind=.new:=by
    cases hkk:ek.kind with
    |write=>exact(nowrite k ek hek (by rw[hkk];rfl) hl).elim
    |boom=>exact(nowrite k ek hek (by rw[hkk];rfl) hl).elim
    |new=>rfl
    |_=>rw[hkk] at hw;cases hw
   refine hnews k ek hek hkn (fun i ei hi hei=>?_)
   cases hiw:ei.kind.isH with
   |false=>rfl
   |true=>
   exfalso
   obtain⟨oi,hoi,_⟩:=hdst i ei hei
   refine nowrite i ei hei hiw (hf.ord i k ok hi hok' ?_ _ hcl (fun e' he' hb'=>hcl k ok hok' hl e' he' hb'))
   unfold clash
   rw[hoi,hok']
   simp only[hkd i ei hei,hkd k ek hek,hkn]
   simp[(nC hiw (.inr rfl)).1]
  unfold wpOpIn
  rw[ho]
  have hdj:=hd o' (List.mem_of_getElem? (by rw[Array.getElem?_toList];exact ho))
  refine hok.run hdj.2 h3 hins h5 h2 hRr hRl (fun n hn=>h6 j e n he hjL hn) (hX.run (List.mem_of_getElem? he) h1 hp (fun hb t x hx=>h4 t x (((iL es (fun i=>listed.getD i false) (fun _=>false) 0 Γ Γ rfl (fun k ek hek hkd'=>absurd ((hX.free e (List.mem_of_getElem? he) hb ek (List.mem_of_getElem? hek) t hkd').symm.trans hx) (by simp))).trans (congrArg (fun G=>look G t) (iI es 0 Γ))).trans (hG t x hx e (List.mem_of_getElem? he) hb)))) ?_
  intro v g' w' hk hle hnm hv hown hdfr
  have hset:∀k,(listed.setIfInBounds j true).getD k false=if j=k then true else listed.getD k false:=fun k=>getD_set listed j k (by omega)
  have hRn:(if e.kind.isW=true then e.R' else resL es (fun i=>listed.getD i false) 0 R)=resL es (fun i=>(listed.setIfInBounds j true).getD i false) 0 R:=by
   by_cases hw:e.kind.isW=true
   ·rw[if_pos hw]
    exact(mI es (fun i=>(listed.setIfInBounds j true).getD i false) 0 R j e he hw (by simp only[Nat.zero_add,hset];simp) (fun k ek hek hjk hkw=>by
     rw[Nat.zero_add,hset,if_neg (by omega)]
     obtain⟨ok,hok',hokd⟩:=hdst k ek hek
     refine hbehind k hjk ?_ (Array.getElem?_eq_some_iff.1 hok').1
     unfold clash
     rw[hok',ho]
     simp only[hkd k ek hek,hkd j e he]
     simp[(ln hkw (.inr hw)).2])).symm
   ·rw[if_neg hw]
    exact iP es (fun i=>listed.getD i false) _ 0 R R rfl (fun k ek hek hkw=>by
     rw[Nat.zero_add,hset,if_neg]
     rintro rfl
     rw[he] at hek;cases hek
     exact hw hkw)
  rw[hRn] at hown hdfr
  refine ih (listed.setIfInBounds j true) (by simpa using hsz) ?_ g' w' _ ?_ (by rw[jy];exact h1) hk ?_ hown (by rw[gU];exact hdfr) ?_ ?_ hQ
  ·have:=mJ listed.toList j (by rw[Array.getElem?_toList];exact hjf)
   rw[Array.toList_setIfInBounds]
   omega
  ·intro i oi hoi hli e' he' hb'
   simp only[hset] at hli⊢
   by_cases hji:j=i
   ·subst hji
    rw[ho] at hoi;cases hoi
    have:=hready e' he' hb'
    split
    ·rfl
    ·exact this
   ·rw[if_neg hji] at hli
    have:=hcl i oi hoi hli e' he' hb'
    split
    ·rfl
    ·exact this
  ·--the slots
   rw[hok.dst]
   have hbase:Sat (e.env (envL es (fun i=>listed.getD i false) 0 Γ)) g' (a.put e.dst v):=
    mq h1 (fun d hd'=>hdj.1 d (hok.dst.trans hd')) h4 hle hv
   intro t x hx
   refine hbase t x ?_
   rw[<-hx]
   unfold En.env
   have hne:∀t',(e.dst≠some t')->look (envL es (fun i=>listed.getD i false) 0 Γ) t'=look (envL es (fun i=>(listed.setIfInBounds j true).getD i false) 0 Γ) t':=by
    intro t' ht'
    refine iL es _ _ 0 Γ Γ rfl (fun k ek hek hkd'=>?_)
    rw[Nat.zero_add,hset,if_neg]
    rintro rfl
    rw[he] at hek;cases hek
    exact ht' hkd'
   cases hed:e.dst with
   |none=>exact hne t (by rw[hed];simp)
   |some d=>
    by_cases hdt:d=t
    ·subst hdt
     rw[eD,if_pos rfl]
     have hlast:∀(es':List En) (L:Nat->Bool) (i:Nat) (Γ0:Env) (q:Nat),es'[q]?=some e->L (i+q)=true->(∀k ek,es'[k]?=some ek->q<k->ek.dst=some d->L (i+k)=false)->look (envL es' L i Γ0) d=some e.out:=by
      intro es'
      induction es' with
      |nil=>intro L i Γ0 q hq;simp at hq
      |cons e0 r ihr=>
       intro L i Γ0 q hq hLq hk'
       rw[envL]
       cases q with
       |zero=>
        simp at hq;subst hq
        rw[Nat.add_zero] at hLq
        rw[if_pos hLq]
        have:look (envL r L (i+1) (e0.env Γ0)) d=look (envL r (fun _=>false) (i+1) (e0.env Γ0)) d:=
         iL r _ _ (i+1) _ _ rfl (fun k ek hek hkd'=>by rw[show i+1+k=i+(k+1) by omega];exact hk' (k+1) ek (by simpa using hek) (by omega) hkd')
        rw[this,iI]
        unfold En.env
        rw[hed,eD,if_pos rfl]
       |succ q=>exact ihr L (i+1) _ q (by simpa using hq) (by rw[show i+1+q=i+(q+1) by omega];exact hLq) (fun k ek hek hqk hkd'=>by rw[show i+1+k=i+(k+1) by omega];exact hk' (k+1) ek (by simpa using hek) (by omega) hkd')
     refine(hlast es _ 0 Γ j he (by rw[Nat.zero_add,hset,if_pos rfl]) (fun k ek hek hjk hkd'=>?_)).symm
     rw[Nat.zero_add,hset,if_neg (by omega)]
     obtain⟨ok,hok',hokd⟩:=hdst k ek hek
     refine hbehind k hjk ?_ (Array.getElem?_eq_some_iff.1 hok').1
     unfold clash
     rw[hok',ho]
     simp only[hok.dst,hed,hokd,hkd']
     simp
    ·rw[eD,if_neg hdt]
     exact hne t (by rw[hed];simpa using hdt)
  ·intro n hn'
   cases hg:g.nm n with
   |some x=>rw[hle.2 _ _ hg,<-hg];exact hp n hn'
   |none=>rw[hnm n hg (fun hm=>hpi n (j9.2 ⟨e,List.mem_of_getElem? he,hm⟩) hn'),<-hg];exact hp n hn'
  ·intro i ei n hei hli hn
   rw[hset] at hli
   by_cases hji:j=i
   ·rw[if_pos hji] at hli;cases hli
   ·rw[if_neg hji] at hli
    refine hnm n (h6 i ei n hei hli hn) ?_
    intro hen'
    have hnd2:∀(es':List En) (p q:Nat) (ep eq:En),(nids es').Nodup->es'[p]?=some ep->es'[q]?=some eq->p<q->n∈ep.nid->n∈eq.nid->False:=by
     intro es'
     induction es' with
     |nil=>intro p q ep eq _ hp;simp at hp
     |cons e0 r ihr=>
      intro p q ep eq hnd' hp hq hpq hpn hqn
      have hnd3:=List.nodup_append.1 hnd'
      cases q with
      |zero=>omega
      |succ q=>
       cases p with
       |zero=>
        simp at hp;subst hp
        exact hnd3.2.2 n hpn n (j9.2 ⟨eq,List.mem_of_getElem? (by simpa using hq),hqn⟩) rfl
       |succ p=>exact ihr p q ep eq hnd3.2.1 (by simpa using hp) (by simpa using hq) (by omega) hpn hqn
    rcases Nat.lt_or_ge j i with hlt|hge
    ·exact hnd2 es j i e ei hnd he hei hlt hen' hn
    ·exact hnd2 es i j ei e hnd hei he (by omega) hn hen'
end Go.Proofs.YtmjcpkmongafnaaGreatDoor.Ab
