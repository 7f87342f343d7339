import Derived.Test.YtmjcpkmongafnaaGreatDoorAbM4
import Derived.OpenShut
import Derived.SizedLaws
set_option linter.unusedVariables false
set_option linter.unusedSimpArgs false
namespace Go.Proofs.YtmjcpkmongafnaaGreatDoor.Ab
open Go Go.RowKit
def Open(P:Program)(t:TypeId){α:Type}(d:Kd α):Prop:=
 ∀{H:Type} (enc:TypeId×Value->H) (w:World) (fuel:Nat) (cs:List Value) (x:DataW H×List MemPlace),DataW.trod enc P w 0 (fun _=>true) true fuel t cs=some x->
  (∀n∈x.1.weights P t,n<=reachBytes)->∃u,d.reps (fun b=>w.heap[b]?) cs u
section
variable{P:Program} {t:TypeId}
theorem openI{k:IntKind}(hu:P.underlying t=some (.int k)):Open P t (kI k):=by
 intro H enc w fuel cs x h hw
 cases fuel with
 |zero=>simp[DataW.trod] at h
 |succ fuel=>
  unfold DataW.trod at h
  rw[hu] at h
  split at h<;>first|(simp at h;done)|skip
  all_goals rename_i heq;first|(simp at heq;done)|skip
  all_goals simp at heq
  subst heq
  split at h
  ·rename_i hk
   obtain⟨rfl,hwf⟩:=hk
   exact⟨_,rfl,by simpa [Lit.wf,InR] using hwf⟩
  ·cases h
theorem openB(hu:P.underlying t=some .bool):Open P t kB:=by
 intro H enc w fuel cs x h hw
 cases fuel with
 |zero=>simp[DataW.trod] at h
 |succ fuel=>
  unfold DataW.trod at h
  rw[hu] at h
  split at h<;>first|(simp at h;done)|exact⟨_,rfl⟩|skip
  all_goals rename_i heq;simp at heq
theorem openS(hu:P.underlying t=some .string):Open P t kS:=by
 intro H enc w fuel cs x h hw
 cases fuel with
 |zero=>simp[DataW.trod] at h
 |succ fuel=>
  unfold DataW.trod at h
  rw[hu] at h
  split at h<;>first|(simp at h;done)|skip
  all_goals rename_i heq;first|(simp at heq;done)|skip
  split at h
  ·rename_i hk
   refine⟨_,rfl,?_⟩
   simpa [maxLen] using hk
  ·cases h
theorem mapM_get{α β:Type} {f:α->Option β}:∀{l:List α} {ys:List β},l.mapM f=some ys->ys.length=l.length/\∀(i:Nat) (a:α),l[i]?=some a->∃y,ys[i]?=some y/\f a=some y
 |[],ys,h=>by
  simp at h;subst h
  exact⟨rfl,fun i a h=>by simp at h⟩
 |a::l,ys,h=>by
  rw[List.mapM_cons] at h
  cases ha:f a with
  |none=>rw[ha] at h;cases h
  |some y=>
   rw[ha] at h
   cases hl:l.mapM f with
   |none=>rw[hl] at h;cases h
   |some zs=>
    rw[hl] at h
    cases h
    obtain⟨h1,h2⟩:=mapM_get hl
    refine⟨by simp[h1],fun i b hb=>?_⟩
    cases i with
    |zero=>simp at hb;subst hb;exact⟨y,rfl,ha⟩
    |succ i=>exact h2 i b (by simpa using hb)
theorem jX{H:Type} {e:TypeId}:∀{l:List (DataW H)} {d:DataW H},d∈l->∀n∈d.weights P e,n∈DataW.weightsAll P e l
 |d0::l,d,hd,n,hn=>by
  rw[DataW.weightsAll,List.mem_append]
  rcases List.mem_cons.1 hd with rfl|hd
  ·exact .inl hn
  ·exact .inr (jX hd n hn)
theorem ko{w:World} {b off n:Nat} {sp:Option Nat} {cs:List Value}(hn:0<n)(h:w.cells? 0 ⟨b,off,sp⟩ n=some cs):
  sp=none/\∃cells t fr,w.heap[b]?=some (.cells cells t fr)/\cs=(cells.toList.drop off).take n/\off+n<=cells.size:=by
 unfold World.cells? at h
 rw[if_pos (Nat.zero_le _)] at h
 obtain⟨h1,h2⟩:=mapM_get h
 rw[List.length_range] at h1
 obtain⟨y0,hy0,hc0⟩:=h2 0 0 (by simp[hn])
 have ha:(⟨b,off,sp⟩:Addr).add 0=⟨b,off,sp⟩:=by simp[Addr.add]
 rw[ha] at hc0
 unfold World.cell? at hc0
 cases hb:w.heap[b]? with
 |none=>rw[hb] at hc0;cases hc0
 |some o=>
  rw[hb] at hc0
  cases o with
  |cells cells t fr=>
   simp only at hc0
   cases sp with
   |some q=>simp at hc0
   |none=>
    refine⟨rfl,cells,t,fr,rfl,?_⟩
    have hget:∀i,i<n->cells.toList[off+i]?=cs[i]?/\off+i<cells.size:=by
     intro i hi
     obtain⟨y,hy,hc⟩:=h2 i i (by simp[hi])
     have e:(⟨b,off,none⟩:Addr).add i=⟨b,off+i,none⟩:=by
      unfold Addr.add
      split
      ·rename_i h0;subst h0;rfl
      ·rfl
     rw[e,cell_of_row w b (off+i) cells t fr hb] at hc
     rw[hy]
     exact⟨by rw[Array.getElem?_toList];exact hc,(Array.getElem?_eq_some_iff.1 hc).1⟩
    constructor
    ·apply List.ext_getElem?
     intro i
     by_cases hi:i<n
     ·rw[List.getElem?_take,if_pos hi,List.getElem?_drop,(hget i hi).1]
     ·rw[List.getElem?_take,if_neg hi,List.getElem?_eq_none (by omega)]
    ·have:=(hget (n-1) (by omega)).2
     omega
  |_=>simp at hc0
theorem oH{α:Type} {Q:Nat->α->Prop}(n:Nat)(h:∀i,i<n->∃u,Q i u):∃us:List α,us.length=n/\∀i u,us[i]?=some u->Q i u:=by
 refine⟨List.ofFn fun i:Fin n=>Classical.choose (h i.1 i.2),by simp,fun i u e=>?_⟩
 rw[List.getElem?_ofFn] at e
 split at e
 ·rename_i hi
  cases e
  exact Classical.choose_spec (h i hi)
 ·cases e
theorem addr_none(b off n:Nat):(⟨b,off,none⟩:Addr).add n=⟨b,off+n,none⟩:=by
 unfold Addr.add
 split
 ·rename_i h0;subst h0;rfl
 ·rfl
theorem openL{e:TypeId} {α:Type} {d:Kd α}(hu:P.underlying t=some (.slice e))(hs:P.cellsOf e=d.sz)(hp:0<d.sz)(hb:0<P.bytesOf e)(h:Open P e d):Open P t (kL d):=by
 intro H enc w fuel cs x hx hw
 cases fuel with
 |zero=>simp[DataW.trod] at hx
 |succ fuel=>
  unfold DataW.trod at hx
  rw[hu] at hx
  split at hx<;>first|(simp at hx;done)|skip
  all_goals rename_i heq;first|(simp at heq;done)|skip
  ·exact⟨[],none,0,rfl,Nat.le_refl _,by omega,by simp[big],.inl rfl⟩
  ·rename_i a len cap
   simp only[Option.some.injEq,TypeDesc.slice.injEq] at heq
   subst heq
   split at hx
   ·rename_i hc
    obtain⟨elems,he,hx⟩:=Option.bind_eq_some_iff.1 hx
    obtain⟨rest,hr,hx⟩:=Option.map_eq_some_iff.1 hx
    subst hx
    obtain⟨hl,hel⟩:=mapM_get he
    rw[List.length_range] at hl
    have hwl:len<=big:=by
     have hm:=hw ((elems.map (·.1)).length+(rest.map (·.1)).length|>(·*P.bytesOf e)) (by simp[DataW.weights,hu])
     have h1:elems.length<=(elems.length+rest.length)*P.bytesOf e:=Nat.le_trans (Nat.le_add_right _ _) (Nat.le_mul_of_pos_right _ hb)
     have:=reachBytes_lt
     simp at hm
     unfold big
     omega
    obtain⟨b,off,sp⟩:=a
    have hread:∀i,i<len->∃u,∃cells t0 fr,sp=none/\w.heap[b]?=some (.cells cells t0 fr)/\off+(i+1)*d.sz<=cells.size/\d.reps (fun b=>w.heap[b]?) ((cells.toList.drop (off+i*d.sz)).take d.sz) u:=by
     intro i hi
     obtain⟨y,hy,hf⟩:=hel i i (by simp[hi])
     obtain⟨csi,hci,hti⟩:=Option.bind_eq_some_iff.1 hf
     rw[hs] at hci
     obtain⟨u,hu'⟩:=h enc w fuel csi y hti (fun n hn=>hw n (by
      simp only[DataW.weights,hu,List.mem_cons,List.mem_append]
      exact .inr (.inl (jX (List.mem_map.2 ⟨y,List.mem_of_getElem? hy,rfl⟩) n hn))))
     by_cases h0:i=0
     ·subst h0
      have ha:(⟨b,off,sp⟩:Addr).add (0*d.sz)=⟨b,off,sp⟩:=by simp[Addr.add]
      rw[ha] at hci
      obtain⟨hsp,cells,t0,fr,hh,hcs,hsz⟩:=ko hp hci
      exact⟨u,cells,t0,fr,hsp,hh,by omega,by rw[Nat.zero_mul,Nat.add_zero,<-hcs];exact hu'⟩
     ·obtain⟨y0,hy0,hf0⟩:=hel 0 0 (by rw[List.getElem?_range (by omega)])
      obtain⟨cs0,hc0,_⟩:=Option.bind_eq_some_iff.1 hf0
      rw[hs] at hc0
      have ha:(⟨b,off,sp⟩:Addr).add (0*d.sz)=⟨b,off,sp⟩:=by simp[Addr.add]
      rw[ha] at hc0
      obtain⟨rfl,_⟩:=ko hp hc0
      rw[addr_none] at hci
      obtain⟨hsp,cells,t0,fr,hh,hcs,hsz⟩:=ko hp hci
      refine⟨u,cells,t0,fr,rfl,hh,by rw[Nat.add_mul];omega,by rw[<-hcs];exact hu'⟩
    obtain⟨us,hul,hus⟩:=oH len hread
    refine⟨us,some ⟨b,off,sp⟩,cap,by rw[hul],by omega,by have:=hc.2.2;simpa [maxLen] using this,by omega,?_⟩
    rcases Nat.eq_zero_or_pos len with h0|h0
    ·exact .inl (List.eq_nil_of_length_eq_zero (by omega))
    ·obtain⟨cells,t0,fr,rfl,hh,hsz,_⟩:=hus (len-1) (us[len-1]'(by omega)) (by simp)
     rw[show len-1+1=len by omega] at hsz
     refine .inr ⟨b,off,cells,t0,fr,rfl,hh,?_,fun j u hj=>?_⟩
     ·have hcl:cells.toList.length=cells.size:=Array.length_toList
      rw[List.length_take,List.length_drop,hcl];show min (us.length*d.sz) _=us.length*d.sz;rw[hul];omega
     ·obtain⟨cells',t0',fr',_,hh',_,hrep⟩:=hus j u hj
      rw[hh] at hh';cases hh'
      have hjl:j<len:=by rw[<-hul];exact(List.getElem?_eq_some_iff.1 hj).1
      have e1:(((cells.toList.drop off).take (us.length*d.sz)).drop (j*d.sz)).take d.sz=(cells.toList.drop (off+j*d.sz)).take d.sz:=by
       rw[List.drop_take,List.drop_drop,List.take_take,Nat.min_eq_left]
       rw[hul,<-Nat.sub_mul]
       exact Nat.le_mul_of_pos_left _ (by omega)
      rw[e1];exact hrep
   ·cases hx
def VT{S:Type}:List (Fld S)->Type
 |[]=>Unit
 |f::fs=>f.α×VT fs
def repsV{S:Type}:(fs:List (Fld S))->FH->List Value->VT fs->Prop
 |[],_,cs,_=>cs=[]
 |f::fs,H,cs,v=>∃c1 c2,cs=c1++c2/\f.d.reps H c1 v.1/\repsV fs H c2 v.2
def OpenF(P:Program){S:Type}:List Field->List (Fld S)->Nat->Prop
 |[],[],_=>True
 |f::fs,g::gs,off=>f.offset=off/\P.cellsOf f.type=g.d.sz/\Open P f.type g.d/\OpenF P fs gs (off+g.d.sz)
 |_,_,_=>False
theorem openF{S:Type} {H:Type} {enc:TypeId×Value->H} {w:World} {fuel:Nat} {cs:List Value}:∀{fs:List Field} {gs:List (Fld S)} {off:Nat} {xs:List (DataW H×List MemPlace)},OpenF P fs gs off->
  fs.mapM (fun f=>DataW.trod enc P w 0 (fun _=>true) true fuel f.type ((cs.drop f.offset).take (P.cellsOf f.type)))=some xs->cs.length=off+szF gs->
  (∀n∈DataW.weightsEach P (fs.map (·.type)) (xs.map (·.1)),n<=reachBytes)->∃v:VT gs,repsV gs (fun b=>w.heap[b]?) (cs.drop off) v
 |[],[],off,xs,_,_,hl,_=>⟨(),by show cs.drop off=[];rw[List.drop_eq_nil_iff];simp[szF] at hl;omega⟩
 |f::fs,g::gs,off,xs,⟨ho,hs,hop,hk⟩,hm,hl,hw=>by
  rw[List.mapM_cons] at hm
  cases ha:DataW.trod enc P w 0 (fun _=>true) true fuel f.type ((cs.drop f.offset).take (P.cellsOf f.type)) with
  |none=>rw[ha] at hm;cases hm
  |some y=>
   rw[ha] at hm
   cases hr:fs.mapM (fun f=>DataW.trod enc P w 0 (fun _=>true) true fuel f.type ((cs.drop f.offset).take (P.cellsOf f.type))) with
   |none=>rw[hr] at hm;cases hm
   |some zs=>
    rw[hr] at hm
    cases hm
    rw[List.map_cons,List.map_cons,DataW.weightsEach] at hw
    obtain⟨u,hu⟩:=hop enc w fuel _ y ha (fun n hn=>hw n (List.mem_append_left _ hn))
    obtain⟨v,hv⟩:=openF hk hr (by rw[hl];simp[szF];omega) (fun n hn=>hw n (List.mem_append_right _ hn))
    refine⟨(u,v),(cs.drop off).take g.d.sz,cs.drop (off+g.d.sz),?_,by rw[<-hs,<-ho];exact hu,hv⟩
    rw[<-List.drop_drop,List.take_append_drop]
 |[],_::_,_,_,h,_,_,_=>h.elim
 |_::_,[],_,_,h,_,_,_=>h.elim
theorem openR{S:Type} {fs:Array Field} {gs:List (Fld S)}(mk:VT gs->S)(hmk:∀H cs v,repsV gs H cs v->repsF gs H cs (mk v))(hu:P.underlying t=some (.struct fs))(hc:P.cellsOf t=szF gs)(h:OpenF P fs.toList gs 0):Open P t (kR gs):=by
 intro H enc w fuel cs x hx hw
 cases fuel with
 |zero=>simp[DataW.trod] at hx
 |succ fuel=>
  unfold DataW.trod at hx
  rw[hu] at hx
  simp only at hx
  split at hx
  ·rename_i hl
   obtain⟨xs,hm,hx⟩:=Option.map_eq_some_iff.1 hx
   subst hx
   obtain⟨v,hv⟩:=openF h hm (by rw[hl,hc];omega) (fun n hn=>hw n (by simpa [DataW.weights,hu] using hn))
   exact⟨mk v,hmk _ _ _ (by simpa using hv)⟩
  ·cases hx
theorem openArg{H:Type} {enc:TypeId×Value->H} {w:World} {v:Value} {x:DataW H} {p:List MemPlace} {α:Type} {d:Kd α}(ho:Open P t d)(h:DataW.Trod enc P w 0 (fun _=>true) true t v x p)(hw:∀n∈x.weights P t,n<=reachBytes)(hv:v=mkv d.agg v.cells.toList):∃u,(d.sig u).p (fun b=>w.heap[b]?) v:=by
 obtain⟨fuel,hf⟩:=h
 obtain⟨u,hu⟩:=ho enc w fuel _ _ hf hw
 exact⟨u,_,hu,hv⟩
theorem hvStruct{w:World} {r:Reach} {base:Nat} {v:Value} {fs:Array Field}(hu:P.underlying t=some (.struct fs))(h:Value.okWide P w r base t v):v=mkv true v.cells.toList:=by
 unfold Value.okWide at h
 rw[hu] at h
 obtain⟨cs,rfl,_⟩:=h
 simp[mkv,Value.cells]
end
end Go.Proofs.YtmjcpkmongafnaaGreatDoor.Ab
