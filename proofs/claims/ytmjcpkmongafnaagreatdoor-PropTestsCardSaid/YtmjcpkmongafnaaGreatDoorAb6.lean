import Derived.Test.YtmjcpkmongafnaaGreatDoorAb5
set_option linter.unusedVariables false
set_option linter.unusedSimpArgs false
namespace Go.Proofs.YtmjcpkmongafnaaGreatDoor.Ab
open Go Go.RowKit
def memB(n:Nat):List Nat->Bool
 |[]=>false
 |m::r=>match Nat.beq n m with|true=>true|false=>memB n r
def nodupB:List Nat->Bool
 |[]=>true
 |m::r=>match memB m r with|true=>false|false=>nodupB r
def fitB(N:Nat):List Oper->Bool
 |[]=>true
 |o::r=>match o.dst with
  |some d=>match Nat.ble (d+1) N with|true=>(match noDefer o.op with|true=>fitB N r|false=>false)|false=>false
  |none=>match noDefer o.op with|true=>fitB N r|false=>false
def freshB(L:List Nat):List Nat->Bool
 |[]=>true
 |m::r=>match memB m L with|true=>false|false=>freshB L r
def noBoom:List En->Bool
 |[]=>true
 |e::r=>match e.kind with|.boom=>false|_=>noBoom r
def boomLast:List En->Bool
 |[]=>false
 |e::r=>match r with|[]=>true|_::_=>(match e.kind with|.boom=>false|_=>boomLast r)
def chkB(C:Cx)(l:List Oper)(es:List En)(Γ:Env)(R:List Res):Bool:=match fitB C.N l with
 |true=>match nids es with
  |[]=>true
  |n::r=>match nodupB (n::r) with|true=>freshB (C.pi++used Γ R) (n::r)|false=>false
 |false=>false
theorem memB_iff{n:Nat}:∀{l:List Nat},memB n l=true↔n∈l
 |[]=>by simp[memB]
 |m::r=>by
  unfold memB
  cases h:Nat.beq n m with
  |true=>simp[Nat.eq_of_beq_eq_true h]
  |false=>
   have hne:n≠m:=fun e=>by subst e;simp[Nat.beq_refl] at h
   simp[memB_iff,hne]
theorem fC:∀{l:List Nat},nodupB l=true->l.Nodup
 |[],_=>List.nodup_nil
 |m::r,h=>by
  unfold nodupB at h
  cases hm:memB m r with
  |true=>rw[hm] at h;cases h
  |false=>
   rw[hm] at h
   exact List.nodup_cons.2 (And.intro (fun hx=>(by rw[memB_iff.2 hx] at hm;cases hm)) (fC h))
theorem kC{N:Nat}:∀{l:List Oper},fitB N l=true->fitsN N l=true
 |[],_=>rfl
 |o::r,h=>by
  unfold fitB at h
  unfold fitsN
  rw[List.all_cons,Bool.and_eq_true,Bool.and_eq_true]
  cases hn:noDefer o.op with
  |false=>cases hd:o.dst with
   |none=>rw[hd,hn] at h;cases h
   |some d=>
    rw[hd,hn] at h
    simp only at h
    split at h<;>cases h
  |true=>
   cases hd:o.dst with
   |none=>
    rw[hd,hn] at h
    exact⟨⟨rfl,rfl⟩,kC h⟩
   |some d=>
    rw[hd,hn] at h
    simp only at h
    cases hb:Nat.ble (d+1) N with
    |true=>rw[hb] at h;exact⟨⟨decide_eq_true (Nat.le_of_ble_eq_true hb),rfl⟩,kC h⟩
    |false=>rw[hb] at h;cases h
theorem k0{L:List Nat}:∀{l:List Nat},freshB L l=true->∀n∈l,n∉L
 |[],_,n,hn=>by simp at hn
 |m::r,h,n,hn=>by
  unfold freshB at h
  cases hm:memB m L with
  |true=>rw[hm] at h;cases h
  |false=>
   rw[hm] at h
   rcases List.mem_cons.1 hn with rfl|hn
   ·exact fun hx=>by rw[memB_iff.2 hx] at hm;cases hm
   ·exact k0 h n hn
theorem iH{C:Cx} {l:List Oper} {es:List En} {Γ:Env} {R:List Res}(h:chkB C l es Γ R=true):fitsN C.N l=true/\(nids es).Nodup/\∀n∈nids es,n∉C.pi++used Γ R:=by
 unfold chkB at h
 cases hf:fitB C.N l with
 |false=>rw[hf] at h;cases h
 |true=>
  rw[hf] at h
  refine⟨kC hf,?_⟩
  cases hn:nids es with
  |nil=>exact⟨List.nodup_nil,fun n hn=>by simp at hn⟩
  |cons n r=>
   rw[hn] at h
   simp only at h
   cases hd:nodupB (n::r) with
   |false=>rw[hd] at h;cases h
   |true=>rw[hd] at h;exact⟨fC hd,k0 h⟩
theorem j8:∀{es:List En},noBoom es=true->∀e∈es,e.kind=.boom->False
 |[],_=>fun e he=>by cases he
 |x::r,h=>by
  intro e he hb
  unfold noBoom at h
  rcases List.mem_cons.1 he with rfl|he
  ·rw[hb] at h;cases h
  ·refine j8 (es:=r) ?_ e he hb
   cases hk:x.kind<;>rw[hk] at h<;>first|exact h|cases h
theorem iA{C:Cx} {Q:Exit->Act->World->Prop} {es:List En}(h:noBoom es=true):PX C Q [] es:=⟨fun e he hb=>(j8 h e he hb).elim,fun e he hb=>(j8 h e he hb).elim⟩
def freeB(Γp:Env):List En->Bool
 |[]=>true
 |e::r=>match e.dst with|some d=>(match look Γp d with|some _=>false|none=>freeB Γp r)|none=>freeB Γp r
theorem lO{Γp:Env}:∀{es:List En},freeB Γp es=true->∀x∈es,∀d,x.dst=some d->look Γp d=none
 |[],_=>fun e he=>by cases he
 |x::r,h=>by
  intro e he d hd
  unfold freeB at h
  rcases List.mem_cons.1 he with rfl|he
  ·rw[hd] at h
   simp only at h
   cases hl:look Γp d with
   |none=>rfl
   |some y=>rw[hl] at h;cases h
  ·refine lO (es:=r) ?_ e he d hd
   cases hx:x.dst with
   |none=>rw[hx] at h;exact h
   |some q=>
    rw[hx] at h
    simp only at h
    cases hl:look Γp q with
    |none=>rw[hl] at h;exact h
    |some y=>rw[hl] at h;cases h
theorem oL{rd:Option Nat} {P:Program} {ops:Array Oper} {l:List Oper} {Γ Γ':Env} {R R':List Res} {es:List En}(hc:Chain rd P ops l Γ R es Γ' R')(h:es=[]):R'=R:=by
 cases hc with
 |nil=>rfl
 |cons h1 hs k=>cases h
 |low h1 hw hs k=>cases h
theorem oM{rd:Option Nat} {P:Program} {ops:Array Oper} {l:List Oper} {Γ Γ':Env} {R R':List Res} {es:List En}(hc:Chain rd P ops l Γ R es Γ' R')(hb:boomLast es=true):∀e∈es,e.kind=.boom->e.R'=R':=by
 induction hc with
 |nil=>intro e he;cases he
 | @cons o rest x Γ Γ' R' es h hs k ih=>
  intro e he hk
  cases es with
  |nil=>
   rcases List.mem_cons.1 he with rfl|he
   ·exact(oL k rfl).symm
   ·cases he
  |cons y es=>
   unfold boomLast at hb
   rcases List.mem_cons.1 he with rfl|he
   ·rw[hk] at hb;cases hb
   ·refine ih ?_ e he hk
    cases hkk:x.kind<;>rw[hkk] at hb<;>first|exact hb|cases hb
 | @low o rest x Γ Γ' R' E es h hw hs k ih=>
  intro e he hk
  cases es with
  |nil=>
   rcases List.mem_cons.1 he with rfl|he
   ·rw[hw] at hk;cases hk
   ·cases he
  |cons y es=>
   unfold boomLast at hb
   rcases List.mem_cons.1 he with rfl|he
   ·rw[hk] at hw;cases hw
   ·refine ih ?_ e he hk
    rw[hw] at hb;exact hb
theorem rX_inj{v v':Value} {R R':List Res}(h:rX v::R=rX v'::R'):v=v'/\R=R':=by
 unfold rX at h
 injection h with h1 h2
 injection h1 with _ _ _ h3
 exact⟨h3,h2⟩
section
variable{C:Cx} {Q:Exit->Act->World->Prop} {Γ Γ':Env} {R R':List Res}
theorem px_of{ops:Array Oper} {l:List Oper} {es:List En} {v:Value} {Γp:Env} {Rr:List Res}(hc:Chain C.rd C.P ops l Γ R es Γ' (rX v::Rr))(hb:boomLast es=true)(hf:freeB Γp es=true)(h:Post C Q (.panic (pch v)) Γp Rr):PX C Q Γp es:=by
 refine⟨fun e he hk v' Rr' hR g w a s=>?_,fun e he hk=>lO hf⟩
 have:=oM hc hb e he hk
 rw[hR] at this
 obtain⟨rfl,rfl⟩:=rX_inj this
 exact h g w a s
theorem lj:∀{Γp:Env},Sub Γp Γ->∀t x,look Γp t=some x->look Γ t=some x
 |[],_,_,_,h=>by cases h
 |p::r,⟨h1,h2⟩,t,x,h=>by
  rw[eD] at h
  by_cases q:p.1=t
  ·rw[if_pos q] at h;cases h;rw[<-q];exact h1
  ·rw[if_neg q] at h;exact lj h2 t x h
theorem post_rX{v:Value} {Rr:List Res} {e:Exit}:Post C Q e Γ (rX v::Rr):=fun g w a s=>by
 obtain⟨bs,_,h⟩:=s.own.ok _ (List.mem_cons_self ..)
 exact h.elim
theorem rg{id:Nat} {l:List Oper} {es:List En}(hc:Chain C.rd C.P ⟨l⟩ l Γ R es Γ' R')(hk:(noBoom es&&chkB C l es Γ R)=true)(h:Post C Q .normal Γ' R'):WP C (.region id ⟨l⟩ false) Q Γ R:=
 let ⟨n,hk⟩:=Bool.and_eq_true_iff.1 hk;let ⟨a,b,c⟩:=iH hk;wRg rfl hc a b c (iA n) (fun _ _ e=>by cases e) h
def WT(C:Cx)(l:List Oper)(k:Nat)(Q:Exit->Act->World->Prop)(Γ:Env)(R:List Res):Prop:=∀g w a,St C Γ R g w a->wpOpsIn (FR C.rd) 0 C.P ⟨l⟩ Q (List.range' k (l.length-k)) a w
theorem wT0{id:Nat} {l:List Oper}(h:WT C l 0 Q Γ R):WP C (.region id ⟨l⟩ false) Q Γ R:=by
 intro g w a s
 refine wpIn_region ?_
 rw[show List.range (⟨l⟩:Array Oper).size=List.range' 0 (l.length-0) by simp[List.range_eq_range']]
 exact h g w a s
theorem wTk{l:List Oper} {es:List En}(k m:Nat)(hc:Chain C.rd C.P ⟨l⟩ ((l.drop k).take m) Γ R es Γ' R')(hk:(noBoom es&&chkB C ((l.drop k).take m) es Γ R)=true)(hl:Nat.ble (k+m) l.length=true)(h:WT C l (k+m) Q Γ' R'):WT C l k Q Γ R:=by
 intro g w a s
 obtain⟨n,hk⟩:=Bool.and_eq_true_iff.1 hk
 obtain⟨hf,hn,hu⟩:=iH hk
 have hl:=Nat.le_of_ble_eq_true hl
 have hlen:((l.drop k).take m).length=m:=by rw[List.length_take,List.length_drop];omega
 have:=ll (iA (Q:=Q) n) hc (jg hf) hn (fun e he=>he) (fun _ _ e=>by cases e) k ((l.drop k).drop m) (List.range' (k+m) (l.length-(k+m))) (List.take_append_drop m (l.drop k)).symm _ w a s.only (fun n hn'=>iF (hu n hn')) (fun n hn' hp=>hu n hn' (List.mem_append_left _ hp)) (fun g' w' a' s'=>h g' w' a' s')
 rw[hlen,show List.range' k m++List.range' (k+m) (l.length-(k+m))=List.range' k (l.length-k) by
  rw[List.range'_append_1];congr 1;omega] at this
 exact this
theorem wTe{l:List Oper} {es:List En}(k:Nat)(hc:Chain C.rd C.P ⟨l⟩ (l.drop k) Γ R es Γ' R')(hk:(noBoom es&&chkB C (l.drop k) es Γ R)=true)(h:Post C Q .normal Γ' R'):WT C l k Q Γ R:=by
 intro g w a s
 obtain⟨n,hk⟩:=Bool.and_eq_true_iff.1 hk
 obtain⟨hf,hn,hu⟩:=iH hk
 have:=ll (iA (Q:=Q) n) hc (jg hf) hn (fun e he=>he) (fun _ _ e=>by cases e) k [] [] (by simp) _ w a s.only (fun n hn'=>iF (hu n hn')) (fun n hn' hp=>hu n hn' (List.mem_append_left _ hp)) (fun g' w' a' s'=>h g' w' a' s')
 rw[List.append_nil,List.length_drop] at this
 exact this
theorem wTx{l:List Oper} {o:Oper} {ins Γp:Env} {v:Value} {Rr:List Res}(k:Nat)(ho:l[k]?=some o)(hX:OkX C.rd C.P o ins R v Rr)(hg:o.guard=none)(hno:noDefer o.op=true)(hsub:Sub ins Γ)(hs:Sub Γp Γ)(h:Post C Q (.panic (pch v)) Γp Rr):WT C l k Q Γ R:=by
 intro g w a s
 have hlt:k<l.length:=(List.getElem?_eq_some_iff.1 ho).1
 rw[show l.length-k=(l.length-k-1)+1 by omega,List.range'_succ,wpOpsIn_cons]
 unfold wpOpIn
 rw[show (⟨l⟩:Array Oper)[k]?=some o by simpa using ho]
 simp only
 rw[if_pos (by simp[Region.wanted,hg])]
 refine hX.frame s.keep (hsub.sat s.sat) s.own s.defers (fun g' w' hk hle hnm hown hD=>h g' w' a ⟨s.size,hD,hk,fun t x hx=>Ent.mono hle (s.sat t x (lj hs t x hx)),hown,fun i hi=>?_⟩)
 cases hgi:g.nm i with
 |some x=>rw[hle.2 _ _ hgi,<-hgi];exact s.pin i hi
 |none=>rw[hnm i hgi,<-hgi];exact s.pin i hi
theorem rgXD{id:Nat} {l:List Oper} {es:List En} {v:Value} {Γp:Env} {Rr:List Res}(hm:C.P.follows .mixedOrders=true)(hc:Chain C.rd C.P ⟨l⟩ l Γ R es Γ' (rX v::Rr))(hk:(boomLast es&&freeB Γp es&&chkB C l es Γ R)=true)(hr:rgOk ⟨l⟩ (es.map (·.kind)) (es.map fun e=>e.ins.map (·.1))=true)(hs:Sub Γp Γ)(h:Post C Q (.panic (pch v)) Γp Rr):WP C (.region id ⟨l⟩ true) Q Γ R:=
 let ⟨n,hk⟩:=Bool.and_eq_true_iff.1 hk;let ⟨n,m⟩:=Bool.and_eq_true_iff.1 n;let ⟨a,b,c⟩:=iH hk;wRgD hm rfl hc a b c hr (px_of hc n m h) (fun t x hx _ _ _=>lj hs t x hx) post_rX
theorem rgD{id:Nat} {l:List Oper} {es:List En}(hm:C.P.follows .mixedOrders=true)(hc:Chain C.rd C.P ⟨l⟩ l Γ R es Γ' R')(hk:(noBoom es&&chkB C l es Γ R)=true)(hr:rgOk ⟨l⟩ (es.map (·.kind)) (es.map fun e=>e.ins.map (·.1))=true)(h:Post C Q .normal Γ' R'):WP C (.region id ⟨l⟩ true) Q Γ R:=
 let ⟨n,hk⟩:=Bool.and_eq_true_iff.1 hk;let ⟨a,b,c⟩:=iH hk;wRgD hm rfl hc a b c hr (iA n) (fun _ _ e=>by cases e) h
theorem rgL{id:Nat} {l:List Oper} {es:List En}(hm:C.P.follows .mixedOrders=true)(hc:Chain C.rd C.P ⟨l⟩ l Γ R es Γ' R')(hk:(noBoom es&&chkB C l es Γ R)=true)(hr:rgOk0 ⟨l⟩ (es.map (·.kind)) (es.map fun e=>e.ins.map (·.1))=true)(hl:lowOk (es.map (·.kind)) (es.map fun e=>e.R.length) R.length=true)(h:Post C Q .normal Γ' R'):WP C (.region id ⟨l⟩ true) Q Γ R:=
 let ⟨n,hk⟩:=Bool.and_eq_true_iff.1 hk;let ⟨a,b,c⟩:=iH hk;wRgL hm rfl hc a b c hr (oN hl) (iA n) (fun _ _ e=>by cases e) h
end
section
variable{rd:Option Nat} {P:Program} {ops:Array Oper} {rest:List Oper} {Γ Γ':Env} {R R':List Res} {es:List En} {d:Nat} {op:Op} {ty:TypeId} {pos:String} {af:Array Edge} {out:Ent} {ins:Env}
theorem cp(h:OkP P ⟨some d,op,ty,pos,af,none⟩ ins out)(hs:Sub ins Γ)(k:Chain rd P ops rest ((d,out)::Γ) R es Γ' R'):Chain rd P ops (⟨some d,op,ty,pos,af,none⟩::rest) Γ R (⟨.pure,ins,out,[],some d,R,R⟩::es) Γ' R':=
 .cons (e:=⟨.pure,ins,out,[],some d,R,R⟩) (.pure rfl rfl h) hs k
theorem cg{j t:Nat} {b:Bool}(hj:(ops[j]?).bind (·.dst)=some t)(ht:look Γ t=some (.d (kB.sig b)))(h:OkP P ⟨some d,op,ty,pos,af,some (j,b)⟩ ins out)(hs:Sub ins Γ)(k:Chain rd P ops rest ((d,out)::Γ) R es Γ' R'):Chain rd P ops (⟨some d,op,ty,pos,af,some (j,b)⟩::rest) Γ R (⟨.pure,(t,.d (kB.sig b))::ins,out,[],some d,R,R⟩::es) Γ' R':=
 .cons (e:=⟨.pure,(t,.d (kB.sig b))::ins,out,[],some d,R,R⟩) (.pureG rfl rfl hj h) ⟨ht,hs⟩ k
theorem cs{j t:Nat} {b:Bool}(hj:(ops[j]?).bind (·.dst)=some t)(ht:look Γ t=some (.d (kB.sig (!b))))(k:Chain rd P ops rest ((d,.d sU)::Γ) R es Γ' R'):Chain rd P ops (⟨some d,op,ty,pos,af,some (j,b)⟩::rest) Γ R (⟨.skip,[(t,.d (kB.sig (!b)))],.d sU,[],some d,R,R⟩::es) Γ' R':=
 .cons (e:=⟨.skip,[(t,.d (kB.sig (!b)))],.d sU,[],some d,R,R⟩) (.skip rfl rfl hj rfl) ⟨ht,trivial⟩ k
theorem csU{j t:Nat} {b:Bool}(hj:(ops[j]?).bind (·.dst)=some t)(ht:look Γ t=some (.d sU))(k:Chain rd P ops rest ((d,.d sU)::Γ) R es Γ' R'):Chain rd P ops (⟨some d,op,ty,pos,af,some (j,b)⟩::rest) Γ R (⟨.skip,[(t,.d sU)],.d sU,[],some d,R,R⟩::es) Γ' R':=
 .cons (e:=⟨.skip,[(t,.d sU)],.d sU,[],some d,R,R⟩) (.skipU rfl rfl hj) ⟨ht,trivial⟩ k
theorem cr(h:Ok P ⟨some d,op,ty,pos,af,none⟩ ins R out none R)(hs:Sub ins Γ)(k:Chain rd P ops rest ((d,out)::Γ) R es Γ' R'):Chain rd P ops (⟨some d,op,ty,pos,af,none⟩::rest) Γ R (⟨.read,ins,out,[],some d,R,R⟩::es) Γ' R':=
 .cons (e:=⟨.read,ins,out,[],some d,R,R⟩) (.read rfl rfl h) hs k
theorem cw{nid:Option Nat} {R1:List Res}(h:Ok P ⟨some d,op,ty,pos,af,none⟩ ins R out nid R1)(hs:Sub ins Γ)(k:Chain rd P ops rest ((d,out)::Γ) R1 es Γ' R'):Chain rd P ops (⟨some d,op,ty,pos,af,none⟩::rest) Γ R (⟨.write,ins,out,nid.toList,some d,R,R1⟩::es) Γ' R':=
 .cons (e:=⟨.write,ins,out,nid.toList,some d,R,R1⟩) (.write rfl rfl rfl h) hs k
theorem cl{R0:List Res}(E:List Res)(hR:R=E++R0)(h:Ok P ⟨some d,op,ty,pos,af,none⟩ ins R0 out none R0)(hs:Sub ins Γ)(k:Chain rd P ops rest ((d,out)::Γ) R es Γ' R'):Chain rd P ops (⟨some d,op,ty,pos,af,none⟩::rest) Γ R (⟨.low,ins,out,[],some d,R0,R0⟩::es) Γ' R':=by
 subst hR
 exact .low (e:=⟨.low,ins,out,[],some d,R0,R0⟩) (.low rfl rfl h) rfl hs k
theorem cn{id:Nat} {r:Res}(h:Ok P ⟨some d,op,ty,pos,af,none⟩ ins R out (some id) (r::R))(hs:Sub ins Γ)(k:Chain rd P ops rest ((d,out)::Γ) (r::R) es Γ' R'):Chain rd P ops (⟨some d,op,ty,pos,af,none⟩::rest) Γ R (⟨.new,ins,out,[id],some d,R,r::R⟩::es) Γ' R':=
 .cons (e:=⟨.new,ins,out,[id],some d,R,r::R⟩) (.new rfl rfl h) hs k
theorem cnm{id:Nat} {r:Res}(h:OkL rd P ⟨some d,op,ty,pos,af,none⟩ ins R out [id] (r::R))(hs:Sub ins Γ)(k:Chain rd P ops rest ((d,out)::Γ) (r::R) es Γ' R'):Chain rd P ops (⟨some d,op,ty,pos,af,none⟩::rest) Γ R (⟨.new,ins,out,[id],some d,R,r::R⟩::es) Γ' R':=
 .cons (e:=⟨.new,ins,out,[id],some d,R,r::R⟩) (.newL rfl rfl h) hs k
theorem cwn{R1:List Res}(h:Ok P ⟨none,op,ty,pos,af,none⟩ ins R out none R1)(hs:Sub ins Γ)(k:Chain rd P ops rest Γ R1 es Γ' R'):Chain rd P ops (⟨none,op,ty,pos,af,none⟩::rest) Γ R (⟨.write,ins,out,[],none,R,R1⟩::es) Γ' R':=
 .cons (e:=⟨.write,ins,out,[],none,R,R1⟩) (.write rfl rfl rfl h) hs k
theorem cb{v:Value} {Rr:List Res}(h:OkX rd P ⟨some d,op,ty,pos,af,none⟩ ins R v Rr)(hs:Sub ins Γ)(k:Chain rd P ops rest ((d,.d sU)::Γ) (rX v::Rr) es Γ' R'):Chain rd P ops (⟨some d,op,ty,pos,af,none⟩::rest) Γ R (⟨.boom,ins,.d sU,[],some d,R,rX v::Rr⟩::es) Γ' R':=
 .cons (e:=⟨.boom,ins,.d sU,[],some d,R,rX v::Rr⟩) (.boom rfl rfl h) hs k
theorem cm{ns:List Nat} {R1:List Res}(h:OkL rd P ⟨some d,op,ty,pos,af,none⟩ ins R out ns R1)(hs:Sub ins Γ)(k:Chain rd P ops rest ((d,out)::Γ) R1 es Γ' R'):Chain rd P ops (⟨some d,op,ty,pos,af,none⟩::rest) Γ R (⟨.write,ins,out,ns,some d,R,R1⟩::es) Γ' R':=
 .cons (e:=⟨.write,ins,out,ns,some d,R,R1⟩) (.many rfl rfl h) hs k
theorem crg{j t:Nat} {b:Bool}(hj:(ops[j]?).bind (·.dst)=some t)(ht:look Γ t=some (.d (kB.sig b)))(h:Ok P ⟨some d,op,ty,pos,af,some (j,b)⟩ ins R out none R)(hs:Sub ins Γ)(k:Chain rd P ops rest ((d,out)::Γ) R es Γ' R'):Chain rd P ops (⟨some d,op,ty,pos,af,some (j,b)⟩::rest) Γ R (⟨.read,(t,.d (kB.sig b))::ins,out,[],some d,R,R⟩::es) Γ' R':=
 .cons (e:=⟨.read,(t,.d (kB.sig b))::ins,out,[],some d,R,R⟩) (.readG rfl rfl hj h) ⟨ht,hs⟩ k
end
theorem bd{α β:Type} {x:Option α} {f:α->Option β} {r:β}(h:(x>>=f)=some r):∃y,x=some y/\f y=some r:=by
 cases x with
 |none=>cases h
 |some y=>exact⟨y,rfl,h⟩
theorem ib{α:Type} {p:Prop}[Decidable p]{x:Option α} {r:α}(h:(if p then x else none)=some r):p/\x=some r:=by
 by_cases hp:p
 ·rw[if_pos hp] at h;exact⟨hp,h⟩
 ·rw[if_neg hp] at h;cases h
theorem so{α:Type} {x r:α}(h:some x=some r):x=r:=Option.some.inj h
end Go.Proofs.YtmjcpkmongafnaaGreatDoor.Ab
