import Derived.Test.YtmjcpkmongafnaaGreatDoorAb20
set_option linter.unusedVariables false
set_option linter.unusedSimpArgs false
namespace Go.Proofs.YtmjcpkmongafnaaGreatDoor.Ab
open Go Go.RowKit
def IfP{I:Type}(view:I->Option (TypeId×Sig))(H:FH)(v:Value)(x:I):Prop:=
 match view x with
 |none=>v=.nilIface
 |some (t,s)=>∃u,v=.iface t u/\s.p H u
theorem IfP.mono{I:Type} {view:I->Option (TypeId×Sig)} {H H':FH} {v:Value} {x:I}(hl:FH.le H H')(h:IfP view H v x):IfP view H' v x:=by
 unfold IfP at h⊢
 cases hv:view x with
 |none=>rw[hv] at h;exact h
 |some p=>
  obtain⟨t,s⟩:=p
  rw[hv] at h
  obtain⟨u,e,hp⟩:=h
  exact⟨u,e,s.mono hl hp⟩
def kF{I:Type}(view:I->Option (TypeId×Sig)):Kd I where
 sz:=1
 agg:=false
 reps:=fun H cs x=>∃v,cs=[v]/\IfP view H v x
 mono:=fun hl ⟨v,e,h⟩=>⟨v,e,h.mono hl⟩
 len:=fun⟨v,e,h⟩=>by rw[e];rfl
 ok:=by
  intro H cs x ⟨v,e,h⟩ c hc
  rw[e] at hc
  simp at hc
  subst hc
  unfold IfP at h
  cases hv:view x with
  |none=>rw[hv] at h;rw[h];rfl
  |some p=>
   obtain⟨t,s⟩:=p
   rw[hv] at h
   obtain⟨u,e,_⟩:=h
   rw[e];rfl
 one:=fun _=>rfl
theorem kF_sig{I:Type} {view:I->Option (TypeId×Sig)} {x:I} {H:FH} {v:Value}:((kF view).sig x).p H v↔IfP view H v x:=
 ⟨fun⟨cs,⟨u,e,h⟩,e2⟩=>by subst e2 e;exact h,fun h=>⟨[v],⟨v,rfl,h⟩,rfl⟩⟩
theorem cNil{I:Type} {view:I->Option (TypeId×Sig)} {x:I}(hx:view x=none):Opd (.const .nilIface) (.d ((kF view).sig x)) []:=fun g a _=>kF_sig.2 (by unfold IfP;rw[hx];rfl)
def conB(P:Program)(t:TypeId):Bool:=match P.underlying t with
 |some (.interface _)=>false
 |some _=>true
 |none=>false
theorem conB_get{P:Program} {t:TypeId}(h:conB P t=true):∃D,P.underlying t=some D/\∀ms,D≠ .interface ms:=by
 unfold conB at h
 cases hu:P.underlying t with
 |none=>rw[hu] at h;cases h
 |some D=>exact⟨D,rfl,fun ms e=>by subst e;rw[hu] at h;cases h⟩
def zeroV(P:Program)(t:TypeId)(z:Value):Prop:=(P.info? t).bind (·.zero)=some z
theorem jK{P:Program} {t:TypeId} {z:Value} {w:World}(h:zeroV P t z):(zeroValue t).run P w=.ok z w:=by
 obtain⟨i,hi,hz⟩:=Option.bind_eq_some_iff.1 h
 simp[zeroValue,typeInfo,hi,hz]
section
variable{rd:Option Nat} {P:Program} {x y:Operand} {i j:Env} {dst:Option Nat} {T T' ty:TypeId} {pos:String} {af:Array Edge} {gd:Option (Nat×Bool)} {R:List Res}
theorem oMkI{I:Type} {view:I->Option (TypeId×Sig)} {x0:I} {s:Sig}(hv:view x0=some (T,s))(hT:conB P T=true)(h:Opd x (.d s) i):OkP P ⟨dst,.makeInterface T x,ty,pos,af,gd⟩ i (.d ((kF view).sig x0)):=okV fun g w ac hA hi=>by
 obtain⟨D,hu,hne⟩:=conB_get hT
 refine⟨.iface T (ac.eval x),?_,kF_sig.2 ?_⟩
 ·simp only[execOp,Instr.makeInterface,Sem.run_bind,run_underlying hu,Result.andThen_ok]
  cases D<;>first|exact absurd rfl (hne _)|rfl
 ·unfold IfP
  rw[hv]
  exact⟨_,rfl,h g ac hi⟩
def AsOk{I α:Type}(view:I->Option (TypeId×Sig))(t:TypeId)(d:Kd α)(z0:α)(as:I->α×Bool):Prop:=
 ∀x,match view x with
  |none=>as x=(z0,false)
  |some (t',s)=>if t'=t then s=d.sig (as x).1/\(as x).2=true else as x=(z0,false)
theorem oTA{I α:Type} {view:I->Option (TypeId×Sig)} {d:Kd α} {z0:α} {z:Value} {as:I->α×Bool} {x0:I}(ha:AsOk view T' d z0 as)(hT:conB P T'=true)(hz:zeroV P T' z)(hz0:∀H,(d.sig z0).p H z)(h:Opd x (.d ((kF view).sig x0)) i):
  OkP P ⟨dst,.typeAssert x T T' true,ty,pos,af,gd⟩ i (.d (tup [d.sig (as x0).1,kB.sig (as x0).2])):=okV fun g w ac hA hi=>by
 obtain⟨D,hu,hne⟩:=conB_get hT
 have h1:=kF_sig.1 (h g ac hi)
 have ha0:=ha x0
 unfold IfP at h1
 cases hv:view x0 with
 |none=>
  rw[hv] at h1 ha0
  have h1':ac.eval x=.nilIface:=h1
  have ha1:as x0=(z0,false):=ha0
  refine⟨.tuple #[z,.bool false],?_,[z,.bool false],rfl,_,_,rfl,by rw[ha1];exact hz0 _,_,_,rfl,by rw[ha1];exact kB_sig.2 rfl,rfl⟩
  simp only[execOp,Instr.typeAssert,Sem.run_bind,run_underlying hu,Result.andThen_ok,h1']
  cases D<;>first|exact absurd rfl (hne _)|(simp only[Sem.run_bind,jK hz,Result.andThen_ok,if_true];rfl)
 |some p=>
  obtain⟨t,s⟩:=p
  rw[hv] at h1 ha0
  obtain⟨u,e,hp⟩:=h1
  simp only at ha0
  by_cases ht:t=T'
  ·subst ht
   rw[if_pos rfl] at ha0
   obtain⟨hs,hb⟩:=ha0
   refine⟨.tuple #[u,.bool true],?_,[u,.bool true],rfl,_,_,rfl,by rw[<-hs];exact hp,_,_,rfl,by rw[hb];exact kB_sig.2 rfl,rfl⟩
   simp only[execOp,Instr.typeAssert,Sem.run_bind,run_underlying hu,Result.andThen_ok,e]
   cases D<;>first|exact absurd rfl (hne _)|(simp only[if_true,Sem.run_bind,Sem.run_pure,Result.andThen_ok])
  ·rw[if_neg ht] at ha0
   refine⟨.tuple #[z,.bool false],?_,[z,.bool false],rfl,_,_,rfl,by rw[ha0];exact hz0 _,_,_,rfl,by rw[ha0];exact kB_sig.2 rfl,rfl⟩
   simp only[execOp,Instr.typeAssert,Sem.run_bind,run_underlying hu,Result.andThen_ok,e]
   cases D<;>first|exact absurd rfl (hne _)|(simp only[if_neg ht,Sem.run_bind,jK hz,Result.andThen_ok,if_true];rfl)
end
theorem zvI{k:IntKind}(h:InR k 0):∀H,((kI k).sig 0).p H (.int k 0):=fun _=>kI_sig.2 ⟨rfl,h⟩
theorem zvB:∀H,(kB.sig false).p H (.bool false):=fun _=>kB_sig.2 rfl
end Go.Proofs.YtmjcpkmongafnaaGreatDoor.Ab
