import Derived.Test.YtmjcpkmongafnaaGreatDoorAb28
import Derived.Laws.StructEq
set_option linter.unusedVariables false
set_option linter.unusedSimpArgs false
namespace Go.Proofs.YtmjcpkmongafnaaGreatDoor.Ab
open Go Go.RowKit
def EqK(P:Program){α:Type}[DecidableEq α](d:Kd α)(T:TypeId)(n:Nat):Prop:=
 ∀(H:FH) (w:World) (cs cs':List Value) (x y:α),d.reps H cs x->d.reps H cs' y->∀m,(Op.equalIn (m+n) T (mkv d.agg cs) (mkv d.agg cs')).run P w=.ok (decide (x=y)) w
theorem beq_dec{α:Type}[DecidableEq α](a b:α):(a==b)=decide (a=b):=by by_cases h:a=b<;>simp[h]
theorem eqKI{P:Program} {k:IntKind} {T:TypeId}(h:P.underlying T=some (.int k)):EqK P (kI k) T 1:=fun H w cs cs' x y h1 h2 m=>by
 obtain⟨rfl,_⟩:=h1
 obtain⟨rfl,_⟩:=h2
 show (Op.equalIn (m+1) T (.int k x) (.int k y)).run P w=_
 rw[run_equalIn_int w m T k k x y h,beq_dec]
def fkey(f:Field):Bool×Nat×TypeId:=(f.name != "_",f.offset,f.type)
inductive EqF(P:Program)(n:Nat){S:Type}:List (Bool×Nat×TypeId)->List (Fld S)->Nat->(S->S->Bool)->Prop
 |nil {off:Nat}:EqF P n [] [] off (fun _ _=>true)
 |cons {t:TypeId} {g:Fld S} [DecidableEq g.α] {fs:List (Bool×Nat×TypeId)} {gs:List (Fld S)} {off o:Nat} {r:S->S->Bool} (ho:o=off) (hp:tinf P t=some (g.d.agg,g.d.sz)) (he:EqK P g.d t n) (k:EqF P n fs gs (off+g.d.sz) r):
   EqF P n ((true,o,t)::fs) (g::gs) off (fun x y=>decide (g.get x=g.get y)&&r x y)
theorem eqF_run{P:Program} {n:Nat} {S:Type} {H:FH} {w:World} {x y:S}(m:Nat):∀{ks:List (Bool×Nat×TypeId)} {gs:List (Fld S)} {off:Nat} {r:S->S->Bool},EqF P n ks gs off r->
  ∀(fs:List Field) (p p' cs cs':List Value),fs.map fkey=ks->p.length=off->p'.length=off->repsF gs H cs x->repsF gs H cs' y->(Op.eqFields (m+n) (p++cs).toArray (p'++cs').toArray fs).run P w=.ok (r x y) w:=by
 intro ks gs off r h
 induction h with
 |nil=>
  intro fs p p' cs cs' e _ _ _ _
  obtain rfl:fs=[]:=List.map_eq_nil_iff.1 e
  simp[Op.eqFields]
 | @cons t g _ ks gs off o r ho hp he k ih=>
  intro fs0 p p' cs cs' hks h1 h2 ⟨c1,c2,e1,a1,a2⟩ ⟨d1,d2,e2,b1,b2⟩
  match fs0,hks with
  |[],hks=>cases hks
  |f::fs,hks=>
  simp only[List.map_cons,List.cons.injEq,fkey,Prod.mk.injEq] at hks
  obtain⟨⟨hn,ho',ht⟩,hk2⟩:=hks
  subst ht
  rw[<-ho'] at ho
  have l1:=g.d.len a1
  have l2:=g.d.len b1
  have q1:(part f.type (p++cs).toArray f.offset).run P w=.ok (mkv g.d.agg c1) w:=lq hp g.d.one (by rw[ho,<-h1,List.drop_left,e1,<-l1,List.take_left]) l1
  have q2:(part f.type (p'++cs').toArray f.offset).run P w=.ok (mkv g.d.agg d1) w:=lq hp g.d.one (by rw[ho,<-h2,List.drop_left,e2,<-l2,List.take_left]) l2
  have hn':f.name≠ "_" :=by simpa using hn
  simp only[Op.eqFields,hn',ne_eq,not_false_eq_true,if_true,Sem.run_bind,q1,q2,Result.andThen_ok,he H w _ _ _ _ a1 b1 m]
  by_cases q:g.get x=g.get y
  ·rw[decide_eq_true q]
   have:=ih fs (p++c1) (p'++d1) c2 d2 hk2 (by simp[h1,l1]) (by simp[h2,l2]) a2 b2
   rw[List.append_assoc,List.append_assoc,<-e1,<-e2] at this
   simpa using this
  ·rw[decide_eq_false q];simp
def sfields(P:Program)(T:TypeId):Option (List (Bool×Nat×TypeId)):=match P.underlying T with|some (.struct fs)=>some (fs.toList.map fkey)|_=>none
theorem eqKR{P:Program} {n:Nat} {S:Type}[DecidableEq S]{gs:List (Fld S)} {fs:List (Bool×Nat×TypeId)} {T:TypeId} {r:S->S->Bool}(hT:sfields P T=some fs)(hp:P.stoodInHeld T=false)(h:EqF P n fs gs 0 r)(hx:∀x y,r x y=decide (x=y)):EqK P (kR gs) T (n+1):=fun H w cs cs' x y h1 h2 m=>by
 have hu:P.underlying T=some (.struct (P.fieldsOf T))/\(P.fieldsOf T).toList.map fkey=fs:=by
  unfold sfields at hT
  unfold Program.fieldsOf
  split at hT
  ·rename_i a e;rw[e];simp at hT;exact⟨rfl,hT⟩
  ·cases hT
 show (Op.equalIn (m+n+1) T (.agg cs.toArray) (.agg cs'.toArray)).run P w=_
 rw[run_equalIn_struct w (m+n) T _ _ hu.1 hp]
 have:=eqF_run (P:=P) (w:=w) m h _ [] [] cs cs' hu.2 rfl rfl h1 h2
 rw[<-hx];simpa using this
section
variable{P:Program} {x y:Operand} {i j:Env} {dst:Option Nat} {T T' ty:TypeId} {pos:String} {af:Array Edge} {gd:Option (Nat×Bool)} {R:List Res}
theorem oREq{S:Type}[DecidableEq S]{gs:List (Fld S)} {a b:S} {r:Bool} {n:Nat}(he:EqK P (kR gs) T n)(hn:Nat.ble n 10000=true)(hg:P.eqGuardType P.depth T=false)(hr:decide (a=b)=r)(h:Opd x (.d ((kR gs).sig a)) i)(h':Opd y (.d ((kR gs).sig b)) j):OkP P ⟨dst,.binOp .eql T x y T',ty,pos,af,gd⟩ (i++j) (.d (kB.sig r)):=okV fun g w ac hA hi=>by
 obtain⟨cs,h1,e1⟩:=h g ac (satI_l hi)
 obtain⟨ds,h2,e2⟩:=h' g ac (satI_r hi)
 have hn':=Nat.le_of_ble_eq_true hn
 have q:=he g.H w cs ds a b h1 h2 (10000-n)
 rw[Nat.sub_add_cancel hn'] at q
 have q':(Op.equalIn 10000 T (.agg cs.toArray) (.agg ds.toArray)).run P w=.ok (decide (a=b)) w:=q
 subst hr
 refine⟨.bool (decide (a=b)),?_,kB_sig.2 rfl⟩
 have e1':ac.eval x=.agg cs.toArray:=e1
 have e2':ac.eval y=.agg ds.toArray:=e2
 simp only[execOp,e1',e2',Sem.run_bind,run_eqGuard_agg (P:=P) w .eql T x y cs.toArray ds.toArray hg,Result.andThen_ok,run_eql_struct w T cs.toArray ds.toArray,q',Sem.run_pure]
theorem oRNe{S:Type}[DecidableEq S]{gs:List (Fld S)} {a b:S} {r:Bool} {n:Nat}(he:EqK P (kR gs) T n)(hn:Nat.ble n 10000=true)(hg:P.eqGuardType P.depth T=false)(hr:decide (a=b)=r)(h:Opd x (.d ((kR gs).sig a)) i)(h':Opd y (.d ((kR gs).sig b)) j):OkP P ⟨dst,.binOp .neq T x y T',ty,pos,af,gd⟩ (i++j) (.d (kB.sig (!r))):=okV fun g w ac hA hi=>by
 obtain⟨cs,h1,e1⟩:=h g ac (satI_l hi)
 obtain⟨ds,h2,e2⟩:=h' g ac (satI_r hi)
 have hn':=Nat.le_of_ble_eq_true hn
 have q:=he g.H w cs ds a b h1 h2 (10000-n)
 rw[Nat.sub_add_cancel hn'] at q
 have q':(Op.equalIn 10000 T (.agg cs.toArray) (.agg ds.toArray)).run P w=.ok (decide (a=b)) w:=q
 subst hr
 refine⟨.bool (!decide (a=b)),?_,kB_sig.2 rfl⟩
 have e1':ac.eval x=.agg cs.toArray:=e1
 have e2':ac.eval y=.agg ds.toArray:=e2
 simp only[execOp,e1',e2',Sem.run_bind,run_eqGuard_agg (P:=P) w .neq T x y cs.toArray ds.toArray hg,Result.andThen_ok,run_neq_struct w T cs.toArray ds.toArray,q',Sem.run_pure]
end
def kFn(P:Program){β:Type}(Rl:β->List Sig->Sig->Prop):Kd (Option β):=⟨1,false,
 fun H cs o=>∃v,cs=[v]/\v.oneCell'=true/\match o with|none=>v=.nilFunc|some f=>(sFun P (Rl f)).p H v,
 fun {H H' cs o} hl ⟨v,e,ho,h⟩=>⟨v,e,ho,match o,h with|none,h=>h|some f,h=>(sFun P (Rl f)).mono hl h⟩,
 fun⟨v,e,_⟩=>by rw[e];rfl,fun⟨v,e,ho,_⟩ c hc=>by rw[e] at hc;simp at hc;subst hc;exact ho,fun _=>rfl⟩
theorem zFn{P:Program} {β:Type} {Rl:β->List Sig->Sig->Prop}(H:FH):(kFn P Rl).reps H [.nilFunc] none:=⟨_,rfl,rfl,rfl⟩
theorem oSome{P:Program} {β:Type} {Rl:β->List Sig->Sig->Prop} {f:β} {x:Operand} {i:Env}(h:Opd x (.d (sFun P (Rl f))) i):Opd x (.d ((kFn P Rl).sig (some f))) i:=fun g a hs=>by
 have k:=h g a hs
 obtain⟨f',cap,e,_⟩:=k
 exact⟨[a.eval x],⟨a.eval x,rfl,by rw[e];rfl,h g a hs⟩,rfl⟩
theorem oGot{P:Program} {β:Type} {Rl:β->List Sig->Sig->Prop} {o:Option β} {f:β} {x:Operand} {i:Env}(e:o=some f)(h:Opd x (.d ((kFn P Rl).sig o)) i):Opd x (.d (sFun P (Rl f))) i:=fun g a hs=>by
 subst e
 obtain⟨cs,⟨v,rfl,ho,k⟩,e⟩:=h g a hs
 rw[show a.eval x=v from e];exact k
def rl2s{α β ρ:Type}(d:Kd α)(d2:Kd β)(o:ρ->Sig)(f:α->β->Option ρ):List Sig->Sig->Prop:=fun ins out=>∃a b r,f a b=some r/\ins=[d.sig a,d2.sig b]/\out=o r
section
variable{α β γ ρ:Type} {P:Program} {n:Nat} {caps:List Sig} {d:Kd α} {d2:Kd β} {d3:Kd γ} {o:ρ->Sig}
theorem rl2si{f:α->β->Option ρ} {a:α} {b:β} {r:ρ}(h:f a b=some r):rl2s d d2 o f [d.sig a,d2.sig b] (o r):=⟨a,b,r,h,rfl,rfl⟩
theorem rl2sn{f:α->β->Option ρ}(k:∀{a:α} {b:β} {r:ρ},f a b=some r->FnA P n [d.sig a,d2.sig b] (o r)):∀ins out,rl2s d d2 o f ins out->FnA P n ins out:=by
 rintro ins out ⟨a,b,r,h,rfl,rfl⟩;exact k h
end
end Go.Proofs.YtmjcpkmongafnaaGreatDoor.Ab
