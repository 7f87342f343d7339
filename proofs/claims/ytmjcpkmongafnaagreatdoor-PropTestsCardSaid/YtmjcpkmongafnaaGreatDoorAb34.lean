import Derived.Test.YtmjcpkmongafnaaGreatDoorAb33
set_option linter.unusedVariables false
set_option linter.unusedSimpArgs false
namespace Go.Proofs.YtmjcpkmongafnaaGreatDoor.Ab
open Go Go.RowKit
def sAg1:SigN:=⟨fun H vs x=>∃v,vs=[v]/\x=.agg #[v],fun _ h=>h⟩
section
variable{rd:Option Nat} {P:Program} {x y:Operand} {i j:Env} {dst:Option Nat} {T T' ty:TypeId} {pos:String} {af:Array Edge} {gd:Option (Nat×Bool)} {R:List Res}
theorem oBuildW{α:Type} {d:Kd α} {xs:List α} {n id:Nat} {E:TypeId} {z0:Value}(hr:R[n]?=some (.row id E d xs))(hz:zeroIs P T [z0])(hpl:places P T=some [(0,1)])(h:Opd x (.v id) i):Ok P ⟨dst,.build T #[(0,x)],ty,pos,af,gd⟩ i R (.f [id] sAg1) none R:=okR fun X B g w ac hA hs hown=>by
 have ex:g.nm id=some (ac.eval x):=h g ac hs
 obtain⟨v,cells,hv,hrow,_⟩:=hown.get hr
 rw[ex] at hv;cases hv
 have h1:=ml hrow
 obtain⟨z,hz1,hz2⟩:=Option.map_eq_some_iff.1 hz
 obtain⟨inf,hi1,hi2⟩:=Option.bind_eq_some_iff.1 hz1
 have hzr:(zeroValue T).run P w=.ok z w:=by
  simp only[zeroValue,typeInfo,program,Sem.run_bind,Sem.run,Sem.run_pure',Result.andThen_ok,hi1,Sem.run_pure,hi2]
 have hzc:z.cells= #[z0]:=Array.toList_inj.1 hz2
 refine⟨.agg #[ac.eval x],?_,[ac.eval x],by simp[ex],_,rfl,rfl⟩
 unfold places at hpl
 split at hpl
 ·rename_i fields hu
  have hrp:=j3 (P:=P) (w:=w) fields.toList [(0,1)] hpl
  have hm:(fields.mapM fun f=>(do pure (f.offset,<-sizeOf f.type):Sem (Nat×Nat))).run P w=.ok [(0,1)].toArray w:=by
   rw[<-Array.toArray_toList (xs:=fields),List.mapM_toArray]
   simp only[Sem.run_map,Sem.run_bind,Array.toArray_toList] at hrp⊢
   rw[hrp];rfl
  have hc:(ac.eval x).cells= #[ac.eval x]:=kz h1
  simp only[execOp,Instr.build,Sem.run_bind,hzr,Result.andThen_ok,run_underlying hu,hm,hzc]
  simp[Instr.fill,hc]
 ·cases hpl
theorem oStW{α:Type} {d:Kd α} {xs:List α} {E:TypeId} {n m id id':Nat} {T0:TypeId} {l:Leaf}(hr:R[n]?=some (.box id T0 [l]))(hs:l.sz=1)(hi:sizeIs P T 1)(hm:R[m]?=some (.row id' E d xs))(h:Opd x (.p id 0) i)(h':Opd y (.f [id'] sAg1) j):Ok P ⟨dst,.store T x y,ty,pos,af,gd⟩ (i++j) R (.d sAny) none (R.set n (.box id T0 [.v id'])):=
 ju hr fun X B g w ac b cs hown hA hi' hb hh hl=>by
  obtain⟨b',hb',e⟩:=h g ac (satI_l hi')
  rw[hb] at hb';cases hb'
  obtain⟨vs,hvs,v,e1,e2⟩:=h' g ac (satI_r hi')
  subst e1
  have hv:g.nm id'=some v:=by simpa using hvs
  obtain⟨v0,cells,hv0,hrow,_⟩:=hown.get hm
  rw[hv] at hv0;cases hv0
  have h1:=ml hrow
  have hlen:cs.toList.length=1:=by
   have:=iC hl
   simpa [szL,hs] using this
  have hfit2:0+[v].length<=cs.size:=by rw[<-Array.length_toList,hlen];exact Nat.le_refl 1
  have hrun:=ii (P:=P) (T:=T) (v:=ac.eval y) hh (vs:=[v]) (by rw[e2];rfl) hi hfit2 (fun u hu=>by simp at hu;subst hu;exact h1)
  refine⟨(cs.toList.take 0++[v]++cs.toList.drop (0+[v].length)).toArray,?_,?_⟩
  ·simp only[execOp,e,Sem.run_bind,hrun,Result.andThen_ok,Sem.run_pure]
  ·have hd:cs.toList.drop (0+[v].length)=[]:=List.drop_of_length_le (by rw[hlen];exact Nat.le_refl 1)
   rw[hd]
   exact⟨[v],[],by simp,⟨v,hv,rfl,h1⟩,rfl⟩
end
end Go.Proofs.YtmjcpkmongafnaaGreatDoor.Ab
