import Derived.Test.YtmjcpkmongafnaaGreatDoorAb22
set_option linter.unusedVariables false
set_option linter.unusedSimpArgs false
namespace Go.Proofs.YtmjcpkmongafnaaGreatDoor.Ab
open Go Go.RowKit
def ffld(P:Program)(S j:Nat):Option (Nat×TypeId):=
 match P.underlying S with
 |some (.struct fs)=>(fs[j]?).map fun f=>(f.offset,f.type)
 |_=>none
theorem lq{P:Program} {w:World} {T:TypeId} {ag:Bool} {n off:Nat} {cs:List Value} {ls:List Value}(hi:tinf P T=some (ag,n))(h1:ag=false->n=1)(hl:(cs.drop off).take n=ls)(hn:ls.length=n):
  (part T cs.toArray off).run P w=.ok (mkv ag ls) w:=by
 obtain⟨ha,hs⟩:=nz (w:=w) hi
 simp only[part,Sem.run_bind,ha,Result.andThen_ok]
 cases ag with
 |true=>
  simp only[if_true,Sem.run_bind,fU hs,Result.andThen_ok,Sem.run_pure]
  congr 2
  apply Array.ext'
  rw[Array.toList_extract]
  simp only[mkv,List.extract_eq_take_drop]
  rw[<-hl];congr 1;omega
 |false=>
  rw[h1 rfl] at hn hl
  match ls,hn with
  |[v],_=>
   have:cs[off]?=some v:=by
    have:=congrArg (fun l=>l[0]?) hl
    simpa using this
   simp only[Bool.false_eq_true,if_false,List.getElem?_toArray,this,Sem.run_pure]
   rfl
section
variable{P:Program} {x y:Operand} {i j:Env} {dst:Option Nat} {T T' ty:TypeId} {pos:String} {af:Array Edge} {gd:Option (Nat×Bool)} {R:List Res}
theorem oField{S:Type} {fs:List (Fld S)} {f:Fld S} {u:S} {k:Nat} {t:TypeId}(hf:fs[k]?=some f)(hp:ffld P T k=some (offF fs k,t))(hi:tinf P t=some (f.d.agg,f.d.sz))(h:Opd x (.d ((kR fs).sig u)) i):OkP P ⟨dst,.field T x k,ty,pos,af,gd⟩ i (.d (f.d.sig (f.get u))):=okV fun g w ac hA hs=>by
 obtain⟨cs,hr,e⟩:=h g ac hs
 have e':ac.eval x=.agg cs.toArray:=e
 have hat:=repsF_at fs k f hf hr
 refine⟨mkv f.d.agg _,?_,_,hat,rfl⟩
 unfold ffld at hp
 split at hp
 ·rename_i fs' hu
  obtain⟨f',hf',he⟩:=Option.map_eq_some_iff.1 hp
  simp only[Prod.mk.injEq] at he
  simp only[execOp,e',Instr.field,Sem.run_bind,run_underlying hu,Result.andThen_ok,hf',asAgg,Sem.run_pure]
  rw[he.1,he.2,lq hi f.d.one rfl (f.d.len hat)]
  rfl
 ·cases hp
end
end Go.Proofs.YtmjcpkmongafnaaGreatDoor.Ab
