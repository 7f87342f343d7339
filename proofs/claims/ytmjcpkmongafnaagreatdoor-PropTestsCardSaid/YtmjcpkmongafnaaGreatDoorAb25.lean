import Derived.Test.YtmjcpkmongafnaaGreatDoorAb24
import Derived.LaidLaws
import Derived.ChangeArms
import Derived.Lib.LaidTab
set_option linter.unusedVariables false
set_option linter.unusedSimpArgs false
namespace Go.Proofs.YtmjcpkmongafnaaGreatDoor.Ab
open Go Go.RowKit
def GlobIs{α:Type}(d:Kd α)(k:Nat)(xs:List α):Prop:=∃cs,(k,cs)∈globs/\∀H,RowOf d H cs xs
theorem rowI{k:IntKind} {xs:List Int}(h:∀x∈xs,InR k x)(H:FH):RowOf (kI k) H (xs.map (Value.int k)) xs:=by
 refine⟨by simp[kI],fun j x e=>?_⟩
 have hx:=List.mem_of_getElem? e
 refine⟨?_,h x hx⟩
 have hj:=(List.getElem?_eq_some_iff.1 e).1
 apply List.ext_getElem?
 intro q
 show (List.take 1 (List.drop (j*1) _))[q]?=_
 rw[List.getElem?_take]
 split
 ·rename_i hq
  obtain rfl:q=0:=by omega
  simp[e]
 ·rw[List.getElem?_eq_none];simp;omega
def inRs(k:IntKind)(xs:List Int):Bool:=xs.all fun x=>decide (InR k x)
theorem globI{k:IntKind} {b:Nat} {xs:List Int}(hm:(b,xs.map (Value.int k))∈globs)(h:inRs k xs=true):GlobIs (kI k) b xs:=
 ⟨_,hm,rowI fun x hx=>of_decide_eq_true (List.all_eq_true.1 h x hx)⟩
section
variable{P:Program} {x y z:Operand} {i j k3:Env} {dst:Option Nat} {T T' ty:TypeId} {pos:String} {af:Array Edge} {gd:Option (Nat×Bool)} {R:List Res}
theorem oIdxG{kk:IntKind} {b:Nat} {α:Type} {d:Kd α} {xs:List α} {u:α} {n:Int} {m:Nat} {E:TypeId}(hG:GlobIs d b xs)(hT:P.underlying T=some (.array m E))(hm:xs.length=m)(hE:sizeIs P E d.sz)(hu:lAt xs n=some u)(h':Opd y (.d ((kI kk).sig n)) j):OkP P ⟨dst,.indexAddr T (.global b) y,ty,pos,af,gd⟩ j (.d (sP d u)):=okV fun g w ac hA hi=>by
 have e2:=(kI_sig.1 (h' g ac hi)).1
 obtain⟨h0,hlt,hget⟩:=kt hu
 obtain⟨cs,hq,hr⟩:=hG
 obtain⟨t,fr,hb⟩:=hA.base.tab _ hq
 refine⟨.pointer (some ((⟨b,0,none⟩:Addr).add (n.toNat*d.sz))),?_,?_⟩
 ·have hn:0<=n/\n<(m:Int):=⟨h0,by omega⟩
  simp only[execOp,show ac.eval (.global b)=.pointer (some ⟨b,0,none⟩) from rfl,e2,Instr.indexAt,asIntOf,Instr.sureAddr,Sem.run_bind,Sem.run_pure,Result.andThen_ok,run_underlying hT,if_pos hn,fU hE]
 ·rw[gR]
  refine⟨b,0+n.toNat*d.sz,cs.toArray,t,fr,rfl,hb,?_⟩
  rw[Nat.zero_add]
  exact(hr _).2 n.toNat u hget
end
theorem nj{H:Type} {enc:TypeId×Value->H} {P:Program} {w:World} {base:Nat} {sp:Nat->Bool} {held:Bool} {fuel:Nat} {t e:TypeId} {n:Nat} {α:Type} {mk:α->Value} {lit:α->DataW H} {cs:List Value} {zs:List α} {p:List MemPlace}
  (ht:P.underlying t=some (.array n e)) (hce:P.cellsOf e=1) (hct:P.cellsOf t=n)
  (hone:∀(fuel:Nat) (l:List Value) (x:DataW H×List MemPlace),DataW.trod enc P w base sp held fuel e l=some x->∃z,l=[mk z]/\x.1=lit z) (hinj:∀a b,lit a=lit b->mk a=mk b)
  (h:DataW.trod enc P w base sp held fuel t cs=some (.agg (zs.map lit),p)):cs=zs.map mk:=by
 cases fuel with
 |zero=>simp[DataW.trod] at h
 |succ fuel=>
  simp only[DataW.trod,ht,hce,hct,Nat.mul_one] at h
  split at h
  ·rename_i hl
   obtain⟨xs,hm,hx⟩:=Option.map_eq_some_iff.1 h
   have hxs:xs.map (·.1)=zs.map lit:=by
    have:=congrArg Prod.fst hx
    simpa using this
   have hxl:xs.length=n:=by simpa using Lib.mapM_length hm
   have hzl:zs.length=n:=by
    have:=congrArg List.length hxs
    simp at this
    omega
   apply List.ext_getElem?
   intro i
   by_cases hi:i<n
   ·obtain⟨b,hb,hf⟩:=Lib.mapM_at hm i i (by simp[hi])
    obtain⟨z,hc,hz⟩:=hone _ _ _ hf
    have h1:cs[i]?=some (mk z):=by
     have:=congrArg (·[0]?) hc
     simpa [List.getElem?_take,List.getElem?_drop] using this
    have h2:(xs.map (·.1))[i]?=some (lit z):=by simp[hb,hz]
    rw[hxs] at h2
    simp only[List.getElem?_map,Option.map_eq_some_iff] at h2
    obtain⟨z',hz',e⟩:=h2
    rw[h1,List.getElem?_map,hz']
    exact congrArg some (hinj _ _ e).symm
   ·rw[List.getElem?_eq_none (by omega),List.getElem?_eq_none (by simp;omega)]
  ·cases h
theorem one_int{H:Type} {enc:TypeId×Value->H} {P:Program} {w:World} {base:Nat} {sp:Nat->Bool} {held:Bool} {e:TypeId} {k:IntKind}(he:P.underlying e=some (.int k))(fuel:Nat)(l:List Value)(x:DataW H×List MemPlace)(h:DataW.trod enc P w base sp held fuel e l=some x):∃z:Int,l=[Value.int k z]/\x.1=.lit (.int k z):=by
 obtain⟨z,rfl,rfl,_⟩:=DataW.trod_int he h
 exact⟨z,rfl,rfl⟩
theorem laidI{P:Program} {W:World} {name:String} {k:IntKind} {zs:List Int} {rest:List (String×DataW Unit)} {ps:List MemPlace} {g:Nat} {t e:TypeId} {n:Nat}
  (hg:P.globalNamed name=some g) (hty:(P.globals[g]?).map (·.type)=some t) (ht:P.underlying t=some (.array n e)) (he:P.underlying e=some (.int k)) (hce:P.cellsOf e=1) (hct:P.cellsOf t=n)
  {d:DataW Unit} (hd:d=.agg (zs.map fun z=>.lit (.int k z))) (h:DataW.LaidVars P W ((name,d)::rest) ps):(∃t fr,W.heap[g]?=some (.cells (zs.map (Value.int k)).toArray t fr))/\∃q,DataW.LaidVars P W rest q:=by
 subst hd
 obtain⟨g',t',cs,fuel,p,q,hg',ht',hvar,hd,hr,_⟩:=h
 obtain rfl:=Option.some.inj (hg.symm.trans hg')
 obtain rfl:=Option.some.inj (hty.symm.trans ht')
 have e1:=nj ht hce hct (one_int he) (fun a b h=>by cases h;rfl) hd
 refine⟨?_,q,hr⟩
 unfold World.var? at hvar
 rw[hg] at hvar
 simp only[Option.bind_some] at hvar
 split at hvar
 ·rename_i c t fr hb
  cases hvar
  exact⟨t,fr,by rw[hb,<-e1]⟩
 ·cases hvar
end Go.Proofs.YtmjcpkmongafnaaGreatDoor.Ab
