import Derived.Test.YtmjcpkmongafnaaGreatDoorAb25
set_option linter.unusedVariables false
set_option linter.unusedSimpArgs false
namespace Go.Proofs.YtmjcpkmongafnaaGreatDoor.Ab
open Go Go.RowKit
theorem gJ:∀{a b:List Leaf} {g:G} {cs:List Value},leafs (a++b) g cs↔∃c1 c2,cs=c1++c2/\leafs a g c1/\leafs b g c2
 |[],b,g,cs=>⟨fun h=>⟨[],cs,rfl,rfl,h⟩,fun⟨c1,c2,e,h1,h2⟩=>by rw[show c1=[] from h1] at e;rw[e];exact h2⟩
 |l::a,b,g,cs=>by
  constructor
  ·rintro⟨c1,c2,e,h1,h2⟩
   obtain⟨d1,d2,e2,k1,k2⟩:=gJ.1 h2
   exact⟨c1++d1,d2,by rw[e,e2,List.append_assoc],⟨c1,d1,rfl,h1,k1⟩,k2⟩
  ·rintro⟨c1,c2,e,⟨d1,d2,e2,k1,k2⟩,h2⟩
   exact⟨d1,d2++c2,by rw[e,e2,List.append_assoc],k1,gJ.2 ⟨d2,c2,rfl,k2,h2⟩⟩
def Part{α:Type}(ls:List Leaf)(d:Kd α)(x:α):Prop:=∀g cs,leafs ls g cs↔d.reps g.H cs x
def PartF{S:Type}(fs:List (Fld S))(ls:List Leaf)(x:S):Prop:=∀g cs,leafs ls g cs↔repsF fs g.H cs x
theorem lf1{α:Type} {d:Kd α} {x:α}:Part [.d d x] d x:=fun g cs=>⟨fun⟨c1,c2,e,h1,h2⟩=>by rw[show c2=[] from h2,List.append_nil] at e;rw[e];exact h1,fun h=>⟨cs,[],by simp,h,rfl⟩⟩
theorem lfN{S:Type} {x:S}:PartF [] [] x:=fun g cs=>Iff.rfl
theorem lfC{S:Type} {f:Fld S} {fs:List (Fld S)} {l ls:List Leaf} {x:S}(h:Part l f.d (f.get x))(k:PartF fs ls x):PartF (f::fs) (l++ls) x:=fun g cs=>by
 rw[gJ]
 constructor
 ·rintro⟨c1,c2,e,h1,h2⟩;exact⟨c1,c2,e,(h g c1).1 h1,(k g c2).1 h2⟩
 ·rintro⟨c1,c2,e,h1,h2⟩;exact⟨c1,c2,e,(h g c1).2 h1,(k g c2).2 h2⟩
theorem lfS{S:Type} {fs:List (Fld S)} {ls:List Leaf} {x:S}(h:PartF fs ls x):Part ls (kR fs) x:=h
def szL(ls:List Leaf):Nat:=(ls.map Leaf.sz).sum
theorem iC:∀{ls:List Leaf} {g:G} {cs:List Value},leafs ls g cs->cs.length=szL ls
 |[],_,_,h=>by rw[show _=[] from h];rfl
 |l::ls,_,_,⟨c1,c2,e,h1,h2⟩=>by rw[e,List.length_append,iG h1,iC h2];simp[szL]
theorem offL_sz:∀{ls:List Leaf} {k:Nat},offL ls k=szL (ls.take k)
 |[],k=>by simp[offL,szL]
 |l::ls,0=>by simp[offL,szL]
 |l::ls,k+1=>by
  have:=offL_sz (ls:=ls) (k:=k)
  simp only[offL,List.take_succ_cons,szL,List.map_cons,List.sum_cons] at*
  rw[this]
theorem three{ls l2:List Leaf} {k m:Nat}(h:(ls.drop k).take m=l2):ls=ls.take k++l2++ls.drop (k+m):=by
 rw[<-h,List.append_assoc,<-List.drop_drop,List.take_append_drop,List.take_append_drop]
theorem mK{l1 l2 l3:List Leaf} {g:G} {cs:List Value}(h:leafs (l1++l2++l3) g cs):∃c1 c2 c3,cs=c1++c2++c3/\leafs l1 g c1/\leafs l2 g c2/\leafs l3 g c3:=by
 obtain⟨c,c3,e,h1,h3⟩:=gJ.1 h
 obtain⟨c1,c2,e2,h1,h2⟩:=gJ.1 h1
 exact⟨c1,c2,c3,by rw[e,e2],h1,h2,h3⟩
section
variable{P:Program} {x y z:Operand} {i j k3:Env} {dst:Option Nat} {T T' ty:TypeId} {pos:String} {af:Array Edge} {gd:Option (Nat×Bool)} {R:List Res}
theorem oBoxP{α:Type} {d:Kd α} {u:α} {id:Nat} {ls l2:List Leaf}(hF:Part l2 d u)(hl:ls=l2)(h:Opd x (.d (d.sig u)) i):Ok P ⟨dst,.box T x,ty,pos,af,gd⟩ i R (.p id 0) (some id) (.box id T ls::R):=
 hl▸ok_new fun g w ac hA hs=>by
  obtain⟨cs,hr,e⟩:=h g ac hs
  refine⟨cs.toArray,?_,(hF g cs).2 hr⟩
  simp only[execOp,e,Instr.box,newVar,newRow,newObj,Sem.run_bind,Sem.run,Sem.run_pure,Sem.run_pure',Result.andThen_ok,d.gD hr]
  rfl
theorem oLdP0{α:Type} {d:Kd α} {u:α} {n id off:Nat} {T0:TypeId} {l1 l2 l3 ls:List Leaf}(hF:Part l2 d u)(hr:R[n]?=some (.box id T0 ls))(hl:ls=l1++l2++l3)(ho:szL l1=off)(hi:tinf P T=some (d.agg,d.sz))(h:Opd x (.p id off) i):Ok P ⟨dst,.load T x,ty,pos,af,gd⟩ i R (.d (d.sig u)) none R:=okR fun X B g w ac hA hs hown=>by
 obtain⟨b,hb,e⟩:=h g ac hs
 obtain⟨b',cs,hb',hh,hlf⟩:=hown.get hr
 rw[hb] at hb';cases hb'
 subst hl
 obtain⟨c1,c2,c3,ec,h1,h2,h3⟩:=mK hlf
 have hrep:=(hF g c2).1 h2
 have hlen:=d.len hrep
 have ho1:c1.length=off:=by rw[iC h1,ho]
 refine⟨mkv d.agg c2,?_,⟨c2,hrep,rfl⟩⟩
 have hcs:(cs.toList.drop off).take d.sz=c2:=by
  rw[ec,List.append_assoc,<-ho1,List.drop_left,<-hlen,List.take_left]
 have:=ie (P:=P) (w:=w) (off:=off) hi (fun hd=>d.one hd) hh (ls:=c2) hcs hlen
 simp only[execOp,e,Sem.run_bind,this,Result.andThen_ok,Sem.run_pure]
theorem oStP0{α:Type} {d:Kd α} {u:α} {n id off:Nat} {T0:TypeId} {l1 l2 l3 ls l2':List Leaf}(hF:Part l2' d u)(hr:R[n]?=some (.box id T0 ls))(hl:ls=l1++l2++l3)(hz:szL l2=d.sz)(ho:szL l1=off)(hi:sizeIs P T d.sz)(h:Opd x (.p id off) i)(h':Opd y (.d (d.sig u)) j):Ok P ⟨dst,.store T x y,ty,pos,af,gd⟩ (i++j) R (.d sAny) none (R.set n (.box id T0 (l1++l2'++l3))):=
 ju hr fun X B g w ac b cs hown hA hi' hb hh hlf=>by
  obtain⟨b',hb',e⟩:=h g ac (satI_l hi')
  rw[hb] at hb';cases hb'
  obtain⟨vs,hv,e'⟩:=h' g ac (satI_r hi')
  subst hl
  obtain⟨c1,c2,c3,ec,h1,h2,h3⟩:=mK hlf
  have hlen:vs.length=d.sz:=d.len hv
  have ho1:c1.length=off:=by rw[iC h1,ho]
  have hl2:c2.length=d.sz:=by rw[iC h2,hz]
  have hfit:off+vs.length<=cs.size:=by rw[<-Array.length_toList,ec];simp;omega
  have hrun:=ii (P:=P) (T:=T) hh (d.gD hv) (hlen▸hi) hfit (d.ok hv)
  refine⟨(cs.toList.take off++vs++cs.toList.drop (off+vs.length)).toArray,?_,?_⟩
  ·simp only[execOp,e,e',Sem.run_bind,hrun,Result.andThen_ok,Sem.run_pure]
  ·have t1:cs.toList.take off=c1:=by rw[ec,List.append_assoc,<-ho1,List.take_left]
   have t2:cs.toList.drop (off+vs.length)=c3:=by
    rw[ec,<-ho1,hlen,<-hl2,<-List.length_append,List.drop_left]
   rw[t1,t2]
   exact gJ.2 ⟨c1++vs,c3,rfl,gJ.2 ⟨c1,vs,rfl,h1,(hF g vs).2 hv⟩,h3⟩
theorem oLdP{α:Type} {d:Kd α} {u:α} {n k m id off:Nat} {T0:TypeId} {l2 ls:List Leaf}(hF:Part l2 d u)(hr:R[n]?=some (.box id T0 ls))(hl:(ls.drop k).take m=l2)(ho:offL ls k=off)(hi:tinf P T=some (d.agg,d.sz))(h:Opd x (.p id off) i):Ok P ⟨dst,.load T x,ty,pos,af,gd⟩ i R (.d (d.sig u)) none R:=
 oLdP0 hF hr (three hl) (offL_sz▸ho) hi h
theorem oStP{α:Type} {d:Kd α} {u:α} {n k m id off:Nat} {T0:TypeId} {ls l2':List Leaf}(hF:Part l2' d u)(hr:R[n]?=some (.box id T0 ls))(hz:szL ((ls.drop k).take m)=d.sz)(ho:offL ls k=off)(hi:sizeIs P T d.sz)(h:Opd x (.p id off) i)(h':Opd y (.d (d.sig u)) j):Ok P ⟨dst,.store T x y,ty,pos,af,gd⟩ (i++j) R (.d sAny) none (R.set n (.box id T0 (ls.take k++l2'++ls.drop (k+m)))):=
 oStP0 hF hr (three rfl) hz (offL_sz▸ho) hi h h'
end
end Go.Proofs.YtmjcpkmongafnaaGreatDoor.Ab
