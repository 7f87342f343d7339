import Derived.Test.YtmjcpkmongafnaaGreatDoorAb35
set_option linter.unusedVariables false
set_option linter.unusedSimpArgs false
namespace Go.Proofs.YtmjcpkmongafnaaGreatDoor.Ab
open Go Go.RowKit
@[reducible] def lkE:Env->Nat->Option Ent
 |[],_=>none
 |(k,e)::r,u=>match Nat.beq k u with|true=>some e|false=>lkE r u
theorem lkE_eq:∀(Γ:Env) (t:Nat),lkE Γ t=look Γ t
 |[],_=>rfl
 |(k,e)::r,u=>by
  simp only[lkE,look]
  cases Nat.beq k u with
  |true=>rfl
  |false=>exact lkE_eq r u
class EqI(a:Option Ent)(b:outParam (Option Ent)):Prop where h:a=b
class LookI(Γ:Env)(t:Nat)(e:outParam Ent):Prop where h:look Γ t=some e
instance eqI0{a:Option Ent}:EqI a a:=⟨rfl⟩
instance lookI0{t:Nat} {e:Ent} {Γ:Env}[k:EqI (lkE Γ t) (some e)]:LookI Γ t e:=⟨by rw[<-lkE_eq];exact k.h⟩
class OpdI(x:Operand)(Γ:Env)(e:outParam Ent)(i:outParam Env):Prop where
 h:Opd x e i
 s:Sub i Γ
class IntI(k:IntKind)(n:Int):Prop where h:InR k n
instance opdIT{t:Nat} {Γ:Env} {e:Ent}[k:LookI Γ t e]:OpdI (.tmp t) Γ e [(t,e)]:=⟨tm,k.h,trivial⟩
instance opdIB{b:Bool} {Γ:Env}:OpdI (.const (.bool b)) Γ (.d (kB.sig b)) []:=⟨cB,trivial⟩
instance opdII{k:IntKind} {n:Int} {Γ:Env}[h:IntI k n]:OpdI (.const (.int k n)) Γ (.d ((kI k).sig n)) []:=⟨cI h.h,trivial⟩
class OpI(P:Program)(o:Oper)(Γ:Env)(i:outParam Env)(out:outParam Ent):Prop where
 h:OkP P o i out
 s:Sub i Γ
class TinI(P:Program)(T:TypeId){α:Type}(d:Kd α):Prop where h:tinf P T=some (d.agg,d.sz)
class UndI(P:Program)(T:TypeId)(E:outParam TypeId):Prop where h:P.underlying T=some (.slice E)
class FofI(P:Program)(T:TypeId)(k:Nat)(off:outParam Nat):Prop where h:fofs P T k=some off
class FlI(P:Program)(T:TypeId)(k:Nat){S:Type}(fs:List (Fld S)){β:outParam Type}(d:outParam (Kd β))(g:outParam (S->β)):Prop where
 h:fofs P T k=some (offF fs k)
 f:fs[k]?=some ⟨d,g⟩
class GetI(ss:List Sig)(k:Nat)(s:outParam Sig):Prop where h:ss[k]?=some s
instance getI0{s:Sig} {ss:List Sig}:GetI (s::ss) 0 s:=⟨rfl⟩
instance getI1{s a:Sig} {ss:List Sig} {k:Nat}[h:GetI ss k s]:GetI (a::ss) (k+1) s:=⟨h.h⟩
class Hd(p:Prop):Prop where out:p
class BoI(y b:Bool):Prop where h:y=b
instance boTT:BoI true true:=⟨rfl⟩
instance boFF:BoI false false:=⟨rfl⟩
instance boD1{p:Prop}[Decidable p][h:Hd p]:BoI (decide p) true:=⟨decide_eq_true h.1⟩
instance boD0{p:Prop}[Decidable p][h:Hd (¬p)]:BoI (decide p) false:=⟨decide_eq_false h.1⟩
instance boN1{p:Prop}[Decidable p][h:Hd (¬p)]:BoI (!decide p) true:=⟨by rw[decide_eq_false h.1];rfl⟩
instance boN0{p:Prop}[Decidable p][h:Hd p]:BoI (!decide p) false:=⟨by rw[decide_eq_true h.1];rfl⟩
instance(priority:=50) boB1{y:Bool}[h:Hd (y=true)]:BoI y true:=⟨h.1⟩
instance(priority:=50) boB0{y:Bool}[h:Hd (¬(y=true))]:BoI y false:=⟨by have:=h.1;cases y with|false=>rfl|true=>exact absurd rfl this⟩
theorem ik{α:Type} {p:Prop}[Decidable p]{x y:Option α} {r:α}(h:(if p then x else y)=some r):(Hd p/\x=some r)\/(Hd (¬p)/\y=some r):=by
 rcases ic h with ⟨a,b⟩|⟨a,b⟩
 ·exact .inl ⟨⟨a⟩,b⟩
 ·exact .inr ⟨⟨a⟩,b⟩
@[reducible] def dstL:List Oper->Nat->Option Nat
 |[],_=>none
 |o::_,0=>o.dst
 |_::r,n+1=>dstL r n
theorem dstL_eq:∀(l:List Oper) (j:Nat),dstL l j=((⟨l⟩:Array Oper)[j]?).bind (·.dst)
 |[],j=>by simp[dstL]
 |o::r,0=>by simp[dstL]
 |o::r,n+1=>by
  show dstL r n=_
  rw[dstL_eq r n]
  simp
class EqN(a:Option Nat)(b:outParam (Option Nat)):Prop where h:a=b
instance eqN0{a:Option Nat}:EqN a a:=⟨rfl⟩
class DstI(ops:Array Oper)(j:Nat)(t:outParam Nat):Prop where h:(ops[j]?).bind (·.dst)=some t
instance dstI0{l:List Oper} {j t:Nat}[h:EqN (dstL l j) (some t)]:DstI ⟨l⟩ j t:=⟨by rw[<-dstL_eq];exact h.h⟩
theorem gP{Γ a b:Env}(h:Sub a Γ)(k:Sub b Γ):Sub (a++b) Γ:=by
 induction a with
 |nil=>exact k
 |cons p r ih=>exact⟨h.1,ih h.2⟩
section
variable{P:Program} {x y:Operand} {i j:Env} {dst:Option Nat} {T T' ty:TypeId} {pos:String} {af:Array Edge} {gd:Option (Nat×Bool)} {Γ:Env} {k:IntKind} {a b:Int}
instance iMv{e:Ent}[h:OpdI x Γ e i]:OpI P ⟨dst,.move x,ty,pos,af,gd⟩ Γ i e:=⟨oMv h.h,h.s⟩
instance iAs{e:Ent}[h:OpdI x Γ e i]:OpI P ⟨dst,.assign x,ty,pos,af,gd⟩ Γ i e:=⟨oAs h.h,h.s⟩
instance iEq [h:OpdI x Γ (.d ((kI k).sig a)) i][h':OpdI y Γ (.d ((kI k).sig b)) j]:OpI P ⟨dst,.binOp .eql T x y T',ty,pos,af,gd⟩ Γ (i++j) (.d (kB.sig (decide (a=b)))):=⟨oEq rfl h.h h'.h,gP h.s h'.s⟩
instance iNe [h:OpdI x Γ (.d ((kI k).sig a)) i][h':OpdI y Γ (.d ((kI k).sig b)) j]:OpI P ⟨dst,.binOp .neq T x y T',ty,pos,af,gd⟩ Γ (i++j) (.d (kB.sig (!decide (a=b)))):=⟨oNe rfl h.h h'.h,gP h.s h'.s⟩
instance iLt [h:OpdI x Γ (.d ((kI k).sig a)) i][h':OpdI y Γ (.d ((kI k).sig b)) j]:OpI P ⟨dst,.binOp .lss T x y T',ty,pos,af,gd⟩ Γ (i++j) (.d (kB.sig (decide (a<b)))):=⟨oLt rfl h.h h'.h,gP h.s h'.s⟩
instance iLe [h:OpdI x Γ (.d ((kI k).sig a)) i][h':OpdI y Γ (.d ((kI k).sig b)) j]:OpI P ⟨dst,.binOp .leq T x y T',ty,pos,af,gd⟩ Γ (i++j) (.d (kB.sig (decide (a<=b)))):=⟨oLe rfl h.h h'.h,gP h.s h'.s⟩
instance iGt [h:OpdI x Γ (.d ((kI k).sig a)) i][h':OpdI y Γ (.d ((kI k).sig b)) j]:OpI P ⟨dst,.binOp .gtr T x y T',ty,pos,af,gd⟩ Γ (i++j) (.d (kB.sig (decide (a>b)))):=⟨oGt rfl h.h h'.h,gP h.s h'.s⟩
instance iGe [h:OpdI x Γ (.d ((kI k).sig a)) i][h':OpdI y Γ (.d ((kI k).sig b)) j]:OpI P ⟨dst,.binOp .geq T x y T',ty,pos,af,gd⟩ Γ (i++j) (.d (kB.sig (decide (a>=b)))):=⟨oGe rfl h.h h'.h,gP h.s h'.s⟩
instance iAd [h:OpdI x Γ (.d ((kI k).sig a)) i][h':OpdI y Γ (.d ((kI k).sig b)) j]:OpI P ⟨dst,.binOp .add T x y T',ty,pos,af,gd⟩ Γ (i++j) (.d ((kI k).sig (k.wrap (a+b)))):=⟨oAdd h.h h'.h,gP h.s h'.s⟩
instance iSu [h:OpdI x Γ (.d ((kI k).sig a)) i][h':OpdI y Γ (.d ((kI k).sig b)) j]:OpI P ⟨dst,.binOp .sub T x y T',ty,pos,af,gd⟩ Γ (i++j) (.d ((kI k).sig (k.wrap (a-b)))):=⟨oSub h.h h'.h,gP h.s h'.s⟩
instance iPkT{c:Operand} {e:Ent} {q:Bool} {ic:Env}[h:OpdI c Γ (.d (kB.sig q)) ic][hq:BoI q true][h':OpdI x Γ e i]:OpI P ⟨dst,.pick c x y,ty,pos,af,gd⟩ Γ (ic++i) e:=⟨oPkT hq.h h.h h'.h,gP h.s h'.s⟩
instance iPkF{c:Operand} {e:Ent} {q:Bool} {ic:Env}[h:OpdI c Γ (.d (kB.sig q)) ic][hq:BoI q false][h':OpdI y Γ e i]:OpI P ⟨dst,.pick c x y,ty,pos,af,gd⟩ Γ (ic++i) e:=⟨oPkF hq.h h.h h'.h,gP h.s h'.s⟩
instance iNot{b:Bool}[h:OpdI x Γ (.d (kB.sig b)) i]:OpI P ⟨dst,.unOp .not T x,ty,pos,af,gd⟩ Γ i (.d (kB.sig (!b))):=⟨oNot h.h,h.s⟩
instance iLd{α:Type} {d:Kd α} {u:α}[h:OpdI x Γ (.d (sP d u)) i][t:TinI P T d]:OpI P ⟨dst,.load T x,ty,pos,af,gd⟩ Γ i (.d (d.sig u)):=⟨oLd t.h h.h,h.s⟩
instance iLen{α:Type} {d:Kd α} {xs:List α} {E:TypeId}[h:OpdI x Γ (.d ((kL d).sig xs)) i][t:UndI P T E]:OpI P ⟨dst,.call ⟨.builtin .len,#[x],#[T]⟩,ty,pos,af,gd⟩ Γ i (.d ((kI .i64).sig (xs.length:Int))):=⟨oLenL t.h h.h,h.s⟩
instance iFld{S β:Type} {fs:List (Fld S)} {u:S} {n:Nat} {d:Kd β} {g:S->β}[h:OpdI x Γ (.d (sP (kR fs) u)) i][t:FlI P T n fs d g]:OpI P ⟨dst,.fieldAddr T x n,ty,pos,af,gd⟩ Γ i (.d (sP d (g u))):=⟨oFld t.f t.h h.h,h.s⟩
instance iFlP{id o n off:Nat}[h:OpdI x Γ (.p id o) i][t:FofI P T n off]:OpI P ⟨dst,.fieldAddr T x n,ty,pos,af,gd⟩ Γ i (.p id (o+off)):=⟨oFldP t.h h.h,h.s⟩
instance iNlP{id o:Nat}[h:OpdI x Γ (.p id o) i]:OpI P ⟨dst,.nilCheck x,ty,pos,af,gd⟩ Γ i (.p id o):=⟨oNilP h.h,h.s⟩
instance iExt{ss:List Sig} {n:Nat} {s:Sig}[h:OpdI x Γ (.d (tup ss)) i][t:GetI ss n s]:OpI P ⟨dst,.extract x n,ty,pos,af,gd⟩ Γ i (.d s):=⟨oExt t.h h.h,h.s⟩
instance iBox{α:Type} {d:Kd α} {u:α}[h:OpdI x Γ (.d (d.sig u)) i]:OpI P ⟨dst,.box T x,ty,pos,af,gd⟩ Γ i (.d (sP d u)):=⟨oBox h.h,h.s⟩
end
section
variable{rd:Option Nat} {P:Program} {ops:Array Oper} {rest:List Oper} {Γ Γ':Env} {R R':List Res} {es:List En}
class StI(ops:Array Oper)(P:Program)(o:Oper)(Γ:Env)(k:outParam Kind)(i:outParam Env)(out:outParam Ent):Prop where
 h:∀(rd:Option Nat) (R:List Res),EnOk rd P ops o ⟨k,i,out,[],o.dst,R,R⟩
 s:Sub i Γ
section
variable{d:Nat} {op:Op} {ty:TypeId} {pos:String} {af:Array Edge} {i:Env} {out:Ent} {j t:Nat} {b y:Bool}
instance stI0 [h:OpI P ⟨some d,op,ty,pos,af,none⟩ Γ i out]:StI ops P ⟨some d,op,ty,pos,af,none⟩ Γ .pure i out:=⟨fun rd R=>.pure rfl rfl h.h,h.s⟩
instance stI1 [hj:DstI ops j t][hl:LookI Γ t (.d (kB.sig y))][hb:BoI y b][h:OpI P ⟨some d,op,ty,pos,af,some (j,b)⟩ Γ i out]:StI ops P ⟨some d,op,ty,pos,af,some (j,b)⟩ Γ .pure ((t,.d (kB.sig b))::i) out:=⟨fun rd R=>.pureG rfl rfl hj.h h.h,by rw[hl.h,hb.h],h.s⟩
instance stI2 [hj:DstI ops j t][hl:LookI Γ t (.d (kB.sig y))][hb:BoI y false]:StI ops P ⟨some d,op,ty,pos,af,some (j,true)⟩ Γ .skip [(t,.d (kB.sig false))] (.d sU):=⟨fun rd R=>.skip rfl rfl hj.h rfl,by rw[hl.h,hb.h],trivial⟩
instance stI3 [hj:DstI ops j t][hl:LookI Γ t (.d (kB.sig y))][hb:BoI y true]:StI ops P ⟨some d,op,ty,pos,af,some (j,false)⟩ Γ .skip [(t,.d (kB.sig true))] (.d sU):=⟨fun rd R=>.skip rfl rfl hj.h rfl,by rw[hl.h,hb.h],trivial⟩
end
class EqR(a:Option Res)(b:outParam (Option Res)):Prop where h:a=b
class RsI(R:List Res)(n:Nat)(r:outParam Res):Prop where h:∃k:Nat,R[k]?=some r
class A1{α:Type}(d:Kd α):Prop where
 a:d.agg=false
 s:d.sz=1
class S1I(l:Leaf):Prop where h:l.sz=1
class LfI(ls:List Leaf)(off:Nat)(l:outParam Leaf):Prop where h:∃k:Nat,ls[k]?=some l/\offL ls k=off
class DpI(ls:List Leaf)(off:Nat)(l1:outParam (List Leaf)):Prop where h:∃k:Nat,ls.drop k=l1/\offL ls k=off
class TkI(ls:List Leaf)(n:Nat)(l2:outParam (List Leaf)):Prop where h:ls.take n=l2
class PaI{α:Type}(ls:List Leaf)(d:Kd α)(u:outParam α):Prop where h:Part ls d u
class TnI(P:Program)(T:TypeId)(n:outParam Nat):Prop where h:tinf P T=some (false,n)
class TdI(P:Program)(T:TypeId){α:outParam Type}(d:outParam (Kd α))(n:outParam Nat):Prop where
 h:tinf P T=some (d.agg,d.sz)
class OkR(P:Program)(o:Oper)(Γ:Env)(R:List Res)(i:outParam Env)(out:outParam Ent):Prop where
 h:Ok P o i R out none R
 s:Sub i Γ
section
variable{x:Operand} {i:Env} {dst:Option Nat} {T ty:TypeId} {pos:String} {af:Array Edge} {gd:Option (Nat×Bool)} {R:List Res} {id off:Nat} {T0:TypeId} {ls l1 l2:List Leaf}
end
class StR(ops:Array Oper)(P:Program)(o:Oper)(Γ:Env)(R:List Res)(k:outParam Kind)(i:outParam Env)(out:outParam Ent):Prop where
 h:∀rd:Option Nat,EnOk rd P ops o ⟨k,i,out,[],o.dst,R,R⟩
 s:Sub i Γ
section
variable{d:Nat} {op:Op} {ty:TypeId} {pos:String} {af:Array Edge} {i:Env} {out:Ent} {j t:Nat} {b y:Bool} {R:List Res}
instance(priority:=2000) stRI{o:Oper} {k:Kind}[h:StI ops P o Γ k i out]:StR ops P o Γ R k i out:=⟨fun rd=>h.h rd R,h.s⟩
end
theorem cQ{d:Nat} {o:Op} {t:TypeId} {p:String} {a:Array Edge} {g:Option (Nat×Bool)} {k:Kind} {i:Env} {e:Ent}(h:StR ops P ⟨some d,o,t,p,a,g⟩ Γ R k i e)(c:Chain rd P ops rest ((d,e)::Γ) R es Γ' R'):Chain rd P ops (⟨some d,o,t,p,a,g⟩::rest) Γ R (⟨k,i,e,[],some d,R,R⟩::es) Γ' R':=
 .cons (e:=⟨k,i,e,[],some d,R,R⟩) (h.h rd) h.s c
theorem c1{d1:Nat} {o1:Op} {t1:TypeId} {p1:String} {a1:Array Edge} {g1:Option (Nat×Bool)} {k1:Kind} {i1:Env} {e1:Ent}[h1:StR ops P ⟨some d1,o1,t1,p1,a1,g1⟩ Γ R k1 i1 e1](k:Chain rd P ops rest ((d1,e1)::Γ) R es Γ' R'):Chain rd P ops (⟨some d1,o1,t1,p1,a1,g1⟩::rest) Γ R (⟨k1,i1,e1,[],some d1,R,R⟩::es) Γ' R':=(cQ h1 k)
theorem c2{d1 d2:Nat} {o1 o2:Op} {t1 t2:TypeId} {p1 p2:String} {a1 a2:Array Edge} {g1 g2:Option (Nat×Bool)} {k1 k2:Kind} {i1 i2:Env} {e1 e2:Ent}[h1:StR ops P ⟨some d1,o1,t1,p1,a1,g1⟩ Γ R k1 i1 e1][h2:StR ops P ⟨some d2,o2,t2,p2,a2,g2⟩ ((d1,e1)::Γ) R k2 i2 e2](k:Chain rd P ops rest ((d2,e2)::((d1,e1)::Γ)) R es Γ' R'):Chain rd P ops (⟨some d1,o1,t1,p1,a1,g1⟩::(⟨some d2,o2,t2,p2,a2,g2⟩::rest)) Γ R (⟨k1,i1,e1,[],some d1,R,R⟩::(⟨k2,i2,e2,[],some d2,R,R⟩::es)) Γ' R':=(cQ h1 (cQ h2 k))
theorem c3{d1 d2 d3:Nat} {o1 o2 o3:Op} {t1 t2 t3:TypeId} {p1 p2 p3:String} {a1 a2 a3:Array Edge} {g1 g2 g3:Option (Nat×Bool)} {k1 k2 k3:Kind} {i1 i2 i3:Env} {e1 e2 e3:Ent}[h1:StR ops P ⟨some d1,o1,t1,p1,a1,g1⟩ Γ R k1 i1 e1][h2:StR ops P ⟨some d2,o2,t2,p2,a2,g2⟩ ((d1,e1)::Γ) R k2 i2 e2][h3:StR ops P ⟨some d3,o3,t3,p3,a3,g3⟩ ((d2,e2)::((d1,e1)::Γ)) R k3 i3 e3](k:Chain rd P ops rest ((d3,e3)::((d2,e2)::((d1,e1)::Γ))) R es Γ' R'):Chain rd P ops (⟨some d1,o1,t1,p1,a1,g1⟩::(⟨some d2,o2,t2,p2,a2,g2⟩::(⟨some d3,o3,t3,p3,a3,g3⟩::rest))) Γ R (⟨k1,i1,e1,[],some d1,R,R⟩::(⟨k2,i2,e2,[],some d2,R,R⟩::(⟨k3,i3,e3,[],some d3,R,R⟩::es))) Γ' R':=(cQ h1 (cQ h2 (cQ h3 k)))
theorem c4{d1 d2 d3 d4:Nat} {o1 o2 o3 o4:Op} {t1 t2 t3 t4:TypeId} {p1 p2 p3 p4:String} {a1 a2 a3 a4:Array Edge} {g1 g2 g3 g4:Option (Nat×Bool)} {k1 k2 k3 k4:Kind} {i1 i2 i3 i4:Env} {e1 e2 e3 e4:Ent}[h1:StR ops P ⟨some d1,o1,t1,p1,a1,g1⟩ Γ R k1 i1 e1][h2:StR ops P ⟨some d2,o2,t2,p2,a2,g2⟩ ((d1,e1)::Γ) R k2 i2 e2][h3:StR ops P ⟨some d3,o3,t3,p3,a3,g3⟩ ((d2,e2)::((d1,e1)::Γ)) R k3 i3 e3][h4:StR ops P ⟨some d4,o4,t4,p4,a4,g4⟩ ((d3,e3)::((d2,e2)::((d1,e1)::Γ))) R k4 i4 e4](k:Chain rd P ops rest ((d4,e4)::((d3,e3)::((d2,e2)::((d1,e1)::Γ)))) R es Γ' R'):Chain rd P ops (⟨some d1,o1,t1,p1,a1,g1⟩::(⟨some d2,o2,t2,p2,a2,g2⟩::(⟨some d3,o3,t3,p3,a3,g3⟩::(⟨some d4,o4,t4,p4,a4,g4⟩::rest)))) Γ R (⟨k1,i1,e1,[],some d1,R,R⟩::(⟨k2,i2,e2,[],some d2,R,R⟩::(⟨k3,i3,e3,[],some d3,R,R⟩::(⟨k4,i4,e4,[],some d4,R,R⟩::es)))) Γ' R':=(cQ h1 (cQ h2 (cQ h3 (cQ h4 k))))
theorem c6{d1 d2 d3 d4 d5 d6:Nat} {o1 o2 o3 o4 o5 o6:Op} {t1 t2 t3 t4 t5 t6:TypeId} {p1 p2 p3 p4 p5 p6:String} {a1 a2 a3 a4 a5 a6:Array Edge} {g1 g2 g3 g4 g5 g6:Option (Nat×Bool)} {k1 k2 k3 k4 k5 k6:Kind} {i1 i2 i3 i4 i5 i6:Env} {e1 e2 e3 e4 e5 e6:Ent}[h1:StR ops P ⟨some d1,o1,t1,p1,a1,g1⟩ Γ R k1 i1 e1][h2:StR ops P ⟨some d2,o2,t2,p2,a2,g2⟩ ((d1,e1)::Γ) R k2 i2 e2][h3:StR ops P ⟨some d3,o3,t3,p3,a3,g3⟩ ((d2,e2)::((d1,e1)::Γ)) R k3 i3 e3][h4:StR ops P ⟨some d4,o4,t4,p4,a4,g4⟩ ((d3,e3)::((d2,e2)::((d1,e1)::Γ))) R k4 i4 e4][h5:StR ops P ⟨some d5,o5,t5,p5,a5,g5⟩ ((d4,e4)::((d3,e3)::((d2,e2)::((d1,e1)::Γ)))) R k5 i5 e5][h6:StR ops P ⟨some d6,o6,t6,p6,a6,g6⟩ ((d5,e5)::((d4,e4)::((d3,e3)::((d2,e2)::((d1,e1)::Γ))))) R k6 i6 e6](k:Chain rd P ops rest ((d6,e6)::((d5,e5)::((d4,e4)::((d3,e3)::((d2,e2)::((d1,e1)::Γ)))))) R es Γ' R'):Chain rd P ops (⟨some d1,o1,t1,p1,a1,g1⟩::(⟨some d2,o2,t2,p2,a2,g2⟩::(⟨some d3,o3,t3,p3,a3,g3⟩::(⟨some d4,o4,t4,p4,a4,g4⟩::(⟨some d5,o5,t5,p5,a5,g5⟩::(⟨some d6,o6,t6,p6,a6,g6⟩::rest)))))) Γ R (⟨k1,i1,e1,[],some d1,R,R⟩::(⟨k2,i2,e2,[],some d2,R,R⟩::(⟨k3,i3,e3,[],some d3,R,R⟩::(⟨k4,i4,e4,[],some d4,R,R⟩::(⟨k5,i5,e5,[],some d5,R,R⟩::(⟨k6,i6,e6,[],some d6,R,R⟩::es)))))) Γ' R':=(cQ h1 (cQ h2 (cQ h3 (cQ h4 (cQ h5 (cQ h6 k))))))
theorem c8{d1 d2 d3 d4 d5 d6 d7 d8:Nat} {o1 o2 o3 o4 o5 o6 o7 o8:Op} {t1 t2 t3 t4 t5 t6 t7 t8:TypeId} {p1 p2 p3 p4 p5 p6 p7 p8:String} {a1 a2 a3 a4 a5 a6 a7 a8:Array Edge} {g1 g2 g3 g4 g5 g6 g7 g8:Option (Nat×Bool)} {k1 k2 k3 k4 k5 k6 k7 k8:Kind} {i1 i2 i3 i4 i5 i6 i7 i8:Env} {e1 e2 e3 e4 e5 e6 e7 e8:Ent}[h1:StR ops P ⟨some d1,o1,t1,p1,a1,g1⟩ Γ R k1 i1 e1][h2:StR ops P ⟨some d2,o2,t2,p2,a2,g2⟩ ((d1,e1)::Γ) R k2 i2 e2][h3:StR ops P ⟨some d3,o3,t3,p3,a3,g3⟩ ((d2,e2)::((d1,e1)::Γ)) R k3 i3 e3][h4:StR ops P ⟨some d4,o4,t4,p4,a4,g4⟩ ((d3,e3)::((d2,e2)::((d1,e1)::Γ))) R k4 i4 e4][h5:StR ops P ⟨some d5,o5,t5,p5,a5,g5⟩ ((d4,e4)::((d3,e3)::((d2,e2)::((d1,e1)::Γ)))) R k5 i5 e5][h6:StR ops P ⟨some d6,o6,t6,p6,a6,g6⟩ ((d5,e5)::((d4,e4)::((d3,e3)::((d2,e2)::((d1,e1)::Γ))))) R k6 i6 e6][h7:StR ops P ⟨some d7,o7,t7,p7,a7,g7⟩ ((d6,e6)::((d5,e5)::((d4,e4)::((d3,e3)::((d2,e2)::((d1,e1)::Γ)))))) R k7 i7 e7][h8:StR ops P ⟨some d8,o8,t8,p8,a8,g8⟩ ((d7,e7)::((d6,e6)::((d5,e5)::((d4,e4)::((d3,e3)::((d2,e2)::((d1,e1)::Γ))))))) R k8 i8 e8](k:Chain rd P ops rest ((d8,e8)::((d7,e7)::((d6,e6)::((d5,e5)::((d4,e4)::((d3,e3)::((d2,e2)::((d1,e1)::Γ)))))))) R es Γ' R'):Chain rd P ops (⟨some d1,o1,t1,p1,a1,g1⟩::(⟨some d2,o2,t2,p2,a2,g2⟩::(⟨some d3,o3,t3,p3,a3,g3⟩::(⟨some d4,o4,t4,p4,a4,g4⟩::(⟨some d5,o5,t5,p5,a5,g5⟩::(⟨some d6,o6,t6,p6,a6,g6⟩::(⟨some d7,o7,t7,p7,a7,g7⟩::(⟨some d8,o8,t8,p8,a8,g8⟩::rest)))))))) Γ R (⟨k1,i1,e1,[],some d1,R,R⟩::(⟨k2,i2,e2,[],some d2,R,R⟩::(⟨k3,i3,e3,[],some d3,R,R⟩::(⟨k4,i4,e4,[],some d4,R,R⟩::(⟨k5,i5,e5,[],some d5,R,R⟩::(⟨k6,i6,e6,[],some d6,R,R⟩::(⟨k7,i7,e7,[],some d7,R,R⟩::(⟨k8,i8,e8,[],some d8,R,R⟩::es)))))))) Γ' R':=(cQ h1 (cQ h2 (cQ h3 (cQ h4 (cQ h5 (cQ h6 (cQ h7 (cQ h8 k))))))))
theorem c12{d1 d2 d3 d4 d5 d6 d7 d8 d9 d10 d11 d12:Nat} {o1 o2 o3 o4 o5 o6 o7 o8 o9 o10 o11 o12:Op} {t1 t2 t3 t4 t5 t6 t7 t8 t9 t10 t11 t12:TypeId} {p1 p2 p3 p4 p5 p6 p7 p8 p9 p10 p11 p12:String} {a1 a2 a3 a4 a5 a6 a7 a8 a9 a10 a11 a12:Array Edge} {g1 g2 g3 g4 g5 g6 g7 g8 g9 g10 g11 g12:Option (Nat×Bool)} {k1 k2 k3 k4 k5 k6 k7 k8 k9 k10 k11 k12:Kind} {i1 i2 i3 i4 i5 i6 i7 i8 i9 i10 i11 i12:Env} {e1 e2 e3 e4 e5 e6 e7 e8 e9 e10 e11 e12:Ent}[h1:StR ops P ⟨some d1,o1,t1,p1,a1,g1⟩ Γ R k1 i1 e1][h2:StR ops P ⟨some d2,o2,t2,p2,a2,g2⟩ ((d1,e1)::Γ) R k2 i2 e2][h3:StR ops P ⟨some d3,o3,t3,p3,a3,g3⟩ ((d2,e2)::((d1,e1)::Γ)) R k3 i3 e3][h4:StR ops P ⟨some d4,o4,t4,p4,a4,g4⟩ ((d3,e3)::((d2,e2)::((d1,e1)::Γ))) R k4 i4 e4][h5:StR ops P ⟨some d5,o5,t5,p5,a5,g5⟩ ((d4,e4)::((d3,e3)::((d2,e2)::((d1,e1)::Γ)))) R k5 i5 e5][h6:StR ops P ⟨some d6,o6,t6,p6,a6,g6⟩ ((d5,e5)::((d4,e4)::((d3,e3)::((d2,e2)::((d1,e1)::Γ))))) R k6 i6 e6][h7:StR ops P ⟨some d7,o7,t7,p7,a7,g7⟩ ((d6,e6)::((d5,e5)::((d4,e4)::((d3,e3)::((d2,e2)::((d1,e1)::Γ)))))) R k7 i7 e7][h8:StR ops P ⟨some d8,o8,t8,p8,a8,g8⟩ ((d7,e7)::((d6,e6)::((d5,e5)::((d4,e4)::((d3,e3)::((d2,e2)::((d1,e1)::Γ))))))) R k8 i8 e8][h9:StR ops P ⟨some d9,o9,t9,p9,a9,g9⟩ ((d8,e8)::((d7,e7)::((d6,e6)::((d5,e5)::((d4,e4)::((d3,e3)::((d2,e2)::((d1,e1)::Γ)))))))) R k9 i9 e9][h10:StR ops P ⟨some d10,o10,t10,p10,a10,g10⟩ ((d9,e9)::((d8,e8)::((d7,e7)::((d6,e6)::((d5,e5)::((d4,e4)::((d3,e3)::((d2,e2)::((d1,e1)::Γ))))))))) R k10 i10 e10][h11:StR ops P ⟨some d11,o11,t11,p11,a11,g11⟩ ((d10,e10)::((d9,e9)::((d8,e8)::((d7,e7)::((d6,e6)::((d5,e5)::((d4,e4)::((d3,e3)::((d2,e2)::((d1,e1)::Γ)))))))))) R k11 i11 e11][h12:StR ops P ⟨some d12,o12,t12,p12,a12,g12⟩ ((d11,e11)::((d10,e10)::((d9,e9)::((d8,e8)::((d7,e7)::((d6,e6)::((d5,e5)::((d4,e4)::((d3,e3)::((d2,e2)::((d1,e1)::Γ))))))))))) R k12 i12 e12](k:Chain rd P ops rest ((d12,e12)::((d11,e11)::((d10,e10)::((d9,e9)::((d8,e8)::((d7,e7)::((d6,e6)::((d5,e5)::((d4,e4)::((d3,e3)::((d2,e2)::((d1,e1)::Γ)))))))))))) R es Γ' R'):Chain rd P ops (⟨some d1,o1,t1,p1,a1,g1⟩::(⟨some d2,o2,t2,p2,a2,g2⟩::(⟨some d3,o3,t3,p3,a3,g3⟩::(⟨some d4,o4,t4,p4,a4,g4⟩::(⟨some d5,o5,t5,p5,a5,g5⟩::(⟨some d6,o6,t6,p6,a6,g6⟩::(⟨some d7,o7,t7,p7,a7,g7⟩::(⟨some d8,o8,t8,p8,a8,g8⟩::(⟨some d9,o9,t9,p9,a9,g9⟩::(⟨some d10,o10,t10,p10,a10,g10⟩::(⟨some d11,o11,t11,p11,a11,g11⟩::(⟨some d12,o12,t12,p12,a12,g12⟩::rest)))))))))))) Γ R (⟨k1,i1,e1,[],some d1,R,R⟩::(⟨k2,i2,e2,[],some d2,R,R⟩::(⟨k3,i3,e3,[],some d3,R,R⟩::(⟨k4,i4,e4,[],some d4,R,R⟩::(⟨k5,i5,e5,[],some d5,R,R⟩::(⟨k6,i6,e6,[],some d6,R,R⟩::(⟨k7,i7,e7,[],some d7,R,R⟩::(⟨k8,i8,e8,[],some d8,R,R⟩::(⟨k9,i9,e9,[],some d9,R,R⟩::(⟨k10,i10,e10,[],some d10,R,R⟩::(⟨k11,i11,e11,[],some d11,R,R⟩::(⟨k12,i12,e12,[],some d12,R,R⟩::es)))))))))))) Γ' R':=(cQ h1 (cQ h2 (cQ h3 (cQ h4 (cQ h5 (cQ h6 (cQ h7 (cQ h8 (cQ h9 (cQ h10 (cQ h11 (cQ h12 k))))))))))))
class OpdsI(xs:List Operand)(Γ:Env)(ss:outParam (List Sig))(i:outParam Env):Prop where
 h:Opds xs ss i
 s:Sub i Γ
instance opdsI0:OpdsI [] Γ [] []:=⟨nA,trivial⟩
instance opdsI1{x:Operand} {xs:List Operand} {s:Sig} {ss:List Sig} {i j:Env}[h:OpdI x Γ (.d s) i][k:OpdsI xs Γ ss j]:OpdsI (x::xs) Γ (s::ss) (i++j):=⟨mE h.h k.h,gP h.s k.s⟩
theorem cC{d:Nat} {f:FuncId} {as_:Array Operand} {ts:Array TypeId} {t:TypeId} {p:String} {a:Array Edge} {ss:List Sig} {i:Env} {o:Sig}(hf:FnA P f ss o)[h:OpdsI as_.toList Γ ss i](c:Chain rd P ops rest ((d,.d o)::Γ) R es Γ' R')(hb:((P.funcs[f]?).map fun fn=>fn.body.isSome&& !(fn.name== "runtime.NumGoroutine"))=some true:=by kernel_rfl):Chain rd P ops (⟨some d,.call ⟨.value (.func f),as_,ts⟩,t,p,a,none⟩::rest) Γ R (⟨.pure,i,.d o,[],some d,R,R⟩::es) Γ' R':=
 cp (oCall rfl hf hb h.h) h.s c
end
abbrev ki:Kd Int:=kI .i64
theorem u{α:Sort _} {a:α}:a=a:=rfl
theorem tv:True:=trivial
theorem oc{x:Operand} {xs:List Operand} {s:Sig} {ss:List Sig} {a b:Env}(h:Opd x (.d s) a)(k:Opds xs ss b):Opds (x::xs) (s::ss) (a++b):=mE h k
theorem o0:Opds [] [] []:=nA
theorem dT{p:Prop}[Decidable p](h:p):decide p=true:=decide_eq_true h
theorem dF{p:Prop}[Decidable p](h:¬p):decide p=false:=decide_eq_false h
section
variable{C:Cx} {Q:Exit->Act->World->Prop} {Γ Γ':Env} {R R':List Res}
theorem sb{Γ' Γ:Env}(h:Γ'.map (fun p=>look Γ p.1)=Γ'.map (fun p=>some p.2)):Sub Γ' Γ:=by
 induction Γ' with
 |nil=>trivial
 |cons p r ih=>
  simp only[List.map_cons,List.cons.injEq] at h
  exact⟨h.1,ih h.2⟩
theorem rdx{id:Nat} {l:List Oper} {es:List En}(hm:C.P.follows .mixedOrders=true)(hc:Chain C.rd C.P ⟨l⟩ l Γ R es Γ' R')(h:Post C Q .normal Γ' R')(hk:(noBoom es&&chkB C l es Γ R)=true:=by kernel_rfl)(hr:rgOk ⟨l⟩ (es.map (·.kind)) (es.map fun e=>e.ins.map (·.1))=true:=by kernel_rfl):WP C (.region id ⟨l⟩ true) Q Γ R:=rgD hm hc hk hr h
theorem rx{id:Nat} {l:List Oper} {es:List En}(hc:Chain C.rd C.P ⟨l⟩ l Γ R es Γ' R')(h:Post C Q .normal Γ' R')(hk:(noBoom es&&chkB C l es Γ R)=true:=by kernel_rfl):WP C (.region id ⟨l⟩ false) Q Γ R:=rg hc hk h
end
end Go.Proofs.YtmjcpkmongafnaaGreatDoor.Ab
