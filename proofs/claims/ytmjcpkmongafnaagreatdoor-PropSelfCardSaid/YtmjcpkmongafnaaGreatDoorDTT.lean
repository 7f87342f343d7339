import Derived.Test.YtmjcpkmongafnaaGreatDoorAb37
import Derived.Test.YtmjcpkmongafnaaGreatDoorProg
set_option linter.unusedVariables false
namespace Go.Proofs.YtmjcpkmongafnaaGreatDoor.TT
open Go Go.Proofs.YtmjcpkmongafnaaGreatDoor.Ab
structure aq where
 Names:List Str
 Up:List Int
structure aO where
 May:List Int
 Res:List Int
 Pc:List Int
structure bw where
 Rows:List aO
structure az where
 V:Int
 L:Int
 deriving DecidableEq
structure aE where
 Op:Int
 N:Int
 L:Int
structure av where
 Ret:Bool
 V:Int
 L:Int
structure ah where
 Pc:az
 Code:List aE
 Mem:List az
 Stack:List av
 Out:List az
structure S202 where
 x0_:Int
 x1_:Int
 x2_:Int
structure al where
 l_:aq
 s_:ah
 x_:aE
 a_:av
 b_:av
 r_:av
 below_:Int
 one_:S202
inductive If221 where
 |nil
 |c218 (x:Bool)
 |c227 (x:Int)
def vIf221:If221->Option (TypeId×Sig)
 |.nil=>none
 |.c218 x=>some (218,kB.sig x)
 |.c227 x=>some (227,(kI .i64).sig x)
def dN:If221->Bool×Bool
 |.c218 x=>(x,true)
 |_=>(false,false)
theorem gR:AsOk vIf221 218 kB false dN:=fun x=>by
 cases x<;>simp[vIf221,dN]
def eI:If221->Int×Bool
 |.c227 x=>(x,true)
 |_=>(0,false)
theorem gS:AsOk vIf221 227 (kI .i64) 0 eI:=fun x=>by
 cases x<;>simp[vIf221,eI]
structure bl where
 l_:aq
 labels_:List Int
 pile_:List If221
structure bP where
 l_:aq
 t_:bw
 o_:Int
 fuel_:Int
 a_:ah
 b_:ah
structure cf where
 same_:Option (aE->aE->Option Bool)
 label_:Option (aE->Option Int)
 seen_:Option (aE->aE->Option Bool)
structure ci where
 same_:Option (az->az->Option Bool)
 label_:Option (az->Option Int)
 seen_:Option (az->az->Option Bool)
structure cj where
 same_:Option (av->av->Option Bool)
 label_:Option (av->Option Int)
 seen_:Option (av->av->Option Bool)
structure bp where
 l_:aq
 o_:Int
def ks0:Str:=[0,1,1,2,1,2,2,3,1,2,2,3,2,3,3,4,1,2,2,3,2,3,3,4,2,3,3,4,3,4,4,5,1,2,2,3,2,3,3,4,2,3,3,4,3,4,4,5,2,3,3,4,3,4,4,5,3,4,4,5,4,5,5,6,1,2,2,3,2,3,3,4,2,3,3,4,3,4,4,5,2,3,3,4,3,4,4,5,3,4,4,5,4,5,5,6,2,3,3,4,3,4,4,5,3,4,4,5,4,5,5,6,3,4,4,5,4,5,5,6,4,5,5,6,5,6,6,7,1,2,2,3,2,3,3,4,2,3,3,4,3,4,4,5,2,3,3,4,3,4,4,5,3,4,4,5,4,5,5,6,2,3,3,4,3,4,4,5,3,4,4,5,4,5,5,6,3,4,4,5,4,5,5,6,4,5,5,6,5,6,6,7,2,3,3,4,3,4,4,5,3,4,4,5,4,5,5,6,3,4,4,5,4,5,5,6,4,5,5,6,5,6,6,7,3,4,4,5,4,5,5,6,4,5,5,6,5,6,6,7,4,5,5,6,5,6,6,7,5,6,6,7,6,7,7,8]
def aA:List (Fld aq):=[⟨(kL kS),aq.Names⟩,⟨(kL (kI .u32)),aq.Up⟩]
def aU:List (Fld aO):=[⟨(kL (kI .i64)),aO.May⟩,⟨(kL (kI .i64)),aO.Res⟩,⟨(kL (kI .i64)),aO.Pc⟩]
def bf:List (Fld bw):=[⟨(kL (kR aU)),bw.Rows⟩]
def am:List (Fld az):=[⟨(kI .i64),az.V⟩,⟨(kI .i64),az.L⟩]
def aw:List (Fld aE):=[⟨(kI .i64),aE.Op⟩,⟨(kI .i64),aE.N⟩,⟨(kI .i64),aE.L⟩]
def au:List (Fld av):=[⟨kB,av.Ret⟩,⟨(kI .i64),av.V⟩,⟨(kI .i64),av.L⟩]
def ap:List (Fld ah):=[⟨(kR am),ah.Pc⟩,⟨(kL (kR aw)),ah.Code⟩,⟨(kL (kR am)),ah.Mem⟩,⟨(kL (kR au)),ah.Stack⟩,⟨(kL (kR am)),ah.Out⟩]
def iR:List (Fld S202):=[⟨(kI .i64),S202.x0_⟩,⟨(kI .i64),S202.x1_⟩,⟨(kI .i64),S202.x2_⟩]
def eA:List (Fld al):=[⟨(kR aA),al.l_⟩,⟨(kR ap),al.s_⟩,⟨(kR aw),al.x_⟩,⟨(kR au),al.a_⟩,⟨(kR au),al.b_⟩,⟨(kR au),al.r_⟩,⟨(kI .i64),al.below_⟩,⟨(kR iR),al.one_⟩]
def f_judge_judge:List (Fld bl):=[⟨(kR aA),bl.l_⟩,⟨(kL (kI .i64)),bl.labels_⟩,⟨(kL (kF vIf221)),bl.pile_⟩]
def bM:List (Fld bP):=[⟨(kR aA),bP.l_⟩,⟨(kR bf),bP.t_⟩,⟨(kI .i64),bP.o_⟩,⟨(kI .i64),bP.fuel_⟩,⟨(kR ap),bP.a_⟩,⟨(kR ap),bP.b_⟩]
noncomputable def cz:List (Fld cf):=[⟨(kFn Tryz.prog (rl2 (kR aw) (kR aw) kB)),cf.same_⟩,⟨(kFn Tryz.prog (rl1 (kR aw) (kI .i64))),cf.label_⟩,⟨(kFn Tryz.prog (rl2 (kR aw) (kR aw) kB)),cf.seen_⟩]
noncomputable def cA:List (Fld ci):=[⟨(kFn Tryz.prog (rl2 (kR am) (kR am) kB)),ci.same_⟩,⟨(kFn Tryz.prog (rl1 (kR am) (kI .i64))),ci.label_⟩,⟨(kFn Tryz.prog (rl2 (kR am) (kR am) kB)),ci.seen_⟩]
noncomputable def cD:List (Fld cj):=[⟨(kFn Tryz.prog (rl2 (kR au) (kR au) kB)),cj.same_⟩,⟨(kFn Tryz.prog (rl1 (kR au) (kI .i64))),cj.label_⟩,⟨(kFn Tryz.prog (rl2 (kR au) (kR au) kB)),cj.seen_⟩]
def bx:List (Fld bp):=[⟨(kR aA),bp.l_⟩,⟨(kI .i64),bp.o_⟩]
def eJ:List (Fld aq):=[⟨(kN Str),aq.Names⟩,⟨(kL (kI .u32)),aq.Up⟩]
def dX:List (Fld bl):=[⟨(kR aA),bl.l_⟩,⟨(kL (kI .i64)),bl.labels_⟩,⟨(kN If221),bl.pile_⟩]
def cu.l0(a:aq)(b:List Str)(c:Int):Option (List Str):=
 if c<((lCut a.Names 0 (if 10<(a.Names.length:Int) then 10 else (a.Names.length:Int))).length:Int) then (lAt (lCut a.Names 0 (if 10<(a.Names.length:Int) then 10 else (a.Names.length:Int))) c>>=fun y15=>if (0:Int)<=(if 15<(y15.length:Int) then 15 else (y15.length:Int))/\(if 15<(y15.length:Int) then 15 else (y15.length:Int))<=(y15.length:Int) then (if (b.length+([sCut y15 0 (if 15<(y15.length:Int) then 15 else (y15.length:Int))]:List Str).length)*16<=big then (cu.l0 a (b++([sCut y15 0 (if 15<(y15.length:Int) then 15 else (y15.length:Int))]:List Str)) (IntKind.i64.wrap (c+1))) else none) else none) else (some b)
partial_fixpoint
def cu.f(a:aq):Option aq:=
 if (0:Int)<=(if 10<(a.Up.length:Int) then 10 else (a.Up.length:Int))/\(if 10<(a.Up.length:Int) then 10 else (a.Up.length:Int))<=(a.Up.length:Int) then (if (0:Int)<=(if 10<(a.Names.length:Int) then 10 else (a.Names.length:Int))/\(if 10<(a.Names.length:Int) then 10 else (a.Names.length:Int))<=(a.Names.length:Int) then ((cu.l0 a ([]:List Str) 0>>=fun b=>some (⟨b,lCut a.Up 0 (if 10<(a.Up.length:Int) then 10 else (a.Up.length:Int))⟩:aq))) else none) else none
def ca.l0(b:bw)(c:List aO)(d:Int):Option (List aO):=
 if d<((lCut b.Rows 0 (if 15<(b.Rows.length:Int) then 15 else (b.Rows.length:Int))).length:Int) then (lAt (lCut b.Rows 0 (if 15<(b.Rows.length:Int) then 15 else (b.Rows.length:Int))) d>>=fun a=>if (0:Int)<=(if 45<(a.May.length:Int) then 45 else (a.May.length:Int))/\(if 45<(a.May.length:Int) then 45 else (a.May.length:Int))<=(a.May.length:Int) then (if (0:Int)<=(if 45<(a.Res.length:Int) then 45 else (a.Res.length:Int))/\(if 45<(a.Res.length:Int) then 45 else (a.Res.length:Int))<=(a.Res.length:Int) then (if (0:Int)<=(if 45<(a.Pc.length:Int) then 45 else (a.Pc.length:Int))/\(if 45<(a.Pc.length:Int) then 45 else (a.Pc.length:Int))<=(a.Pc.length:Int) then (if (c.length+([(⟨lCut a.May 0 (if 45<(a.May.length:Int) then 45 else (a.May.length:Int)),lCut a.Res 0 (if 45<(a.Res.length:Int) then 45 else (a.Res.length:Int)),lCut a.Pc 0 (if 45<(a.Pc.length:Int) then 45 else (a.Pc.length:Int))⟩:aO)]:List aO).length)*72<=big then (ca.l0 b (c++([(⟨lCut a.May 0 (if 45<(a.May.length:Int) then 45 else (a.May.length:Int)),lCut a.Res 0 (if 45<(a.Res.length:Int) then 45 else (a.Res.length:Int)),lCut a.Pc 0 (if 45<(a.Pc.length:Int) then 45 else (a.Pc.length:Int))⟩:aO)]:List aO)) (IntKind.i64.wrap (d+1))) else none) else none) else none) else none) else (some c)
partial_fixpoint
def ca.f(a:bw):Option bw:=
 if (0:Int)<=(if 15<(a.Rows.length:Int) then 15 else (a.Rows.length:Int))/\(if 15<(a.Rows.length:Int) then 15 else (a.Rows.length:Int))<=(a.Rows.length:Int) then ((ca.l0 a ([]:List aO) 0>>=fun b=>some (⟨b⟩:bw))) else none
def dn.f(a:ah):Option ah:=
 if (0:Int)<=(if 15<(a.Code.length:Int) then 15 else (a.Code.length:Int))/\(if 15<(a.Code.length:Int) then 15 else (a.Code.length:Int))<=(a.Code.length:Int) then (if (0:Int)<=(if 15<(a.Mem.length:Int) then 15 else (a.Mem.length:Int))/\(if 15<(a.Mem.length:Int) then 15 else (a.Mem.length:Int))<=(a.Mem.length:Int) then (if (0:Int)<=(if 15<(a.Stack.length:Int) then 15 else (a.Stack.length:Int))/\(if 15<(a.Stack.length:Int) then 15 else (a.Stack.length:Int))<=(a.Stack.length:Int) then (if (0:Int)<=(if 15<(a.Out.length:Int) then 15 else (a.Out.length:Int))/\(if 15<(a.Out.length:Int) then 15 else (a.Out.length:Int))<=(a.Out.length:Int) then (some (⟨a.Pc,lCut a.Code 0 (if 15<(a.Code.length:Int) then 15 else (a.Code.length:Int)),lCut a.Mem 0 (if 15<(a.Mem.length:Int) then 15 else (a.Mem.length:Int)),lCut a.Stack 0 (if 15<(a.Stack.length:Int) then 15 else (a.Stack.length:Int)),lCut a.Out 0 (if 15<(a.Out.length:Int) then 15 else (a.Out.length:Int))⟩:ah)) else none) else none) else none) else none
def bO.l0(b:Str)(a:Int):Option (Bool⊕Unit):=
 if a<(b.length:Int) then (((if (0:Int)<=a/\a<(b.length:Int) then (if sAt b a<97 then (some true) else (if (0:Int)<=a/\a<(b.length:Int) then (some (decide (sAt b a>122))) else none)) else none:Option Bool)>>=fun c=>if c=true then (some (.inl false)) else (bO.l0 b (IntKind.i64.wrap (a+1))))) else (some (.inr ()))
partial_fixpoint
def bO.f(a:Str):Option Bool:=
 (bO.l0 a 0>>=fun o=>match o with|.inl r=>some r|.inr ()=>((if a=([]:Str) then (some false) else (some (decide ((a.length:Int)<=12))):Option Bool)>>=fun b=>some b))
def bg.l0(b:List Str)(a1:Str)(a:Int):Option (Int⊕Unit):=
 if a<(b.length:Int) then (lAt b a>>=fun c=>if a1=c then (some (.inl a)) else (bg.l0 b a1 (IntKind.i64.wrap (a+1)))) else (some (.inr ()))
partial_fixpoint
def bg.f(a:List Str)(a1:Str):Option Int:=
 (bg.l0 a a1 0>>=fun o=>match o with|.inl r=>some r|.inr ()=>some (-1))
def bI.f(a:List Str)(a1:Str):Option Bool:=
 bg.f a a1>>=fun b=>some (decide (b>=0))
def bY.l0(b:aq)(a:Int):Option (Bool⊕Unit):=
 if a<(b.Names.length:Int) then (lAt b.Names a>>=fun c=>((bO.f c>>=fun d=>if (!d)=true then (some true) else (if (0:Int)<=a/\a<=(b.Names.length:Int) then (bI.f (lCut b.Names 0 a) c>>=fun e=>if e=true then (some true) else (lAt b.Up a>>=fun g=>if ¬(b.Up.length:Int)<0 then (some (!decide (bShr .u32 g (b.Up.length:Int)=0))) else none)) else none):Option Bool)>>=fun h=>if h=true then (some (.inl false)) else (bY.l0 b (IntKind.i64.wrap (a+1))))) else (some (.inr ()))
partial_fixpoint
def bY.f(a:aq):Option Bool:=
 ((if (a.Up.length:Int)<1 then (some true) else (if (a.Up.length:Int)>8 then (some true) else (some (!decide ((a.Names.length:Int)=(a.Up.length:Int))))):Option Bool)>>=fun b=>if b=true then (some false) else ((bY.l0 a 0>>=fun o=>match o with|.inl r=>some r|.inr ()=>some true)))
def ba.l3{σ:Type}(a_y:σ->Int->Int->Option (Bool×σ))(a1:Int)(c:Int)(d:σ)(a:Int):Option (σ⊕σ):=
 if a<a1 then (a_y d c a>>=fun b=>if (!b.1)=true then (some (.inl b.2)) else (ba.l3 a_y a1 c b.2 (IntKind.i64.wrap (a+1)))) else (some (.inr d))
partial_fixpoint
def ba.l2{σ:Type}(a_y:σ->Int->Int->Option (Bool×σ))(a1:Int)(b:σ)(a:Int):Option (σ⊕σ):=
 if a<a1 then ((ba.l3 a_y a1 a b 0>>=fun o=>match o with|.inl r=>some (.inl r)|.inr c=>ba.l2 a_y a1 c (IntKind.i64.wrap (a+1)))) else (some (.inr b))
partial_fixpoint
def ba.f{σ:Type}(a_y:σ->Int->Int->Option (Bool×σ))(a_s:σ)(a1:Int):Option σ:=
 (ba.l2 a_y a1 a_s 0>>=fun o=>match o with|.inl r=>some r|.inr a=>some a)
def dV.f(a:Int):Option Int:=
 some a
def cF.f(a:aq)(a1:Int)(a2:Int):Option Bool:=
 lAt a.Up a1>>=fun b=>if ¬a2<0 then (some (decide (bAnd .u32 (bShr .u32 b a2) 1=1))) else none
def cG.y0(c:aq)(m:Unit)(a:Int)(b:Int):Option (Bool×((Unit)×Nat)):=
 ((if a=b then (cF.f c a b>>=fun d=>if (!d)=true then (some true) else (some false)) else (cF.f c a b>>=fun e=>if e=true then (cF.f c b a>>=fun g=>some g) else (some false)):Option Bool)>>=fun h=>if h=true then (some (false,((),1))) else (((cF.f c a b>>=fun i=>if i=true then (lAt c.Up b>>=fun j=>lAt c.Up a>>=fun k=>some (!decide (bAndNot .u32 j k=0))) else (some false):Option Bool)>>=fun l=>if l=true then (some (false,((),1))) else (some (true,((),0))))))
def cG.f(b:aq):Option Bool:=
 dV.f (b.Up.length:Int)>>=fun c=>(ba.f (yOf (cG.y0 b)) ((),0) c>>=fun a=>if a.2=0 then (some true) else if a.2=1 then (some false) else none)
def aH.l0(b:List Int)(a1:Int->Option Bool)(a:Int):Option (Int⊕Unit):=
 if a<(b.length:Int) then (lAt b a>>=fun c=>a1 c>>=fun d=>if d=true then (some (.inl a)) else (aH.l0 b a1 (IntKind.i64.wrap (a+1)))) else (some (.inr ()))
partial_fixpoint
def aH.f(a:List Int)(a1:Int->Option Bool):Option Int:=
 (aH.l0 a a1 0>>=fun o=>match o with|.inl r=>some r|.inr ()=>some (-1))
def eB.f(a:Int)(a1:Int):Option Bool:=
 some (decide (a=a1))
def dr.f(a:aq)(a1:Int)(a2:Int):Option Int:=
 lAt a.Up a1>>=fun b=>lAt a.Up a2>>=fun c=>aH.f a.Up (fun d=>eB.f d (bAnd .u32 b c))>>=fun e=>some e
def bQ.l0(b:aq)(a1:Int)(a:Int)(c:Int):Option Int:=
 if a<(b.Up.length:Int) then (lAt b.Up a>>=fun d=>if ¬a1<0 then (if ¬a<0 then (bQ.l0 b a1 (IntKind.i64.wrap (a+1)) (bOr .u32 c (bShl .u32 (bAnd .u32 (bShr .u32 d a1) 1) a))) else none) else none) else (some c)
partial_fixpoint
def bQ.f(b:aq)(a1:Int):Option Int:=
 (bQ.l0 b a1 0 0>>=fun a=>some a)
def bN.l0(b:aq)(c:Int)(d:Int)(a:Int):Option (Int⊕Unit):=
 if a<(b.Up.length:Int) then (bQ.f b a>>=fun e=>if e=bAnd .u32 c d then (some (.inl a)) else (bN.l0 b c d (IntKind.i64.wrap (a+1)))) else (some (.inr ()))
partial_fixpoint
def bN.f(a:aq)(a1:Int)(a2:Int):Option Int:=
 bQ.f a a1>>=fun b=>bQ.f a a2>>=fun c=>(bN.l0 a b c 0>>=fun o=>match o with|.inl r=>some r|.inr ()=>some (-1))
def bE.y0(c:aq)(d:Int)(a:Int)(b:Int):Option (Bool×((Int)×Nat)):=
 ((dr.f c a b>>=fun e=>if e<0 then (some true) else (bN.f c a b>>=fun g=>some (decide (g<0))):Option Bool)>>=fun h=>if h=true then (some (false,(3,1))) else (some (true,(d,0))))
def bE.f(b:aq):Option Int:=
 bY.f b>>=fun c=>if (!c)=true then (some 1) else (cG.f b>>=fun d=>if (!d)=true then (some 2) else (dV.f (b.Up.length:Int)>>=fun e=>(ba.f (yOf (bE.y0 b)) (0,0) e>>=fun a=>if a.2=0 then (some 0) else if a.2=1 then (some a.1) else none)))
def aW.l0(b:List Int)(a1:Int->Option Bool)(a:Int):Option (Int⊕Unit):=
 if a<(b.length:Int) then (lAt b a>>=fun c=>a1 c>>=fun d=>if d=true then (some (.inl a)) else (aW.l0 b a1 (IntKind.i64.wrap (a+1)))) else (some (.inr ()))
partial_fixpoint
def aW.f(a:List Int)(a1:Int->Option Bool):Option Int:=
 (aW.l0 a a1 0>>=fun o=>match o with|.inl r=>some r|.inr ()=>some (-1))
def bB.f(a:List Int)(a1:Int->Option Bool):Option Bool:=
 aW.f a a1>>=fun b=>some (decide (b>=0))
def dO.f(a:Int)(a1:aq):Option Bool:=
 ((if a<0 then (some true) else (some (decide (a>=(a1.Up.length:Int)))):Option Bool)>>=fun b=>some b)
def cE.f(a:aq)(a1:List Int):Option Int:=
 bE.f a>>=fun b=>if b=0 then (bB.f a1 (fun c=>dO.f c a)>>=fun d=>if d=true then (some 9) else (some 0)) else (some b)
def eC.f(a:Int):Option Int:=
 if (0:Int)<=bShr .u32 a 24/\bShr .u32 a 24<(ks0.length:Int) then (if (0:Int)<=bAnd .u32 (bShr .u32 a 16) 255/\bAnd .u32 (bShr .u32 a 16) 255<(ks0.length:Int) then (if (0:Int)<=bAnd .u32 (bShr .u32 a 8) 255/\bAnd .u32 (bShr .u32 a 8) 255<(ks0.length:Int) then (if (0:Int)<=bAnd .u32 a 255/\bAnd .u32 a 255<(ks0.length:Int) then (some (IntKind.i64.wrap (IntKind.u8.wrap ((IntKind.u8.wrap ((IntKind.u8.wrap ((sAt ks0 (bShr .u32 a 24))+(sAt ks0 (bAnd .u32 (bShr .u32 a 16) 255))))+(sAt ks0 (bAnd .u32 (bShr .u32 a 8) 255))))+(sAt ks0 (bAnd .u32 a 255)))))) else none) else none) else none) else none
def dC.f(a:Int):Option Bool:=
 eC.f a>>=fun b=>some (decide (b=1))
def dg.f(a:aq):Option (Int×Int):=
 cE.f a []>>=fun b=>if b=0 then (aH.f a.Up dC.f>>=fun c=>some (c,0)) else (some (0,b))
def fl.f:Option bw:=
 some (⟨([(⟨([1]:List Int),([6]:List Int),([8]:List Int)⟩:aO),(⟨([1]:List Int),([9]:List Int),([8]:List Int)⟩:aO),(⟨([1]:List Int),([6]:List Int),([8]:List Int)⟩:aO),(⟨([1]:List Int),([9,10,12]:List Int),([8]:List Int)⟩:aO),(⟨([1]:List Int),([9,10,12]:List Int),([8]:List Int)⟩:aO),(⟨([1]:List Int),([9,10,12]:List Int),([8]:List Int)⟩:aO),(⟨([9,8,12,11,5]:List Int),([9,10,12,8,12]:List Int),([8]:List Int)⟩:aO),(⟨([1]:List Int),([6]:List Int),([9,8,12]:List Int)⟩:aO),(⟨([1]:List Int),([6]:List Int),([9,8,12]:List Int)⟩:aO),(⟨([1]:List Int),([6]:List Int),([9,8,12]:List Int)⟩:aO),(⟨([1]:List Int),([9,8,12]:List Int),([10]:List Int)⟩:aO),(⟨([1]:List Int),([9,8,12]:List Int),([8]:List Int)⟩:aO),(⟨([1]:List Int),([6]:List Int),([8]:List Int)⟩:aO)]:List aO)⟩:bw)
def dd.f(a:Bool)(a1:List Bool):Option ((List Bool)×Bool):=
 ((if IntKind.i64.wrap ((a1.length:Int)-1)<1 then (some true) else (lAt a1 (IntKind.i64.wrap ((a1.length:Int)-1))>>=fun b=>if b=a then (lAt a1 (IntKind.i64.wrap ((IntKind.i64.wrap ((a1.length:Int)-1))-1))>>=fun c=>some (!decide (c=a))) else (some true)):Option Bool)>>=fun d=>if d=true then (some (a1,false)) else (if (0:Int)<=IntKind.i64.wrap ((IntKind.i64.wrap ((a1.length:Int)-1))-1)/\IntKind.i64.wrap ((IntKind.i64.wrap ((a1.length:Int)-1))-1)<=(a1.length:Int) then (some (a1.take (IntKind.i64.wrap ((IntKind.i64.wrap ((a1.length:Int)-1))-1)).toNat,true)) else none))
def cR.l0(j:List Int)(a:List Bool)(c:Int):Option ((Bool×Bool)⊕(List Bool)):=
 if c<(j.length:Int) then (((lAt j c>>=fun b=>((if b=1 then (if (a.length+([false]:List Bool).length)*1<=big then (some (a++([false]:List Bool),true)) else none) else (if b=2 then (if (a.length+([false]:List Bool).length)*1<=big then (some (a++([false]:List Bool),true)) else none) else (if b=6 then (if (a.length+([true]:List Bool).length)*1<=big then (some (a++([true]:List Bool),true)) else none) else (if b=7 then (if (a.length+([true]:List Bool).length)*1<=big then (some (a++([true]:List Bool),true)) else none) else (if b=8 then (if (a.length+([true]:List Bool).length)*1<=big then (some (a++([true]:List Bool),true)) else none) else (if b=9 then (if (a.length+([true]:List Bool).length)*1<=big then (some (a++([true]:List Bool),true)) else none) else (if b=10 then (if (a.length+([true]:List Bool).length)*1<=big then (some (a++([true]:List Bool),true)) else none) else (if b=11 then (if (a.length+([true]:List Bool).length)*1<=big then (some (a++([true]:List Bool),true)) else none) else (if b=3 then (dd.f false a>>=fun d=>if (d.1.length+([false]:List Bool).length)*1<=big then (some (d.1++([false]:List Bool),d.2)) else none) else (if b=4 then (dd.f false a>>=fun e=>if (e.1.length+([false]:List Bool).length)*1<=big then (some (e.1++([false]:List Bool),e.2)) else none) else (if b=5 then (dd.f true a>>=fun g=>if (g.1.length+([false]:List Bool).length)*1<=big then (some (g.1++([false]:List Bool),g.2)) else none) else (if b=12 then (dd.f true a>>=fun h=>if (h.1.length+([true]:List Bool).length)*1<=big then (some (h.1++([true]:List Bool),h.2)) else none) else (if b=13 then (dd.f true a>>=fun i=>if (i.1.length+([true]:List Bool).length)*1<=big then (some (i.1++([true]:List Bool),i.2)) else none) else (some (a,false)))))))))))))):Option ((List Bool)×Bool))>>=fun o=>match o with|(k,l)=>if (!l)=true then (some (.inl (false,false))) else (some (.inr k))):Option ((Bool×Bool)⊕(List Bool)))>>=fun o=>match o with|.inl r=>some (.inl r)|.inr m=>cR.l0 j m (IntKind.i64.wrap (c+1)))) else (some (.inr a))
partial_fixpoint
def cR.f(d:List Int):Option (Bool×Bool):=
 (cR.l0 d ([]:List Bool) 0>>=fun o=>match o with|.inl r=>some r|.inr a=>((if (a.length:Int)=1 then (some (decide ((d.length:Int)>40))) else (some true):Option Bool)>>=fun b=>if b=true then (some (false,false)) else (lAt a 0>>=fun c=>some (c,true))))
def db.f(b:List Int)(a1:Bool):Option Bool:=
 cR.f b>>=fun a=>((if a.2=true then (some (decide (a.1=a1))) else (some false):Option Bool)>>=fun c=>some c)
def dQ.f(a:aO):Option Bool:=
 ((db.f a.May false>>=fun c=>if c=true then (db.f a.Res true>>=fun d=>if d=true then (db.f a.Pc true>>=fun b=>some b) else (some false)) else (some false):Option Bool)>>=fun e=>some e)
def cZ.l0(d:List Int)(b:Int)(c:Int):Option Int:=
 if b<(d.length:Int) then (((lAt d b>>=fun a=>((if a>=8 then (some (decide (a<=11))) else (some false):Option Bool)>>=fun e=>if e=true then (if ¬IntKind.i64.wrap (a-8)<0 then (some (bOr .u32 c (bShl .u32 1 (IntKind.i64.wrap (a-8))))) else none) else (some c)):Option Int)>>=fun f=>cZ.l0 d (IntKind.i64.wrap (b+1)) f)) else (some c)
partial_fixpoint
def cZ.f(a:List Int):Option (Int×Int):=
 cR.f a>>=fun c=>if (!c.2)=true then (some (0,1)) else ((cZ.l0 a 0 0>>=fun b=>some (b,0)))
def dx.f(c:Int)(a1:List Int):Option Bool:=
 cZ.f a1>>=fun a=>((if a.2=0 then (lAt gl0 c>>=fun b=>if ¬IntKind.i64.wrap (b+1)<0 then (some (decide (bShr .u32 a.1 (IntKind.i64.wrap (b+1))=0))) else none) else (some false):Option Bool)>>=fun d=>some d)
def dJ.f(a:Int)(a1:aO):Option Bool:=
 ((dx.f a a1.May>>=fun c=>if c=true then (dx.f a a1.Res>>=fun d=>if d=true then (dx.f a a1.Pc>>=fun b=>some b) else (some false)) else (some false):Option Bool)>>=fun e=>some e)
def cH.l0(b:bw)(a:Int):Option ((Int×Int)⊕Unit):=
 if a<(b.Rows.length:Int) then (lAt b.Rows a>>=fun y16=>dQ.f y16>>=fun c=>if (!c)=true then (some (.inl (a,1))) else (dJ.f a y16>>=fun d=>if (!d)=true then (some (.inl (a,7))) else (cH.l0 b (IntKind.i64.wrap (a+1))))) else (some (.inr ()))
partial_fixpoint
def cH.f(a:bw):Option (Int×Int):=
 if (a.Rows.length:Int)=13 then ((cH.l0 a 0>>=fun o=>match o with|.inl r=>some r|.inr ()=>some (0,0))) else (some (0,1))
def dK.f(a:Int):Option Bool:=
 ((if a>=(-20) then (some (decide (a<=20))) else (some false):Option Bool)>>=fun b=>some b)
def dh.f(a:Int):Option Bool:=
 ((if a>=0 then (some (decide (a<=12))) else (some false):Option Bool)>>=fun b=>some b)
def dj.f(a:Int)(a1:Int)(a2:Int):Option Bool:=
 ((if a>=a1 then (some (decide (a<=a2))) else (some false):Option Bool)>>=fun b=>some b)
def dD.f(a:Int)(a1:Int):Option (Int->Option Bool):=
 some (fun b=>dj.f b a a1)
def fk.f:Option (List (Int×(Option (Int->Option Bool)))):=
 dD.f (-20) 20>>=fun a=>dD.f 0 12>>=fun b=>dD.f 0 3>>=fun c=>dD.f 0 1>>=fun d=>some ([(1,(some a)),(8,(some b)),(9,(some c)),(10,(some d))]:List (Int×(Option (Int->Option Bool))))
def eX.f(d:Int)(a1:aE):Option Bool:=
 ((if a1.Op<0 then (some true) else (some (decide (a1.Op>=13))):Option Bool)>>=fun e=>if e=true then (some false) else (fk.f>>=fun a=>((if ((mGet a none a1.Op).2)=true then ((mGet a none a1.Op).1>>=fun y14=>y14 a1.N>>=fun y15=>if (!y15)=true then (some true) else (if (!((mGet a none a1.Op).2))=true then (some (!decide (a1.N=0))) else (some false))) else (if (!((mGet a none a1.Op).2))=true then (some (!decide (a1.N=0))) else (some false)):Option Bool)>>=fun b=>if b=true then (some false) else (if a1.Op=1 then (((if a1.L>=0 then (some (decide (a1.L<d))) else (some false):Option Bool)>>=fun c=>some c)) else (some (decide (a1.L=0)))))))
def aN.l0(b:List aE)(a1:aE->Option Bool)(a:Int):Option (Int⊕Unit):=
 if a<(b.length:Int) then (lAt b a>>=fun c=>a1 c>>=fun d=>if d=true then (some (.inl a)) else (aN.l0 b a1 (IntKind.i64.wrap (a+1)))) else (some (.inr ()))
partial_fixpoint
def aN.f(a:List aE)(a1:aE->Option Bool):Option Int:=
 (aN.l0 a a1 0>>=fun o=>match o with|.inl r=>some r|.inr ()=>some (-1))
def bF.f(a:List aE)(a1:aE->Option Bool):Option Bool:=
 aN.f a a1>>=fun b=>some (decide (b>=0))
def dR.f(a:aE)(a1:aq):Option Bool:=
 eX.f (a1.Up.length:Int) a>>=fun b=>some (!b)
def dq.f(a:aq)(a1:List aE):Option Bool:=
 ((bE.f a>>=fun b=>if b=0 then (if (a1.length:Int)<=12 then (bF.f a1 (fun c=>dR.f c a)>>=fun d=>some (!d)) else (some false)) else (some false):Option Bool)>>=fun e=>some e)
def aK.l0(b:List az)(a1:az->Option Bool)(a:Int):Option (Int⊕Unit):=
 if a<(b.length:Int) then (lAt b a>>=fun c=>a1 c>>=fun d=>if d=true then (some (.inl a)) else (aK.l0 b a1 (IntKind.i64.wrap (a+1)))) else (some (.inr ()))
partial_fixpoint
def aK.f(a:List az)(a1:az->Option Bool):Option Int:=
 (aK.l0 a a1 0>>=fun o=>match o with|.inl r=>some r|.inr ()=>some (-1))
def bo.f(a:List az)(a1:az->Option Bool):Option Bool:=
 aK.f a a1>>=fun b=>some (decide (b>=0))
def aR.l0(b:List av)(a1:av->Option Bool)(a:Int):Option (Int⊕Unit):=
 if a<(b.length:Int) then (lAt b a>>=fun c=>a1 c>>=fun d=>if d=true then (some (.inl a)) else (aR.l0 b a1 (IntKind.i64.wrap (a+1)))) else (some (.inr ()))
partial_fixpoint
def aR.f(a:List av)(a1:av->Option Bool):Option Int:=
 (aR.l0 a a1 0>>=fun o=>match o with|.inl r=>some r|.inr ()=>some (-1))
def bt.f(a:List av)(a1:av->Option Bool):Option Bool:=
 aR.f a a1>>=fun b=>some (decide (b>=0))
def bT.f(a:Int)(a1:aq):Option Bool:=
 ((if a>=0 then (some (decide (a<(a1.Up.length:Int)))) else (some false):Option Bool)>>=fun b=>some b)
def dL.f(a:az)(a1:Option (Int->Option Bool)):Option Bool:=
 ((dK.f a.V>>=fun b=>if (!b)=true then (some true) else (a1>>=fun c=>c a.L>>=fun d=>some (!d)):Option Bool)>>=fun e=>some e)
def dW.f(a:av)(a1:Option (Int->Option Bool)):Option Bool:=
 ((a1>>=fun b=>b a.L>>=fun c=>if (!c)=true then (some true) else (if (!a.Ret)=true then (dK.f a.V>>=fun y16=>if (!y16)=true then (some true) else (if a.Ret=true then (dh.f a.V>>=fun d=>some (!d)) else (some false))) else (if a.Ret=true then (dh.f a.V>>=fun e=>some (!e)) else (some false))):Option Bool)>>=fun g=>some g)
def dw.f(b:aq)(a1:ah):Option Bool:=
 ((if (a1.Mem.length:Int)<=6 then (if (a1.Stack.length:Int)<=12 then (some (decide ((a1.Out.length:Int)<=8))) else (some false)) else (some false):Option Bool)>>=fun l=>((dq.f b a1.Code>>=fun c=>if c=true then (dh.f a1.Pc.V>>=fun d=>if d=true then ((some (fun a=>bT.f a b))>>=fun e=>e a1.Pc.L>>=fun g=>if g=true then (if l=true then (bo.f a1.Mem (fun a=>dL.f a (some (fun a=>bT.f a b)))>>=fun h=>if (!h)=true then (bt.f a1.Stack (fun a=>dW.f a (some (fun a=>bT.f a b)))>>=fun i=>if (!i)=true then (bo.f a1.Out (fun a=>dL.f a (some (fun a=>bT.f a b)))>>=fun j=>some (!j)) else (some false)) else (some false)) else (some false)) else (some false)) else (some false)) else (some false):Option Bool)>>=fun k=>some k))
def bA.f(a:Bool):Option (Pn⊕Unit):=
 if (!a)=true then (some (.inl 3)) else (some (.inr ()))
def bb.l0(b:List Int)(a1:Int)(a:Int):Option (Int⊕Unit):=
 if a<(b.length:Int) then (lAt b a>>=fun c=>if a1=c then (some (.inl a)) else (bb.l0 b a1 (IntKind.i64.wrap (a+1)))) else (some (.inr ()))
partial_fixpoint
def bb.f(a:List Int)(a1:Int):Option Int:=
 (bb.l0 a a1 0>>=fun o=>match o with|.inl r=>some r|.inr ()=>some (-1))
def cx.f(a:aq):Option (Int×Int):=
 cE.f a []>>=fun b=>if b=0 then (if ¬(a.Up.length:Int)<0 then (bb.f a.Up (IntKind.u32.wrap ((bShl .u32 1 (a.Up.length:Int))-1))>>=fun c=>some (c,0)) else none) else (some (0,b))
def dy.f(a:al):Option al:=
 some a
def ew.f(a:al):Option al:=
 some (⟨a.l_,a.s_,a.x_,a.a_,a.b_,a.r_,a.below_,⟨a.x_.L,a.one_.x1_,a.one_.x2_⟩⟩:al)
def bG.f(a:al)(a1:Int):Option (Pn⊕(al×av)):=
 ((if IntKind.i64.wrap ((IntKind.i64.wrap ((a.s_.Stack.length:Int)-1))-a1)>=0 then (lAt a.s_.Stack (IntKind.i64.wrap ((IntKind.i64.wrap ((a.s_.Stack.length:Int)-1))-a1))>>=fun b=>bA.f (!b.Ret)>>=fun c=>match c with|.inl d=>some (.inl (.inl d))|.inr i=>some (.inr ())) else (bA.f false>>=fun e=>match e with|.inl g=>some (.inl (.inl g))|.inr y16=>some (.inr ())):Option ((Pn⊕(al×av))⊕Unit))>>=fun o=>match o with|.inl r=>some r|.inr ()=>lAt a.s_.Stack (IntKind.i64.wrap ((IntKind.i64.wrap ((a.s_.Stack.length:Int)-1))-a1))>>=fun h=>some (.inr (a,h)))
def bh.f(b:al):Option (Pn⊕al):=
 bG.f b 0>>=fun c=>match c with|.inl d=>some (.inl d)|.inr a=>some (.inr (⟨a.1.l_,a.1.s_,a.1.x_,a.2,a.1.b_,a.1.r_,IntKind.i64.wrap ((a.1.s_.Stack.length:Int)-1),⟨a.2.L,a.1.one_.x1_,a.1.one_.x2_⟩⟩:al))
def bH.f(b:al):Option (Pn⊕al):=
 bh.f b>>=fun c=>match c with|.inl d=>some (.inl d)|.inr e=>bG.f e 1>>=fun z4=>match z4 with|.inl g=>some (.inl g)|.inr a=>some (.inr (⟨a.1.l_,a.1.s_,a.1.x_,a.1.a_,a.2,a.1.r_,IntKind.i64.wrap (a.1.below_-1),⟨a.1.one_.x0_,a.2.L,a.1.one_.x2_⟩⟩:al))
def bK.f(a:al):Option (Pn⊕(al×Int)):=
 ((if a.a_.V>=0 then (bA.f (decide (a.a_.V<(a.s_.Mem.length:Int)))>>=fun z9=>match z9 with|.inl b=>some (.inl (.inl b))|.inr e=>some (.inr ())) else (bA.f false>>=fun c=>match c with|.inl d=>some (.inl (.inl d))|.inr y14=>some (.inr ())):Option ((Pn⊕(al×Int))⊕Unit))>>=fun o=>match o with|.inl r=>some r|.inr ()=>some (.inr (a,a.a_.V)))
def cc.f(b:al):Option (Pn⊕al):=
 bh.f b>>=fun c=>match c with|.inl d=>some (.inl d)|.inr e=>bK.f e>>=fun z4=>match z4 with|.inl g=>some (.inl g)|.inr a=>lAt a.1.s_.Mem a.2>>=fun h=>some (.inr (⟨a.1.l_,a.1.s_,a.1.x_,a.1.a_,a.1.b_,a.1.r_,a.1.below_,⟨a.1.one_.x0_,h.L,a.1.one_.x2_⟩⟩:al))
def bU.f(b:al):Option (Pn⊕al):=
 bH.f b>>=fun c=>match c with|.inl d=>some (.inl d)|.inr e=>bK.f e>>=fun z4=>match z4 with|.inl g=>some (.inl g)|.inr a=>lAt a.1.s_.Mem a.2>>=fun h=>some (.inr (⟨a.1.l_,a.1.s_,a.1.x_,a.1.a_,a.1.b_,a.1.r_,a.1.below_,⟨a.1.one_.x0_,a.1.one_.x1_,h.L⟩⟩:al))
def bS.f(g:al):Option (Pn⊕al):=
 bh.f g>>=fun h=>match h with|.inl i=>some (.inl i)|.inr a=>((if a.a_.V>=0 then (bA.f (decide (a.a_.V<=12))>>=fun b=>match b with|.inl c=>some (.inl (.inl c))|.inr y14=>some (.inr ())) else (bA.f false>>=fun d=>match d with|.inl e=>some (.inl (.inl e))|.inr j=>some (.inr ())):Option ((Pn⊕al)⊕Unit))>>=fun o=>match o with|.inl r=>some r|.inr ()=>some (.inr a))
def bn.l0(c:al)(b:al)(a:Int):Option ((Pn⊕al)⊕al):=
 if a<c.x_.N then (bG.f b (IntKind.i64.wrap (1+a))>>=fun d=>match d with|.inl e=>some (.inl (.inl e))|.inr g=>bn.l0 c g.1 (IntKind.i64.wrap (a+1))) else (some (.inr b))
partial_fixpoint
def bn.f(c:al):Option (Pn⊕al):=
 bS.f c>>=fun d=>match d with|.inl e=>some (.inl e)|.inr a=>(bn.l0 a a 0>>=fun o=>match o with|.inl r=>some r|.inr b=>some (.inr b))
def aP.l0(b:al)(a:Int):Option Int:=
 ((if a>0 then (lAt b.s_.Stack (IntKind.i64.wrap (a-1))>>=fun c=>some (!c.Ret)) else (some false):Option Bool)>>=fun d=>if d=true then (aP.l0 b (IntKind.i64.wrap (a-1))) else (some a))
partial_fixpoint
def aP.l1(b:al)(a:Int):Option Int:=
 ((if a>0 then (lAt b.s_.Stack (IntKind.i64.wrap (a-1))>>=fun c=>some (!c.Ret)) else (some false):Option Bool)>>=fun d=>if d=true then (aP.l1 b (IntKind.i64.wrap (a-1))) else (some a))
partial_fixpoint
def aP.f(a:al):Option (Pn⊕al):=
 if a.x_.N=1 then (bh.f (⟨a.l_,a.s_,a.x_,a.a_,a.b_,a.r_,(a.s_.Stack.length:Int),a.one_⟩:al)>>=fun j=>match j with|.inl k=>some (.inl k)|.inr b=>(aP.l0 b b.below_>>=fun c=>bA.f (decide (c>0))>>=fun z25=>match z25 with|.inl h=>some (.inl h)|.inr l=>lAt b.s_.Stack (IntKind.i64.wrap (c-1))>>=fun e=>some (.inr (⟨b.l_,b.s_,b.x_,b.a_,b.b_,e,IntKind.i64.wrap (c-1),⟨b.one_.x0_,e.L,b.one_.x2_⟩⟩:al)))) else ((aP.l1 a (a.s_.Stack.length:Int)>>=fun d=>bA.f (decide (d>0))>>=fun z49=>match z49 with|.inl i=>some (.inl i)|.inr m=>lAt a.s_.Stack (IntKind.i64.wrap (d-1))>>=fun g=>some (.inr (⟨a.l_,a.s_,a.x_,a.a_,a.b_,g,IntKind.i64.wrap (d-1),⟨a.one_.x0_,g.L,a.one_.x2_⟩⟩:al))))
def bJ.f(a:al):Option (Pn⊕al):=
 if a.x_.Op=0 then (dy.f (⟨a.l_,a.s_,a.x_,a.a_,a.b_,a.r_,(a.s_.Stack.length:Int),a.one_⟩:al)>>=fun B=>some (.inr B)) else (if a.x_.Op=12 then (dy.f (⟨a.l_,a.s_,a.x_,a.a_,a.b_,a.r_,(a.s_.Stack.length:Int),a.one_⟩:al)>>=fun C=>some (.inr C)) else (if a.x_.Op=1 then (ew.f (⟨a.l_,a.s_,a.x_,a.a_,a.b_,a.r_,(a.s_.Stack.length:Int),a.one_⟩:al)>>=fun D=>some (.inr D)) else (if a.x_.Op=2 then (bh.f (⟨a.l_,a.s_,a.x_,a.a_,a.b_,a.r_,(a.s_.Stack.length:Int),a.one_⟩:al)>>=fun E=>match E with|.inl F=>some (.inl F)|.inr b=>some (.inr b)) else (if a.x_.Op=11 then (bh.f (⟨a.l_,a.s_,a.x_,a.a_,a.b_,a.r_,(a.s_.Stack.length:Int),a.one_⟩:al)>>=fun c=>match c with|.inl d=>some (.inl d)|.inr y14=>some (.inr y14)) else (if a.x_.Op=3 then (bH.f (⟨a.l_,a.s_,a.x_,a.a_,a.b_,a.r_,(a.s_.Stack.length:Int),a.one_⟩:al)>>=fun e=>match e with|.inl g=>some (.inl g)|.inr h=>some (.inr h)) else (if a.x_.Op=4 then (bH.f (⟨a.l_,a.s_,a.x_,a.a_,a.b_,a.r_,(a.s_.Stack.length:Int),a.one_⟩:al)>>=fun i=>match i with|.inl j=>some (.inl j)|.inr k=>some (.inr k)) else (if a.x_.Op=5 then (cc.f (⟨a.l_,a.s_,a.x_,a.a_,a.b_,a.r_,(a.s_.Stack.length:Int),a.one_⟩:al)>>=fun l=>match l with|.inl m=>some (.inl m)|.inr n=>some (.inr n)) else (if a.x_.Op=6 then (bU.f (⟨a.l_,a.s_,a.x_,a.a_,a.b_,a.r_,(a.s_.Stack.length:Int),a.one_⟩:al)>>=fun z28=>match z28 with|.inl o=>some (.inl o)|.inr p=>some (.inr p)) else (if a.x_.Op=7 then (bS.f (⟨a.l_,a.s_,a.x_,a.a_,a.b_,a.r_,(a.s_.Stack.length:Int),a.one_⟩:al)>>=fun z32=>match z32 with|.inl q=>some (.inl q)|.inr r=>some (.inr r)) else (if a.x_.Op=8 then (bh.f (⟨a.l_,a.s_,a.x_,a.a_,a.b_,a.r_,(a.s_.Stack.length:Int),a.one_⟩:al)>>=fun s=>match s with|.inl t=>some (.inl t)|.inr u=>some (.inr u)) else (if a.x_.Op=9 then (bn.f (⟨a.l_,a.s_,a.x_,a.a_,a.b_,a.r_,(a.s_.Stack.length:Int),a.one_⟩:al)>>=fun v=>match v with|.inl w=>some (.inl w)|.inr x=>some (.inr x)) else (if a.x_.Op=10 then (aP.f (⟨a.l_,a.s_,a.x_,a.a_,a.b_,a.r_,(a.s_.Stack.length:Int),a.one_⟩:al)>>=fun y=>match y with|.inl z=>some (.inl z)|.inr A=>some (.inr A)) else (none)))))))))))))
def eD.f(a:Int)(a1:aq):Option Bool:=
 ((if a<0 then (some true) else (some (decide (a>=(a1.Up.length:Int)))):Option Bool)>>=fun b=>some b)
def ef.f(a:aq)(a1:List Int)(a2:List Int)(a3:Bool):Option Int:=
 bE.f a>>=fun b=>if b=0 then (db.f a1 a3>>=fun c=>if (!c)=true then (some 1) else (((if (a2.length:Int)=4 then (bB.f a2 (fun d=>eD.f d a)>>=fun e=>some e) else (some true):Option Bool)>>=fun g=>if g=true then (some 9) else (some 0)))) else (some b)
def bC.f(a:bl)(a1:If221):Option bl:=
 if (a.pile_.length+([a1]:List If221).length)*16<=big then (some (⟨a.l_,a.labels_,a.pile_++([a1]:List If221)⟩:bl)) else none
def dM.f(a:bl):Option (bl×If221×If221):=
 lAt a.pile_ (IntKind.i64.wrap ((a.pile_.length:Int)-2))>>=fun b=>lAt a.pile_ (IntKind.i64.wrap ((IntKind.i64.wrap ((a.pile_.length:Int)-2))+1))>>=fun c=>if (0:Int)<=IntKind.i64.wrap ((a.pile_.length:Int)-2)/\IntKind.i64.wrap ((a.pile_.length:Int)-2)<=(a.pile_.length:Int) then (some ((⟨a.l_,a.labels_,a.pile_.take (IntKind.i64.wrap ((a.pile_.length:Int)-2)).toNat⟩:bl),b,c)) else none
def cP.f(a:aq)(a1:Int)(a2:Int):Option (Bool×Int):=
 cE.f a ([a1,a2]:List Int)>>=fun b=>if b=0 then (cF.f a a1 a2>>=fun c=>some (c,0)) else (some (false,b))
def dA.f(a:aq)(a1:Int)(a2:Int):Option (Int×Int):=
 cE.f a ([a1,a2]:List Int)>>=fun b=>if b=0 then (dr.f a a1 a2>>=fun c=>some (c,0)) else (some (0,b))
def dB.f(a:aq)(a1:Int)(a2:Int):Option (Int×Int):=
 cE.f a ([a1,a2]:List Int)>>=fun b=>if b=0 then (bN.f a a1 a2>>=fun c=>some (c,0)) else (some (0,b))
def cY.f(a:bl)(a1:Int)(a2:If221)(a3:If221):Option (bl×If221):=
 if ((dN a2).2)=true then (if a1=3 then (((if ((dN a2).1)=true then (some (If221.c218 ((dN a3).1))) else (some (If221.c218 false)):Option If221)>>=fun d=>some (a,d))) else (((if ((dN a2).1)=true then (some (If221.c218 true)) else (some (If221.c218 ((dN a3).1))):Option If221)>>=fun e=>some (a,e)))) else (if ((eI a2).2)=true then (if a1=5 then (cP.f a.l_ ((eI a2).1) ((eI a3).1)>>=fun b=>some (a,If221.c218 b.1)) else (if a1=12 then (dA.f a.l_ ((eI a2).1) ((eI a3).1)>>=fun c=>some (a,If221.c227 c.1)) else (dB.f a.l_ ((eI a2).1) ((eI a3).1)>>=fun y14=>some (a,If221.c227 y14.1)))) else (some (a,a2)))
def bm.l0(a1:List Int)(c:List Str)(d:List Int)(b:List Int)(e:List If221)(q:Int):Option ((List Str)×(List Int)×(List Int)×(List If221)):=
 if q<(a1.length:Int) then (((lAt a1 q>>=fun a=>((if a=1 then (bC.f (⟨⟨c,d⟩,b,e⟩:bl) (If221.c218 (decide (a=1)))>>=fun g=>some (g.l_.Names,g.l_.Up,g.labels_,g.pile_)) else (if a=2 then (bC.f (⟨⟨c,d⟩,b,e⟩:bl) (If221.c218 (decide (a=1)))>>=fun h=>some (h.l_.Names,h.l_.Up,h.labels_,h.pile_)) else (if a=6 then (cx.f (⟨c,d⟩:aq)>>=fun t=>bC.f (⟨⟨c,d⟩,b,e⟩:bl) (If221.c227 t.1)>>=fun i=>some (i.l_.Names,i.l_.Up,i.labels_,i.pile_)) else (if a=7 then (dg.f (⟨c,d⟩:aq)>>=fun u=>bC.f (⟨⟨c,d⟩,b,e⟩:bl) (If221.c227 u.1)>>=fun j=>some (j.l_.Names,j.l_.Up,j.labels_,j.pile_)) else (if a=8 then (lAt b (IntKind.i64.wrap (a-8))>>=fun v=>bC.f (⟨⟨c,d⟩,b,e⟩:bl) (If221.c227 v)>>=fun k=>some (k.l_.Names,k.l_.Up,k.labels_,k.pile_)) else (if a=9 then (lAt b (IntKind.i64.wrap (a-8))>>=fun w=>bC.f (⟨⟨c,d⟩,b,e⟩:bl) (If221.c227 w)>>=fun l=>some (l.l_.Names,l.l_.Up,l.labels_,l.pile_)) else (if a=10 then (lAt b (IntKind.i64.wrap (a-8))>>=fun x=>bC.f (⟨⟨c,d⟩,b,e⟩:bl) (If221.c227 x)>>=fun m=>some (m.l_.Names,m.l_.Up,m.labels_,m.pile_)) else (if a=11 then (lAt b (IntKind.i64.wrap (a-8))>>=fun y=>bC.f (⟨⟨c,d⟩,b,e⟩:bl) (If221.c227 y)>>=fun n=>some (n.l_.Names,n.l_.Up,n.labels_,n.pile_)) else (dM.f (⟨⟨c,d⟩,b,e⟩:bl)>>=fun r=>cY.f r.1 a r.2.1 r.2.2>>=fun s=>bC.f s.1 s.2>>=fun p=>some (p.l_.Names,p.l_.Up,p.labels_,p.pile_))))))))):Option ((List Str)×(List Int)×(List Int)×(List If221)))>>=fun o=>match o with|(z,A,B,C)=>some (z,A,B,C)):Option ((List Str)×(List Int)×(List Int)×(List If221)))>>=fun o=>match o with|(D,E,F,G)=>bm.l0 a1 D E F G (IntKind.i64.wrap (q+1)))) else (some (c,d,b,e))
partial_fixpoint
def bm.f(b:bl)(a1:List Int):Option (bl×If221):=
 (bm.l0 a1 b.l_.Names b.l_.Up b.labels_ b.pile_ 0>>=fun o=>match o with|(c,d,e,a)=>lAt a 0>>=fun g=>some ((⟨⟨c,d⟩,e,a⟩:bl),g))
def dG.f(a:aq)(a1:List Int)(a2:List Int):Option (Bool×Int):=
 ef.f a a1 a2 false>>=fun b=>if b=0 then (bm.f (⟨a,a2,([]:List If221)⟩:bl) a1>>=fun c=>some ((dN c.2).1,0)) else (some (false,b))
def cX.f(a:aq)(a1:List Int)(a2:List Int):Option (Int×Int):=
 ef.f a a1 a2 true>>=fun b=>if b=0 then (bm.f (⟨a,a2,([]:List If221)⟩:bl) a1>>=fun c=>some ((eI c.2).1,0)) else (some (0,b))
def b9.f(a:al)(a1:Int)(a2:Int):Option al:=
 if (a.s_.Stack.length+([(⟨false,a1,a2⟩:av)]:List av).length)*24<=big then (some (⟨a.l_,⟨a.s_.Pc,a.s_.Code,a.s_.Mem,a.s_.Stack++([(⟨false,a1,a2⟩:av)]:List av),a.s_.Out⟩,a.x_,a.a_,a.b_,a.r_,a.below_,a.one_⟩:al)) else none
def ce.f(a1:Int):Option (List av):=
 if a1<0 then (none) else (if IntKind.i64.wrap (a1-(IntKind.i64.wrap (0-(([]:List av).length:Int))))>0 then (if 0<IntKind.i64.wrap (a1-(IntKind.i64.wrap (0-(([]:List av).length:Int))))/\(IntKind.i64.wrap (a1-(IntKind.i64.wrap (0-(([]:List av).length:Int))))).toNat*24<=big then (if (0:Int)<=(([]:List av).length:Int)/\(([]:List av).length:Int)<=((List.replicate (IntKind.i64.wrap (a1-(IntKind.i64.wrap (0-(([]:List av).length:Int))))).toNat ((⟨false,0,0⟩:av):av)).length:Int) then (some ((List.replicate (IntKind.i64.wrap (a1-(IntKind.i64.wrap (0-(([]:List av).length:Int))))).toNat ((⟨false,0,0⟩:av):av)).take (([]:List av).length:Int).toNat)) else none) else none) else (some ([]:List av)))
def aI.l0(d:List (List av))(a:Int)(b:Int):Option Int:=
 if a<(d.length:Int) then (((lAt d a>>=fun c=>if IntKind.i64.wrap (b+(c.length:Int))<0 then (none) else (some (IntKind.i64.wrap (b+(c.length:Int)))):Option Int)>>=fun e=>aI.l0 d (IntKind.i64.wrap (a+1)) e)) else (some b)
partial_fixpoint
def aI.l1(d:List (List av))(a:List av)(b:Int):Option (List av):=
 if b<(d.length:Int) then (lAt d b>>=fun c=>if (a.length+c.length)*24<=big then (aI.l1 d (a++c) (IntKind.i64.wrap (b+1))) else none) else (some a)
partial_fixpoint
def aI.f(a:List (List av)):Option (List av):=
 (aI.l0 a 0 0>>=fun b=>ce.f b>>=fun c=>(aI.l1 a c 0>>=fun d=>some d))
def bD.f(a:List av):Option (List av):=
 if (([]:List av).length+a.length)*24<=big then (some (([]:List av)++a)) else none
def bi.f(a:List az):Option (List az):=
 if (([]:List az).length+a.length)*16<=big then (some (([]:List az)++a)) else none
def da.f(a:al)(a1:Int):Option al:=
 if (0:Int)<=a.below_/\a.below_<=(a.s_.Stack.length:Int) then (bD.f (lCut a.s_.Stack 0 a.below_)>>=fun c=>((if a.x_.Op=1 then (b9.f (⟨a.l_,⟨a.s_.Pc,a.s_.Code,a.s_.Mem,c,a.s_.Out⟩,a.x_,a.a_,a.b_,a.r_,a.below_,a.one_⟩:al) a.x_.N a1>>=fun h=>some (h,IntKind.i64.wrap (a.s_.Pc.V+1))) else (if a.x_.Op=3 then (b9.f (⟨a.l_,⟨a.s_.Pc,a.s_.Code,a.s_.Mem,c,a.s_.Out⟩,a.x_,a.a_,a.b_,a.r_,a.below_,a.one_⟩:al) (IntKind.i64.wrap (a.b_.V+a.a_.V)) a1>>=fun i=>some (i,IntKind.i64.wrap (a.s_.Pc.V+1))) else (if a.x_.Op=4 then (b9.f (⟨a.l_,⟨a.s_.Pc,a.s_.Code,a.s_.Mem,c,a.s_.Out⟩,a.x_,a.a_,a.b_,a.r_,a.below_,a.one_⟩:al) (IntKind.i64.wrap (a.b_.V-a.a_.V)) a1>>=fun j=>some (j,IntKind.i64.wrap (a.s_.Pc.V+1))) else (if a.x_.Op=5 then (lAt a.s_.Mem a.a_.V>>=fun k=>b9.f (⟨a.l_,⟨a.s_.Pc,a.s_.Code,a.s_.Mem,c,a.s_.Out⟩,a.x_,a.a_,a.b_,a.r_,a.below_,a.one_⟩:al) k.V a1>>=fun l=>some (l,IntKind.i64.wrap (a.s_.Pc.V+1))) else (if a.x_.Op=6 then (bi.f a.s_.Mem>>=fun d=>lAt d a.a_.V>>=fun p=>some ((⟨a.l_,⟨a.s_.Pc,a.s_.Code,d.set a.a_.V.toNat (⟨a.b_.V,a1⟩:az),c,a.s_.Out⟩,a.x_,a.a_,a.b_,a.r_,a.below_,a.one_⟩:al),IntKind.i64.wrap (a.s_.Pc.V+1))) else (if a.x_.Op=11 then (bi.f a.s_.Out>>=fun e=>if (e.length+([(⟨a.a_.V,a1⟩:az)]:List az).length)*16<=big then (some ((⟨a.l_,⟨a.s_.Pc,a.s_.Code,a.s_.Mem,c,e++([(⟨a.a_.V,a1⟩:az)]:List az)⟩,a.x_,a.a_,a.b_,a.r_,a.below_,a.one_⟩:al),IntKind.i64.wrap (a.s_.Pc.V+1))) else none) else (if a.x_.Op=7 then (some ((⟨a.l_,⟨a.s_.Pc,a.s_.Code,a.s_.Mem,c,a.s_.Out⟩,a.x_,a.a_,a.b_,a.r_,a.below_,a.one_⟩:al),a.a_.V)) else (if a.x_.Op=8 then (if a.a_.V=0 then (some ((⟨a.l_,⟨a.s_.Pc,a.s_.Code,a.s_.Mem,c,a.s_.Out⟩,a.x_,a.a_,a.b_,a.r_,a.below_,a.one_⟩:al),IntKind.i64.wrap (a.s_.Pc.V+1))) else (some ((⟨a.l_,⟨a.s_.Pc,a.s_.Code,a.s_.Mem,c,a.s_.Out⟩,a.x_,a.a_,a.b_,a.r_,a.below_,a.one_⟩:al),a.x_.N))) else (if a.x_.Op=9 then (if (0:Int)<=IntKind.i64.wrap (a.below_-a.x_.N)/\IntKind.i64.wrap (a.below_-a.x_.N)<=a.below_/\a.below_<=(a.s_.Stack.length:Int) then (if (0:Int)<=IntKind.i64.wrap (a.below_-a.x_.N)/\IntKind.i64.wrap (a.below_-a.x_.N)<=(a.s_.Stack.length:Int) then (aI.f ([lCut a.s_.Stack 0 (IntKind.i64.wrap (a.below_-a.x_.N)),([(⟨true,IntKind.i64.wrap (a.s_.Pc.V+1),a.s_.Pc.L⟩:av)]:List av),lCut a.s_.Stack (IntKind.i64.wrap (a.below_-a.x_.N)) a.below_]:List (List av))>>=fun m=>some ((⟨a.l_,⟨a.s_.Pc,a.s_.Code,a.s_.Mem,m,a.s_.Out⟩,a.x_,a.a_,a.b_,a.r_,a.below_,a.one_⟩:al),a.a_.V)) else none) else none) else (if a.x_.Op=10 then (if a.x_.N=1 then (b9.f (⟨a.l_,⟨a.s_.Pc,a.s_.Code,a.s_.Mem,c,a.s_.Out⟩,a.x_,a.a_,a.b_,a.r_,a.below_,a.one_⟩:al) a.a_.V a1>>=fun g=>some (g,g.r_.V)) else (some ((⟨a.l_,⟨a.s_.Pc,a.s_.Code,a.s_.Mem,c,a.s_.Out⟩,a.x_,a.a_,a.b_,a.r_,a.below_,a.one_⟩:al),a.r_.V))) else (some ((⟨a.l_,⟨a.s_.Pc,a.s_.Code,a.s_.Mem,c,a.s_.Out⟩,a.x_,a.a_,a.b_,a.r_,a.below_,a.one_⟩:al),IntKind.i64.wrap (a.s_.Pc.V+1)))))))))))):Option (al×Int))>>=fun o=>match o with|(b,n)=>some (⟨b.l_,⟨⟨n,b.s_.Pc.L⟩,b.s_.Code,b.s_.Mem,b.s_.Stack,b.s_.Out⟩,b.x_,b.a_,b.b_,b.r_,b.below_,b.one_⟩:al))) else none
def cU.B(b:aq)(a1:bw)(a2:ah):Option (Pn⊕(ah×Int)):=
 bA.f (decide (a2.Pc.V<(a2.Code.length:Int)))>>=fun j=>match j with|.inl k=>some (.inl k)|.inr p=>cx.f b>>=fun d=>lAt a2.Code a2.Pc.V>>=fun l=>bJ.f (⟨b,a2,l,⟨false,0,0⟩,⟨false,0,0⟩,⟨false,0,0⟩,0,⟨d.1,d.1,d.1⟩⟩:al)>>=fun m=>match m with|.inl n=>some (.inl n)|.inr a=>if a.x_.Op=12 then (some (.inl 1)) else (lAt a1.Rows a.x_.Op>>=fun c=>dG.f b c.May ([a2.Pc.L,a.one_.x0_,a.one_.x1_,a.one_.x2_]:List Int)>>=fun e=>if (!e.1)=true then (some (.inl 2)) else (cX.f b c.Res ([a2.Pc.L,a.one_.x0_,a.one_.x1_,a.one_.x2_]:List Int)>>=fun g=>cX.f b c.Pc ([a2.Pc.L,a.one_.x0_,a.one_.x1_,a.one_.x2_]:List Int)>>=fun y14=>da.f a g.1>>=fun y15=>dw.f b (⟨⟨y15.s_.Pc.V,y14.1⟩,y15.s_.Code,y15.s_.Mem,y15.s_.Stack,y15.s_.Out⟩:ah)>>=fun y16=>bA.f y16>>=fun h=>match h with|.inl i=>some (.inl i)|.inr o=>some (.inr ((⟨⟨y15.s_.Pc.V,y14.1⟩,y15.s_.Code,y15.s_.Mem,y15.s_.Stack,y15.s_.Out⟩:ah),0))))
def cU.f(a:aq)(a1:bw)(a2:ah):Option (ah×Int):=
 cU.B a a1 a2>>=fun z=>some (finD a2 z)
def df.f(a:aq)(a1:bw)(a2:ah):Option (ah×Int×Int):=
 bE.f a>>=fun b=>if b=0 then (cH.f a1>>=fun c=>if c.2=0 then (dw.f a a2>>=fun e=>if (!e)=true then (some ((⟨⟨0,0⟩,[],[],[],[]⟩:ah),0,1)) else (cU.f a a1 a2>>=fun d=>some (d.1,d.2,0))) else (some ((⟨⟨0,0⟩,[],[],[],[]⟩:ah),0,c.2))) else (some ((⟨⟨0,0⟩,[],[],[],[]⟩:ah),0,b))
def ee.f(b:aq)(a1:bw)(a2:ah)(a3:Int):Option Int:=
 df.f b a1 a2>>=fun a=>if a.2.2=0 then (((if a3<0 then (some true) else (some (decide (a3>40))):Option Bool)>>=fun c=>if c=true then (some 1) else (some 0))) else (some a.2.2)
def bq.l0{σ:Type}(a_y:σ->ah->Int->Option (Bool×σ))(a1:Int)(a2:aq)(a3:bw)(a:ah)(d:σ)(e:Int):Option (σ⊕(ah×σ)):=
 if e<a1 then (df.f a2 a3 a>>=fun b=>((a_y d a b.2.1>>=fun c=>if (!c.1)=true then (some (c.2,true)) else (some (c.2,!decide (b.2.1=0))):Option (σ×Bool))>>=fun o=>match o with|(g,h)=>if h=true then (some (.inl g)) else (bq.l0 a_y a1 a2 a3 b.1 g (IntKind.i64.wrap (e+1))))) else (some (.inr (a,d)))
partial_fixpoint
def bq.f{σ:Type}(a_y:σ->ah->Int->Option (Bool×σ))(a_s:σ)(a1:Int)(a2:aq)(a3:bw)(a4:ah):Option σ:=
 (bq.l0 a_y a1 a2 a3 a4 a_s 0>>=fun o=>match o with|.inl r=>some r|.inr (a,b)=>a_y b a 0>>=fun c=>some c.2)
def dY.f(a:aq)(a1:bw)(a2:ah)(a3:Int):Option (Int×aq×bw×ah):=
 some (a3,a,a1,a2)
def cd.y0(c:ah×Int×Int×Int×(List aE)×(List az)×(List av)×(List az))(a:ah)(b:Int):Option (Bool×((ah×Int×Int×Int×(List aE)×(List az)×(List av)×(List az))×Nat)):=
 some (true,((a,b,a.Pc.V,a.Pc.L,a.Code,a.Mem,a.Stack,a.Out),0))
def cd.f(c:aq)(a1:bw)(a2:ah)(a3:Int):Option (ah×Int×Int):=
 ee.f c a1 a2 a3>>=fun d=>if d=0 then (dY.f c a1 a2 a3>>=fun a=>(bq.f (yOf (cd.y0)) ((a2,0,a2.Pc.V,a2.Pc.L,a2.Code,a2.Mem,a2.Stack,a2.Out),0) a.1 a.2.1 a.2.2.1 a.2.2.2>>=fun b=>if b.2=0 then (some (b.1.1,b.1.2.1,0)) else none)) else (some ((⟨⟨0,0⟩,[],[],[],[]⟩:ah),0,d))
def bz.f(a:bP)(a1:ah):Option Bool:=
 cP.f a.l_ a1.Pc.L a.o_>>=fun b=>some b.1
def cL.f(a:aE)(a1:aE):Option Bool:=
 ((if a.Op=a1.Op then (if a.Op=1 then (some true) else (some (decide (a.N=a1.N)))) else (some false):Option Bool)>>=fun b=>some b)
def dc.f(a:aE):Option Int:=
 some a.L
def dl.f(a:aE)(a1:aE):Option Bool:=
 some (decide (a.N=a1.N))
def cy.f:Option cf:=
 some (⟨(some cL.f),(some dc.f),(some dl.f)⟩:cf)
def aS.l3(e:cf)(a:List aE)(b:List Int)(c:Int):Option (List Int):=
 if c<(a.length:Int) then (lAt a c>>=fun f=>e.label_>>=fun g=>g f>>=fun d=>if (b.length+([d]:List Int).length)*8<=big then (aS.l3 e a (b++([d]:List Int)) (IntKind.i64.wrap (c+1))) else none) else (some b)
partial_fixpoint
def aS.l2(c:cf)(a1:List (List aE))(b:List Int)(a:Int):Option (List Int):=
 if a<(a1.length:Int) then (lAt a1 a>>=fun d=>(aS.l3 c d b 0>>=fun e=>aS.l2 c a1 e (IntKind.i64.wrap (a+1)))) else (some b)
partial_fixpoint
def aS.f(b:cf)(a1:List (List aE)):Option (List Int):=
 (aS.l2 b a1 ([]:List Int) 0>>=fun a=>some a)
def eh.f(a:az)(a1:az):Option Bool:=
 some true
def dS.f(a:az):Option Int:=
 some a.L
def er.f(a:az)(a1:az):Option Bool:=
 some (decide (a.V=a1.V))
def dI.f:Option ci:=
 some (⟨(some eh.f),(some dS.f),(some er.f)⟩:ci)
def aQ.l3(e:ci)(a:List az)(b:List Int)(c:Int):Option (List Int):=
 if c<(a.length:Int) then (lAt a c>>=fun f=>e.label_>>=fun g=>g f>>=fun d=>if (b.length+([d]:List Int).length)*8<=big then (aQ.l3 e a (b++([d]:List Int)) (IntKind.i64.wrap (c+1))) else none) else (some b)
partial_fixpoint
def aQ.l2(c:ci)(a1:List (List az))(b:List Int)(a:Int):Option (List Int):=
 if a<(a1.length:Int) then (lAt a1 a>>=fun d=>(aQ.l3 c d b 0>>=fun e=>aQ.l2 c a1 e (IntKind.i64.wrap (a+1)))) else (some b)
partial_fixpoint
def aQ.f(b:ci)(a1:List (List az)):Option (List Int):=
 (aQ.l2 b a1 ([]:List Int) 0>>=fun a=>some a)
def et.f(a:av)(a1:av):Option Bool:=
 some (decide (a.Ret=a1.Ret))
def dU.f(a:av):Option Int:=
 some a.L
def eu.f(a:av)(a1:av):Option Bool:=
 some (decide (a.V=a1.V))
def dE.f:Option cj:=
 some (⟨(some et.f),(some dU.f),(some eu.f)⟩:cj)
def aT.l3(e:cj)(a:List av)(b:List Int)(c:Int):Option (List Int):=
 if c<(a.length:Int) then (lAt a c>>=fun f=>e.label_>>=fun g=>g f>>=fun d=>if (b.length+([d]:List Int).length)*8<=big then (aT.l3 e a (b++([d]:List Int)) (IntKind.i64.wrap (c+1))) else none) else (some b)
partial_fixpoint
def aT.l2(c:cj)(a1:List (List av))(b:List Int)(a:Int):Option (List Int):=
 if a<(a1.length:Int) then (lAt a1 a>>=fun d=>(aT.l3 c d b 0>>=fun e=>aT.l2 c a1 e (IntKind.i64.wrap (a+1)))) else (some b)
partial_fixpoint
def aT.f(b:cj)(a1:List (List av)):Option (List Int):=
 (aT.l2 b a1 ([]:List Int) 0>>=fun a=>some a)
def di.f(a1:Int):Option (List Int):=
 if a1<0 then (none) else (if IntKind.i64.wrap (a1-(IntKind.i64.wrap (0-(([]:List Int).length:Int))))>0 then (if 0<IntKind.i64.wrap (a1-(IntKind.i64.wrap (0-(([]:List Int).length:Int))))/\(IntKind.i64.wrap (a1-(IntKind.i64.wrap (0-(([]:List Int).length:Int))))).toNat*8<=big then (if (0:Int)<=(([]:List Int).length:Int)/\(([]:List Int).length:Int)<=((List.replicate (IntKind.i64.wrap (a1-(IntKind.i64.wrap (0-(([]:List Int).length:Int))))).toNat (0:Int)).length:Int) then (some ((List.replicate (IntKind.i64.wrap (a1-(IntKind.i64.wrap (0-(([]:List Int).length:Int))))).toNat (0:Int)).take (([]:List Int).length:Int).toNat)) else none) else none) else (some ([]:List Int)))
def aV.l0(d:List (List Int))(a:Int)(b:Int):Option Int:=
 if a<(d.length:Int) then (((lAt d a>>=fun c=>if IntKind.i64.wrap (b+(c.length:Int))<0 then (none) else (some (IntKind.i64.wrap (b+(c.length:Int)))):Option Int)>>=fun e=>aV.l0 d (IntKind.i64.wrap (a+1)) e)) else (some b)
partial_fixpoint
def aV.l1(d:List (List Int))(a:List Int)(b:Int):Option (List Int):=
 if b<(d.length:Int) then (lAt d b>>=fun c=>if (a.length+c.length)*8<=big then (aV.l1 d (a++c) (IntKind.i64.wrap (b+1))) else none) else (some a)
partial_fixpoint
def aV.f(a:List (List Int)):Option (List Int):=
 (aV.l0 a 0 0>>=fun b=>di.f b>>=fun c=>(aV.l1 a c 0>>=fun d=>some d))
def eQ.f(a:Int)(a1:aq):Option Bool:=
 ((if a<0 then (some true) else (some (decide (a>=(a1.Up.length:Int)))):Option Bool)>>=fun b=>some b)
def eH.f(a:aq)(a1:List Int):Option Int:=
 bE.f a>>=fun b=>if b=0 then (bB.f a1 (fun c=>eQ.f c a)>>=fun d=>if d=true then (some 9) else (some 0)) else (some b)
def bj.f(a:bp)(a1:Int):Option Bool:=
 cP.f a.l_ a1 a.o_>>=fun b=>some b.1
def aB.l0(b:List aE)(a1:List aE)(a2:aE->aE->Option Bool)(a:Int):Option (Bool⊕Unit):=
 if a<(b.length:Int) then (lAt b a>>=fun y14=>lAt a1 a>>=fun y15=>a2 y14 y15>>=fun y16=>if (!y16)=true then (some (.inl false)) else (aB.l0 b a1 a2 (IntKind.i64.wrap (a+1)))) else (some (.inr ()))
partial_fixpoint
def aB.f(a:List aE)(a1:List aE)(a2:aE->aE->Option Bool):Option Bool:=
 if (a.length:Int)=(a1.length:Int) then ((aB.l0 a a1 a2 0>>=fun o=>match o with|.inl r=>some r|.inr ()=>some true)) else (some false)
def bX.f(a:aE)(a1:aE)(a2:cf)(a3:bp):Option Bool:=
 ((a2.same_>>=fun y16=>y16 a a1>>=fun b=>if b=true then (a2.label_>>=fun c=>c a>>=fun d=>a2.label_>>=fun e=>e a1>>=fun g=>if d=g then (a2.label_>>=fun h=>h a>>=fun i=>bj.f a3 i>>=fun j=>if (!j)=true then (some true) else (a2.seen_>>=fun k=>k a a1>>=fun l=>some l)) else (some false)) else (some false):Option Bool)>>=fun m=>some m)
def bZ.f(a:bp)(a1:cf)(a2:List aE)(a3:List aE):Option Bool:=
 aB.f a2 a3 (fun b c=>bX.f b c a1 a)>>=fun d=>some d
def aC.l0(b:List az)(a1:List az)(a2:az->az->Option Bool)(a:Int):Option (Bool⊕Unit):=
 if a<(b.length:Int) then (lAt b a>>=fun y14=>lAt a1 a>>=fun y15=>a2 y14 y15>>=fun y16=>if (!y16)=true then (some (.inl false)) else (aC.l0 b a1 a2 (IntKind.i64.wrap (a+1)))) else (some (.inr ()))
partial_fixpoint
def aC.f(a:List az)(a1:List az)(a2:az->az->Option Bool):Option Bool:=
 if (a.length:Int)=(a1.length:Int) then ((aC.l0 a a1 a2 0>>=fun o=>match o with|.inl r=>some r|.inr ()=>some true)) else (some false)
def ck.f(a:az)(a1:az)(a2:ci)(a3:bp):Option Bool:=
 ((a2.same_>>=fun y16=>y16 a a1>>=fun b=>if b=true then (a2.label_>>=fun c=>c a>>=fun d=>a2.label_>>=fun e=>e a1>>=fun g=>if d=g then (a2.label_>>=fun h=>h a>>=fun i=>bj.f a3 i>>=fun j=>if (!j)=true then (some true) else (a2.seen_>>=fun k=>k a a1>>=fun l=>some l)) else (some false)) else (some false):Option Bool)>>=fun m=>some m)
def cM.f(a:bp)(a1:ci)(a2:List az)(a3:List az):Option Bool:=
 aC.f a2 a3 (fun b c=>ck.f b c a1 a)>>=fun d=>some d
def aY.l0(b:List az)(a1:List az)(a:Int):Option (Bool⊕Unit):=
 if a<(b.length:Int) then (lAt b a>>=fun c=>lAt a1 a>>=fun d=>if c=d then (aY.l0 b a1 (IntKind.i64.wrap (a+1))) else (some (.inl false))) else (some (.inr ()))
partial_fixpoint
def aY.f(a:List az)(a1:List az):Option Bool:=
 if (a.length:Int)=(a1.length:Int) then ((aY.l0 a a1 0>>=fun o=>match o with|.inl r=>some r|.inr ()=>some true)) else (some false)
def dt.f(a:az)(a1:bp):Option Bool:=
 bj.f a1 a.L>>=fun b=>some (!b)
def aF.l0(a1:az->Option Bool)(a:List az)(b:Int)(c:Int):Option ((List az)×Int):=
 if c<(a.length:Int) then (((lAt a c>>=fun d=>a1 d>>=fun e=>if (!e)=true then (lAt a b>>=fun h=>some (a.set b.toNat d,IntKind.i64.wrap (b+1))) else (some (a,b)):Option ((List az)×Int))>>=fun o=>match o with|(f,g)=>aF.l0 a1 f g (IntKind.i64.wrap (c+1)))) else (some (a,b))
partial_fixpoint
def aF.f(c:List az)(a1:az->Option Bool):Option (List az):=
 aK.f c a1>>=fun d=>if d=(-1) then (some c) else ((aF.l0 a1 c d (IntKind.i64.wrap (d+1))>>=fun o=>match o with|(b,a)=>if (0:Int)<=a/\a<=(b.length:Int) then (if (0:Int)<=a/\a<=((b.take a.toNat++List.replicate (b.length-a.toNat) ((⟨0,0⟩:az):az)).length:Int) then (some ((b.take a.toNat++List.replicate (b.length-a.toNat) ((⟨0,0⟩:az):az)).take a.toNat)) else none) else none))
def eE.f(b:bp)(a1:List az)(a2:List az):Option Bool:=
 bi.f a1>>=fun c=>aF.f c (fun a=>dt.f a b)>>=fun d=>bi.f a2>>=fun e=>aF.f e (fun a=>dt.f a b)>>=fun g=>aY.f d g>>=fun h=>some h
def aD.l0(b:List av)(a1:List av)(a2:av->av->Option Bool)(a:Int):Option (Bool⊕Unit):=
 if a<(b.length:Int) then (lAt b a>>=fun y14=>lAt a1 a>>=fun y15=>a2 y14 y15>>=fun y16=>if (!y16)=true then (some (.inl false)) else (aD.l0 b a1 a2 (IntKind.i64.wrap (a+1)))) else (some (.inr ()))
partial_fixpoint
def aD.f(a:List av)(a1:List av)(a2:av->av->Option Bool):Option Bool:=
 if (a.length:Int)=(a1.length:Int) then ((aD.l0 a a1 a2 0>>=fun o=>match o with|.inl r=>some r|.inr ()=>some true)) else (some false)
def cq.f(a:av)(a1:av)(a2:cj)(a3:bp):Option Bool:=
 ((a2.same_>>=fun y16=>y16 a a1>>=fun b=>if b=true then (a2.label_>>=fun c=>c a>>=fun d=>a2.label_>>=fun e=>e a1>>=fun g=>if d=g then (a2.label_>>=fun h=>h a>>=fun i=>bj.f a3 i>>=fun j=>if (!j)=true then (some true) else (a2.seen_>>=fun k=>k a a1>>=fun l=>some l)) else (some false)) else (some false):Option Bool)>>=fun m=>some m)
def ct.f(a:bp)(a1:cj)(a2:List av)(a3:List av):Option Bool:=
 aD.f a2 a3 (fun b c=>cq.f b c a1 a)>>=fun d=>some d
def cO.l0(b:bp)(a1:List av)(a:Int):Option ((List av)⊕Unit):=
 if a>=0 then (((lAt a1 a>>=fun c=>if c.Ret=true then (lAt a1 a>>=fun d=>bj.f b d.L>>=fun e=>some e) else (some false):Option Bool)>>=fun g=>if g=true then (if (0:Int)<=IntKind.i64.wrap (a+1)/\IntKind.i64.wrap (a+1)<=(a1.length:Int) then (some (.inl (lCut a1 0 (IntKind.i64.wrap (a+1))))) else none) else (cO.l0 b a1 (IntKind.i64.wrap (a-1))))) else (some (.inr ()))
partial_fixpoint
def cO.f(a:bp)(a1:List av):Option (List av):=
 (cO.l0 a a1 (IntKind.i64.wrap ((a1.length:Int)-1))>>=fun o=>match o with|.inl r=>some r|.inr ()=>some ([]:List av))
def dz.f(a:aq)(a1:Int)(a2:ah)(a3:ah):Option (Bool×Int):=
 cy.f>>=fun u=>aS.f u ([a2.Code,a3.Code]:List (List aE))>>=fun v=>dI.f>>=fun w=>aQ.f w ([a2.Mem,a3.Mem,a2.Out,a3.Out]:List (List az))>>=fun x=>dE.f>>=fun y=>aT.f y ([a2.Stack,a3.Stack]:List (List av))>>=fun z=>aV.f ([([a1,a2.Pc.L,a3.Pc.L]:List Int),v,x,z]:List (List Int))>>=fun A=>eH.f a A>>=fun c=>if c=0 then (((cy.f>>=fun d=>bZ.f (⟨a,a1⟩:bp) d a2.Code a3.Code>>=fun e=>if (!e)=true then (some true) else (dI.f>>=fun g=>cM.f (⟨a,a1⟩:bp) g a2.Mem a3.Mem>>=fun h=>if (!h)=true then (some true) else (eE.f (⟨a,a1⟩:bp) a2.Out a3.Out>>=fun i=>some (!i))):Option Bool)>>=fun j=>if j=true then (some (false,0)) else (bj.f (⟨a,a1⟩:bp) a2.Pc.L>>=fun b=>bj.f (⟨a,a1⟩:bp) a3.Pc.L>>=fun k=>if b=k then (if b=true then (((if a2.Pc=a3.Pc then (dE.f>>=fun l=>ct.f (⟨a,a1⟩:bp) l a2.Stack a3.Stack>>=fun m=>some (m,0)) else (some (false,0)):Option (Bool×Int))>>=fun o=>match o with|(n,p)=>some (n,p))) else (dE.f>>=fun q=>cO.f (⟨a,a1⟩:bp) a2.Stack>>=fun r=>cO.f (⟨a,a1⟩:bp) a3.Stack>>=fun s=>ct.f (⟨a,a1⟩:bp) q r s>>=fun t=>some (t,0))) else (some (false,0))))) else (some (false,c))
def b8.f(a:bP)(a1:ah)(a2:ah):Option Int:=
 dz.f a.l_ a.o_ a1 a2>>=fun b=>if b.1=true then (some 0) else (some 1)
def cT.f(a:bP):Option Int:=
 cd.f a.l_ a.t_ a.a_ a.fuel_>>=fun b=>cd.f a.l_ a.t_ a.b_ a.fuel_>>=fun c=>((if b.2.1=1 then (if c.2.1=1 then (bz.f a b.1>>=fun d=>if (!d)=true then (some true) else (bz.f a c.1>>=fun e=>some (!e))) else (some true)) else (some true):Option Bool)>>=fun g=>if g=true then (some 2) else (b8.f a b.1 c.1>>=fun y15=>some y15))
def fP.y0(a:Int×(List ah))(b:ah)(c:Int):Option (Bool×((Int×(List ah))×Nat)):=
 if (a.2.length+([b]:List ah).length)*112<=big then (some (true,((c,a.2++([b]:List ah)),0))) else none
def fP.f(c:aq)(a1:bw)(a2:ah)(a3:Int):Option ((List ah)×Int×Int):=
 ee.f c a1 a2 a3>>=fun d=>if d=0 then (dY.f c a1 a2 a3>>=fun b=>(bq.f (yOf (fP.y0)) ((0,([]:List ah)),0) b.1 b.2.1 b.2.2.1 b.2.2.2>>=fun a=>if a.2=0 then (some (a.1.2,a.1.1,0)) else none)) else (some (([]:List ah),0,d))
def aM.l0(b:List ah)(a1:ah->Option Bool)(a:Int):Option (Int⊕Unit):=
 if a<(b.length:Int) then (lAt b a>>=fun c=>a1 c>>=fun d=>if d=true then (some (.inl a)) else (aM.l0 b a1 (IntKind.i64.wrap (a+1)))) else (some (.inr ()))
partial_fixpoint
def aM.f(a:List ah)(a1:ah->Option Bool):Option Int:=
 (aM.l0 a a1 0>>=fun o=>match o with|.inl r=>some r|.inr ()=>some (-1))
def bR.y0(a:Int×(List ah))(b:ah)(c:Int):Option (Bool×((Int×(List ah))×Nat)):=
 if (a.2.length+([b]:List ah).length)*112<=big then (some (true,((c,a.2++([b]:List ah)),0))) else none
def bR.f(c:aq)(a1:bw)(a2:ah)(a3:Int):Option ((List ah)×Int×Int):=
 ee.f c a1 a2 a3>>=fun d=>if d=0 then (dY.f c a1 a2 a3>>=fun b=>(bq.f (yOf (bR.y0)) ((0,([]:List ah)),0) b.1 b.2.1 b.2.2.1 b.2.2.2>>=fun a=>if a.2=0 then (some (a.1.2,a.1.1,0)) else none)) else (some (([]:List ah),0,d))
def cW.f(a:ah)(a1:bP):Option Bool:=
 bz.f a1 a>>=fun b=>some (!b)
def aG.l0(a1:ah->Option Bool)(a:List ah)(b:Int)(c:Int):Option ((List ah)×Int):=
 if c<(a.length:Int) then (((lAt a c>>=fun d=>a1 d>>=fun e=>if (!e)=true then (lAt a b>>=fun h=>some (a.set b.toNat d,IntKind.i64.wrap (b+1))) else (some (a,b)):Option ((List ah)×Int))>>=fun o=>match o with|(f,g)=>aG.l0 a1 f g (IntKind.i64.wrap (c+1)))) else (some (a,b))
partial_fixpoint
def aG.f(c:List ah)(a1:ah->Option Bool):Option (List ah):=
 aM.f c a1>>=fun d=>if d=(-1) then (some c) else ((aG.l0 a1 c d (IntKind.i64.wrap (d+1))>>=fun o=>match o with|(b,a)=>if (0:Int)<=a/\a<=(b.length:Int) then (if (0:Int)<=a/\a<=((b.take a.toNat++List.replicate (b.length-a.toNat) ((⟨(⟨0,0⟩:az),[],[],[],[]⟩:ah):ah)).length:Int) then (some ((b.take a.toNat++List.replicate (b.length-a.toNat) ((⟨(⟨0,0⟩:az),[],[],[],[]⟩:ah):ah)).take a.toNat)) else none) else none))
def cJ.f(a:bP)(a1:ah):Option (List ah):=
 bR.f a.l_ a.t_ a1 a.fuel_>>=fun b=>aG.f b.1 (fun c=>cW.f c a)>>=fun d=>some d
def bv.l0(d:bP)(b:List ah)(c:List ah)(a:Int):Option (Int⊕Unit):=
 if a<(c.length:Int) then (lAt c a>>=fun e=>((if a<(b.length:Int) then (lAt b a>>=fun g=>b8.f d e g>>=fun h=>some (decide (h=1))) else (some false):Option Bool)>>=fun i=>if i=true then (some (.inl 1)) else (bv.l0 d b c (IntKind.i64.wrap (a+1))))) else (some (.inr ()))
partial_fixpoint
def bv.f(a:bP):Option Int:=
 cJ.f a a.b_>>=fun b=>cJ.f a a.a_>>=fun c=>(bv.l0 a b c 0>>=fun o=>match o with|.inl r=>some r|.inr ()=>some 0)
def cK.f(a:bP):Option Int:=
 df.f a.l_ a.t_ a.a_>>=fun b=>df.f a.l_ a.t_ a.b_>>=fun c=>if b.2.1=0 then (((bz.f a a.a_>>=fun k=>if (!k)=true then (bz.f a b.1>>=fun d=>some (!d)) else (some false):Option Bool)>>=fun l=>if l=true then (b8.f a a.a_ b.1>>=fun e=>some e) else (((if c.2.1=0 then (bz.f a a.a_>>=fun g=>if (!g)=true then (bz.f a c.1>>=fun h=>some (!h)) else (some false)) else (some true):Option Bool)>>=fun i=>if i=true then (some 2) else (b8.f a b.1 c.1>>=fun j=>some j))))) else (some 2)
def eT.f:Option (List (Int×(Option (bP->Option Int)))):=
 some ([(0,(some cT.f)),(1,(some bv.f)),(2,(some cK.f))]:List (Int×(Option (bP->Option Int))))
def bL.l0(e:aq)(a1:bw)(a4:Int)(b:ah)(c:ah)(d:Int):Option ((Int×Int)⊕Unit):=
 if d<(([b,c]:List ah).length:Int) then (lAt ([b,c]:List ah) d>>=fun g=>cd.f e a1 g a4>>=fun a=>if a.2.2=0 then (bL.l0 e a1 a4 b c (IntKind.i64.wrap (d+1))) else (some (.inl (0,a.2.2)))) else (some (.inr ()))
partial_fixpoint
def bL.f(a:aq)(a1:bw)(a2:Int)(a3:Int)(a4:Int)(b:ah)(c:ah):Option (Int×Int):=
 (bL.l0 a a1 a4 b c 0>>=fun o=>match o with|.inl r=>some r|.inr ()=>eT.f>>=fun y14=>if (!((mGet y14 none a2).2))=true then (some (0,1)) else (dz.f a a3 b c>>=fun y16=>((if y16.2=0 then (some (!y16.1)) else (some true):Option Bool)>>=fun d=>if d=true then (some (0,9)) else ((mGet y14 none a2).1>>=fun e=>e (⟨a,a1,a3,a4,b,c⟩:bP)>>=fun g=>some (g,0)))))
def eL.f:Option (List aO):=
 some ([(⟨([1]:List Int),([6]:List Int),([8]:List Int)⟩:aO),(⟨([1]:List Int),([9]:List Int),([8]:List Int)⟩:aO),(⟨([1]:List Int),([6]:List Int),([8]:List Int)⟩:aO),(⟨([1]:List Int),([9,10,12]:List Int),([8]:List Int)⟩:aO),(⟨([1]:List Int),([9,10,12]:List Int),([8]:List Int)⟩:aO),(⟨([1]:List Int),([9,10,12]:List Int),([8]:List Int)⟩:aO),(⟨([9,8,12,11,5]:List Int),([9,10,12,8,12]:List Int),([8]:List Int)⟩:aO),(⟨([1]:List Int),([6]:List Int),([9,8,12]:List Int)⟩:aO),(⟨([1]:List Int),([6]:List Int),([9,8,12]:List Int)⟩:aO),(⟨([1]:List Int),([6]:List Int),([9,8,12]:List Int)⟩:aO),(⟨([1]:List Int),([9,8,12]:List Int),([10]:List Int)⟩:aO),(⟨([1]:List Int),([9,8,12]:List Int),([8]:List Int)⟩:aO),(⟨([1]:List Int),([6]:List Int),([8]:List Int)⟩:aO)]:List aO)
def reticentlaw20_alive.f:Option Bool:=
 eL.f>>=fun a=>if (a.length:Int)=13 then (lAt a 1>>=fun b=>bL.f (⟨([([97]:Str),([98]:Str)]:List Str),([3,2]:List Int)⟩:aq) (⟨a.set (1:Int).toNat (⟨b.May,([6]:List Int),b.Pc⟩:aO)⟩:bw) 2 0 5 (⟨⟨0,0⟩,([(⟨1,1,1⟩:aE)]:List aE),[],[],[]⟩:ah) (⟨⟨0,0⟩,([(⟨1,2,1⟩:aE)]:List aE),[],[],[]⟩:ah)>>=fun c=>fl.f>>=fun g=>bL.f (⟨([([97]:Str),([98]:Str)]:List Str),([3,2]:List Int)⟩:aq) g 2 0 5 (⟨⟨0,0⟩,([(⟨1,1,1⟩:aE)]:List aE),[],[],[]⟩:ah) (⟨⟨0,0⟩,([(⟨1,2,1⟩:aE)]:List aE),[],[],[]⟩:ah)>>=fun d=>((if c.2=0 then (if d.2=0 then (if c.1=1 then (some (decide (d.1=0))) else (some false)) else (some false)) else (some false):Option Bool)>>=fun e=>some e)) else (some false)
def dm.f(l:aq)(a1:bw)(a2:Int)(a3:Int)(a4:Int)(m:ah)(n:ah):Option Bool:=
 cu.f l>>=fun b=>ca.f a1>>=fun c=>dn.f m>>=fun a=>dn.f n>>=fun d=>dg.f b>>=fun e=>if e.2=0 then (bL.f b c ((IntKind.i64.wrap ((a2.tmod 3)+3)).tmod 3) e.1 a4 a a>>=fun g=>((if g.2=0 then (some (decide (g.1=1))) else (some false):Option Bool)>>=fun o=>if o=true then (some false) else (if (IntKind.i64.wrap ((a2.tmod 3)+3)).tmod 3=2 then (reticentlaw20_alive.f>>=fun h=>some h) else (bL.f b c ((IntKind.i64.wrap ((a2.tmod 3)+3)).tmod 3) a3 a4 a a>>=fun y14=>bL.f b c ((IntKind.i64.wrap ((a2.tmod 3)+3)).tmod 3) a3 a4 a d>>=fun y15=>bL.f b c ((IntKind.i64.wrap ((a2.tmod 3)+3)).tmod 3) a3 a4 d a>>=fun y16=>((reticentlaw20_alive.f>>=fun i=>if i=true then (if y14.2=0 then (if y14.1=1 then (some false) else (if (decide (y15.2=0))=(decide (y16.2=0)) then (some (decide (y15.1=y16.1))) else (some false))) else (if (decide (y15.2=0))=(decide (y16.2=0)) then (some (decide (y15.1=y16.1))) else (some false))) else (some false):Option Bool)>>=fun j=>some j))))) else (reticentlaw20_alive.f>>=fun k=>some k)
end Go.Proofs.YtmjcpkmongafnaaGreatDoor.TT
