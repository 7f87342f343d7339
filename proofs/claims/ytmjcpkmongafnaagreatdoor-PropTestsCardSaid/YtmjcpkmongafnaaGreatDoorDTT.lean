import Derived.Test.YtmjcpkmongafnaaGreatDoorAb38
import Derived.Test.YtmjcpkmongafnaaGreatDoorProg
set_option linter.unusedVariables false
namespace Go.Proofs.YtmjcpkmongafnaaGreatDoor.TT
open Go Go.Proofs.YtmjcpkmongafnaaGreatDoor.Ab
structure az where
 Names:List Str
 Up:List Int
structure aW where
 May:List Int
 Res:List Int
 Pc:List Int
structure ct where
 Rows:List aW
structure aG where
 V:Int
 L:Int
 deriving DecidableEq
structure aI where
 Op:Int
 N:Int
 L:Int
structure aF where
 Ret:Bool
 V:Int
 L:Int
structure al where
 Pc:aG
 Code:List aI
 Mem:List aG
 Stack:List aF
 Out:List aG
structure S202 where
 x0_:Int
 x1_:Int
 x2_:Int
structure aE where
 l_:az
 s_:al
 x_:aI
 a_:aF
 b_:aF
 r_:aF
 below_:Int
 one_:S202
inductive If221 where
 |nil
 |c218 (x:Bool)
 |c227 (x:Int)
def vIf221:If221->Option (TypeId×Sig)
 |.nil=>none
 |.c218 x=>some (218,kB.sig x)
 |.c227 x=>some (227,(kI .i64).sig x)
def fW:If221->Bool×Bool
 |.c218 x=>(x,true)
 |_=>(false,false)
theorem jO:AsOk vIf221 218 kB false fW:=fun x=>by
 cases x<;>simp[vIf221,fW]
def gF:If221->Int×Bool
 |.c227 x=>(x,true)
 |_=>(0,false)
theorem jP:AsOk vIf221 227 (kI .i64) 0 gF:=fun x=>by
 cases x<;>simp[vIf221,gF]
structure bS where
 l_:az
 labels_:List Int
 pile_:List If221
structure ed where
 l_:az
 t_:ct
 o_:Int
 fuel_:Int
 a_:al
 b_:al
structure eK where
 same_:Option (aI->aI->Option Bool)
 label_:Option (aI->Option Int)
 seen_:Option (aI->aI->Option Bool)
structure eL where
 same_:Option (aG->aG->Option Bool)
 label_:Option (aG->Option Int)
 seen_:Option (aG->aG->Option Bool)
structure eM where
 same_:Option (aF->aF->Option Bool)
 label_:Option (aF->Option Int)
 seen_:Option (aF->aF->Option Bool)
structure bY where
 l_:az
 o_:Int
structure fY where
 I:Int
 E:Int
structure cd where
 L:az
 T:ct
 O:Int
 Fuel:Int
structure aM where
 Is:Bool
 A:aF
 B:aF
 R:aF
 One:Int
 Two:Int
 Three:Int
 Below:Int
structure dj where
 Is:Bool
 A:Int
 From:Int
structure bB where
 S:al
 What:Int
structure dU where
 L:List al
 What:Int
def ks0:Str:=[0,1,1,2,1,2,2,3,1,2,2,3,2,3,3,4,1,2,2,3,2,3,3,4,2,3,3,4,3,4,4,5,1,2,2,3,2,3,3,4,2,3,3,4,3,4,4,5,2,3,3,4,3,4,4,5,3,4,4,5,4,5,5,6,1,2,2,3,2,3,3,4,2,3,3,4,3,4,4,5,2,3,3,4,3,4,4,5,3,4,4,5,4,5,5,6,2,3,3,4,3,4,4,5,3,4,4,5,4,5,5,6,3,4,4,5,4,5,5,6,4,5,5,6,5,6,6,7,1,2,2,3,2,3,3,4,2,3,3,4,3,4,4,5,2,3,3,4,3,4,4,5,3,4,4,5,4,5,5,6,2,3,3,4,3,4,4,5,3,4,4,5,4,5,5,6,3,4,4,5,4,5,5,6,4,5,5,6,5,6,6,7,2,3,3,4,3,4,4,5,3,4,4,5,4,5,5,6,3,4,4,5,4,5,5,6,4,5,5,6,5,6,6,7,3,4,4,5,4,5,5,6,4,5,5,6,5,6,6,7,4,5,5,6,5,6,6,7,5,6,6,7,6,7,7,8]
def aC:List (Fld az):=[⟨(kL kS),az.Names⟩,⟨(kL (kI .u32)),az.Up⟩]
def bj:List (Fld aW):=[⟨(kL (kI .i64)),aW.May⟩,⟨(kL (kI .i64)),aW.Res⟩,⟨(kL (kI .i64)),aW.Pc⟩]
def bn:List (Fld ct):=[⟨(kL (kR bj)),ct.Rows⟩]
def aB:List (Fld aG):=[⟨(kI .i64),aG.V⟩,⟨(kI .i64),aG.L⟩]
def aH:List (Fld aI):=[⟨(kI .i64),aI.Op⟩,⟨(kI .i64),aI.N⟩,⟨(kI .i64),aI.L⟩]
def aD:List (Fld aF):=[⟨kB,aF.Ret⟩,⟨(kI .i64),aF.V⟩,⟨(kI .i64),aF.L⟩]
def av:List (Fld al):=[⟨(kR aB),al.Pc⟩,⟨(kL (kR aH)),al.Code⟩,⟨(kL (kR aB)),al.Mem⟩,⟨(kL (kR aD)),al.Stack⟩,⟨(kL (kR aB)),al.Out⟩]
def kD:List (Fld S202):=[⟨(kI .i64),S202.x0_⟩,⟨(kI .i64),S202.x1_⟩,⟨(kI .i64),S202.x2_⟩]
def gv:List (Fld aE):=[⟨(kR aC),aE.l_⟩,⟨(kR av),aE.s_⟩,⟨(kR aH),aE.x_⟩,⟨(kR aD),aE.a_⟩,⟨(kR aD),aE.b_⟩,⟨(kR aD),aE.r_⟩,⟨(kI .i64),aE.below_⟩,⟨(kR kD),aE.one_⟩]
def f_judge_judge:List (Fld bS):=[⟨(kR aC),bS.l_⟩,⟨(kL (kI .i64)),bS.labels_⟩,⟨(kL (kF vIf221)),bS.pile_⟩]
def cR:List (Fld ed):=[⟨(kR aC),ed.l_⟩,⟨(kR bn),ed.t_⟩,⟨(kI .i64),ed.o_⟩,⟨(kI .i64),ed.fuel_⟩,⟨(kR av),ed.a_⟩,⟨(kR av),ed.b_⟩]
noncomputable def dX:List (Fld eK):=[⟨(kFn Tryz.prog (rl2 (kR aH) (kR aH) kB)),eK.same_⟩,⟨(kFn Tryz.prog (rl1 (kR aH) (kI .i64))),eK.label_⟩,⟨(kFn Tryz.prog (rl2 (kR aH) (kR aH) kB)),eK.seen_⟩]
noncomputable def dY:List (Fld eL):=[⟨(kFn Tryz.prog (rl2 (kR aB) (kR aB) kB)),eL.same_⟩,⟨(kFn Tryz.prog (rl1 (kR aB) (kI .i64))),eL.label_⟩,⟨(kFn Tryz.prog (rl2 (kR aB) (kR aB) kB)),eL.seen_⟩]
noncomputable def dZ:List (Fld eM):=[⟨(kFn Tryz.prog (rl2 (kR aD) (kR aD) kB)),eM.same_⟩,⟨(kFn Tryz.prog (rl1 (kR aD) (kI .i64))),eM.label_⟩,⟨(kFn Tryz.prog (rl2 (kR aD) (kR aD) kB)),eM.seen_⟩]
def bX:List (Fld bY):=[⟨(kR aC),bY.l_⟩,⟨(kI .i64),bY.o_⟩]
def dz:List (Fld fY):=[⟨(kI .i64),fY.I⟩,⟨(kI .i64),fY.E⟩]
def bM:List (Fld cd):=[⟨(kR aC),cd.L⟩,⟨(kR bn),cd.T⟩,⟨(kI .i64),cd.O⟩,⟨(kI .i64),cd.Fuel⟩]
def bl:List (Fld aM):=[⟨kB,aM.Is⟩,⟨(kR aD),aM.A⟩,⟨(kR aD),aM.B⟩,⟨(kR aD),aM.R⟩,⟨(kI .i64),aM.One⟩,⟨(kI .i64),aM.Two⟩,⟨(kI .i64),aM.Three⟩,⟨(kI .i64),aM.Below⟩]
def bI:List (Fld dj):=[⟨kB,dj.Is⟩,⟨(kI .i64),dj.A⟩,⟨(kI .i64),dj.From⟩]
def bG:List (Fld bB):=[⟨(kR av),bB.S⟩,⟨(kI .i64),bB.What⟩]
def de:List (Fld dU):=[⟨(kL (kR av)),dU.L⟩,⟨(kI .i64),dU.What⟩]
def gG:List (Fld az):=[⟨(kN Str),az.Names⟩,⟨(kL (kI .u32)),az.Up⟩]
def gf:List (Fld bS):=[⟨(kR aC),bS.l_⟩,⟨(kL (kI .i64)),bS.labels_⟩,⟨(kN If221),bS.pile_⟩]
def gg:List (Fld dU):=[⟨(kN al),dU.L⟩,⟨(kI .i64),dU.What⟩]
def dS.l0(b:az)(c:List Str)(d:Int):Option (List Str):=
 if d<((lCut b.Names 0 (if 10<(b.Names.length:Int) then 10 else (b.Names.length:Int))).length:Int) then (lAt (lCut b.Names 0 (if 10<(b.Names.length:Int) then 10 else (b.Names.length:Int))) d>>=fun a=>if (0:Int)<=(if 15<(a.length:Int) then 15 else (a.length:Int))/\(if 15<(a.length:Int) then 15 else (a.length:Int))<=(a.length:Int) then (if (c.length+([sCut a 0 (if 15<(a.length:Int) then 15 else (a.length:Int))]:List Str).length)*16<=big then (dS.l0 b (c++([sCut a 0 (if 15<(a.length:Int) then 15 else (a.length:Int))]:List Str)) (IntKind.i64.wrap (d+1))) else none) else none) else (some c)
partial_fixpoint
def dS.f(a:az):Option az:=
 if (0:Int)<=(if 10<(a.Up.length:Int) then 10 else (a.Up.length:Int))/\(if 10<(a.Up.length:Int) then 10 else (a.Up.length:Int))<=(a.Up.length:Int) then (if (0:Int)<=(if 10<(a.Names.length:Int) then 10 else (a.Names.length:Int))/\(if 10<(a.Names.length:Int) then 10 else (a.Names.length:Int))<=(a.Names.length:Int) then ((dS.l0 a ([]:List Str) 0>>=fun b=>some (⟨b,lCut a.Up 0 (if 10<(a.Up.length:Int) then 10 else (a.Up.length:Int))⟩:az))) else none) else none
def dE.l0(b:ct)(c:List aW)(d:Int):Option (List aW):=
 if d<((lCut b.Rows 0 (if 15<(b.Rows.length:Int) then 15 else (b.Rows.length:Int))).length:Int) then (lAt (lCut b.Rows 0 (if 15<(b.Rows.length:Int) then 15 else (b.Rows.length:Int))) d>>=fun a=>if (0:Int)<=(if 45<(a.May.length:Int) then 45 else (a.May.length:Int))/\(if 45<(a.May.length:Int) then 45 else (a.May.length:Int))<=(a.May.length:Int) then (if (0:Int)<=(if 45<(a.Res.length:Int) then 45 else (a.Res.length:Int))/\(if 45<(a.Res.length:Int) then 45 else (a.Res.length:Int))<=(a.Res.length:Int) then (if (0:Int)<=(if 45<(a.Pc.length:Int) then 45 else (a.Pc.length:Int))/\(if 45<(a.Pc.length:Int) then 45 else (a.Pc.length:Int))<=(a.Pc.length:Int) then (if (c.length+([(⟨lCut a.May 0 (if 45<(a.May.length:Int) then 45 else (a.May.length:Int)),lCut a.Res 0 (if 45<(a.Res.length:Int) then 45 else (a.Res.length:Int)),lCut a.Pc 0 (if 45<(a.Pc.length:Int) then 45 else (a.Pc.length:Int))⟩:aW)]:List aW).length)*72<=big then (dE.l0 b (c++([(⟨lCut a.May 0 (if 45<(a.May.length:Int) then 45 else (a.May.length:Int)),lCut a.Res 0 (if 45<(a.Res.length:Int) then 45 else (a.Res.length:Int)),lCut a.Pc 0 (if 45<(a.Pc.length:Int) then 45 else (a.Pc.length:Int))⟩:aW)]:List aW)) (IntKind.i64.wrap (d+1))) else none) else none) else none) else none) else (some c)
partial_fixpoint
def dE.f(a:ct):Option ct:=
 if (0:Int)<=(if 15<(a.Rows.length:Int) then 15 else (a.Rows.length:Int))/\(if 15<(a.Rows.length:Int) then 15 else (a.Rows.length:Int))<=(a.Rows.length:Int) then ((dE.l0 a ([]:List aW) 0>>=fun b=>some (⟨b⟩:ct))) else none
def fk.f(a:al):Option al:=
 if (0:Int)<=(if 15<(a.Code.length:Int) then 15 else (a.Code.length:Int))/\(if 15<(a.Code.length:Int) then 15 else (a.Code.length:Int))<=(a.Code.length:Int) then (if (0:Int)<=(if 15<(a.Mem.length:Int) then 15 else (a.Mem.length:Int))/\(if 15<(a.Mem.length:Int) then 15 else (a.Mem.length:Int))<=(a.Mem.length:Int) then (if (0:Int)<=(if 15<(a.Stack.length:Int) then 15 else (a.Stack.length:Int))/\(if 15<(a.Stack.length:Int) then 15 else (a.Stack.length:Int))<=(a.Stack.length:Int) then (if (0:Int)<=(if 15<(a.Out.length:Int) then 15 else (a.Out.length:Int))/\(if 15<(a.Out.length:Int) then 15 else (a.Out.length:Int))<=(a.Out.length:Int) then (some (⟨a.Pc,lCut a.Code 0 (if 15<(a.Code.length:Int) then 15 else (a.Code.length:Int)),lCut a.Mem 0 (if 15<(a.Mem.length:Int) then 15 else (a.Mem.length:Int)),lCut a.Stack 0 (if 15<(a.Stack.length:Int) then 15 else (a.Stack.length:Int)),lCut a.Out 0 (if 15<(a.Out.length:Int) then 15 else (a.Out.length:Int))⟩:al)) else none) else none) else none) else none
def cU.l0(b:Str)(a:Int):Option (Bool⊕Unit):=
 if a<(b.length:Int) then (((if (0:Int)<=a/\a<(b.length:Int) then (if sAt b a<97 then (some true) else (if (0:Int)<=a/\a<(b.length:Int) then (some (decide (sAt b a>122))) else none)) else none:Option Bool)>>=fun c=>if c=true then (some (.inl false)) else (cU.l0 b (IntKind.i64.wrap (a+1))))) else (some (.inr ()))
partial_fixpoint
def cU.f(a:Str):Option Bool:=
 (cU.l0 a 0>>=fun o=>match o with|.inl r=>some r|.inr ()=>((if a=([]:Str) then (some false) else (some (decide ((a.length:Int)<=12))):Option Bool)>>=fun b=>some b))
def bD.l0(b:List Str)(a1:Str)(a:Int):Option (Int⊕Unit):=
 if a<(b.length:Int) then (lAt b a>>=fun c=>if a1=c then (some (.inl a)) else (bD.l0 b a1 (IntKind.i64.wrap (a+1)))) else (some (.inr ()))
partial_fixpoint
def bD.f(a:List Str)(a1:Str):Option Int:=
 (bD.l0 a a1 0>>=fun o=>match o with|.inl r=>some r|.inr ()=>some (-1))
def cG.f(a:List Str)(a1:Str):Option Bool:=
 bD.f a a1>>=fun b=>some (decide (b>=0))
def dx.l0(b:az)(a:Int):Option (Bool⊕Unit):=
 if a<(b.Names.length:Int) then (lAt b.Names a>>=fun c=>((cU.f c>>=fun d=>if (!d)=true then (some true) else (if (0:Int)<=a/\a<=(b.Names.length:Int) then (cG.f (lCut b.Names 0 a) c>>=fun e=>if e=true then (some true) else (lAt b.Up a>>=fun g=>if ¬(b.Up.length:Int)<0 then (some (!decide (bShr .u32 g (b.Up.length:Int)=0))) else none)) else none):Option Bool)>>=fun h=>if h=true then (some (.inl false)) else (dx.l0 b (IntKind.i64.wrap (a+1))))) else (some (.inr ()))
partial_fixpoint
def dx.f(a:az):Option Bool:=
 ((if (a.Up.length:Int)<1 then (some true) else (if (a.Up.length:Int)>8 then (some true) else (some (!decide ((a.Names.length:Int)=(a.Up.length:Int))))):Option Bool)>>=fun b=>if b=true then (some false) else ((dx.l0 a 0>>=fun o=>match o with|.inl r=>some r|.inr ()=>some true)))
def bv.l3{σ:Type}(a_y:σ->Int->Int->Option (Bool×σ))(a1:Int)(c:Int)(d:σ)(a:Int):Option (σ⊕σ):=
 if a<a1 then (a_y d c a>>=fun b=>if (!b.1)=true then (some (.inl b.2)) else (bv.l3 a_y a1 c b.2 (IntKind.i64.wrap (a+1)))) else (some (.inr d))
partial_fixpoint
def bv.l2{σ:Type}(a_y:σ->Int->Int->Option (Bool×σ))(a1:Int)(b:σ)(a:Int):Option (σ⊕σ):=
 if a<a1 then ((bv.l3 a_y a1 a b 0>>=fun o=>match o with|.inl r=>some (.inl r)|.inr c=>bv.l2 a_y a1 c (IntKind.i64.wrap (a+1)))) else (some (.inr b))
partial_fixpoint
def bv.f{σ:Type}(a_y:σ->Int->Int->Option (Bool×σ))(a_s:σ)(a1:Int):Option σ:=
 (bv.l2 a_y a1 a_s 0>>=fun o=>match o with|.inl r=>some r|.inr a=>some a)
def f9.f(a:Int):Option Int:=
 some a
def ef.f(a:az)(a1:Int)(a2:Int):Option Bool:=
 lAt a.Up a1>>=fun b=>if ¬a2<0 then (some (decide (bAnd .u32 (bShr .u32 b a2) 1=1))) else none
def eh.y0(c:az)(m:Unit)(a:Int)(b:Int):Option (Bool×((Unit)×Nat)):=
 ((if a=b then (ef.f c a b>>=fun d=>if (!d)=true then (some true) else (some false)) else (ef.f c a b>>=fun e=>if e=true then (ef.f c b a>>=fun g=>some g) else (some false)):Option Bool)>>=fun h=>if h=true then (some (false,((),1))) else (((ef.f c a b>>=fun i=>if i=true then (lAt c.Up b>>=fun j=>lAt c.Up a>>=fun k=>some (!decide (bAndNot .u32 j k=0))) else (some false):Option Bool)>>=fun l=>if l=true then (some (false,((),1))) else (some (true,((),0))))))
def eh.f(b:az):Option Bool:=
 f9.f (b.Up.length:Int)>>=fun c=>(bv.f (yOf (eh.y0 b)) ((),0) c>>=fun a=>if a.2=0 then (some true) else if a.2=1 then (some false) else none)
def aS.l0(b:List Int)(a1:Int->Option Bool)(a:Int):Option (Int⊕Unit):=
 if a<(b.length:Int) then (lAt b a>>=fun c=>a1 c>>=fun d=>if d=true then (some (.inl a)) else (aS.l0 b a1 (IntKind.i64.wrap (a+1)))) else (some (.inr ()))
partial_fixpoint
def aS.f(a:List Int)(a1:Int->Option Bool):Option Int:=
 (aS.l0 a a1 0>>=fun o=>match o with|.inl r=>some r|.inr ()=>some (-1))
def gw.f(a:Int)(a1:Int):Option Bool:=
 some (decide (a=a1))
def fo.f(a:az)(a1:Int)(a2:Int):Option Int:=
 lAt a.Up a1>>=fun b=>lAt a.Up a2>>=fun c=>aS.f a.Up (fun d=>gw.f d (bAnd .u32 b c))>>=fun e=>some e
def da.l0(b:az)(a1:Int)(a:Int)(c:Int):Option Int:=
 if a<(b.Up.length:Int) then (lAt b.Up a>>=fun d=>if ¬a1<0 then (if ¬a<0 then (da.l0 b a1 (IntKind.i64.wrap (a+1)) (bOr .u32 c (bShl .u32 (bAnd .u32 (bShr .u32 d a1) 1) a))) else none) else none) else (some c)
partial_fixpoint
def da.f(b:az)(a1:Int):Option Int:=
 (da.l0 b a1 0 0>>=fun a=>some a)
def cT.l0(b:az)(c:Int)(d:Int)(a:Int):Option (Int⊕Unit):=
 if a<(b.Up.length:Int) then (da.f b a>>=fun e=>if e=bAnd .u32 c d then (some (.inl a)) else (cT.l0 b c d (IntKind.i64.wrap (a+1)))) else (some (.inr ()))
partial_fixpoint
def cT.f(a:az)(a1:Int)(a2:Int):Option Int:=
 da.f a a1>>=fun b=>da.f a a2>>=fun c=>(cT.l0 a b c 0>>=fun o=>match o with|.inl r=>some r|.inr ()=>some (-1))
def ck.y0(c:az)(d:Int)(a:Int)(b:Int):Option (Bool×((Int)×Nat)):=
 ((fo.f c a b>>=fun e=>if e<0 then (some true) else (cT.f c a b>>=fun g=>some (decide (g<0))):Option Bool)>>=fun h=>if h=true then (some (false,(3,1))) else (some (true,(d,0))))
def ck.f(b:az):Option Int:=
 dx.f b>>=fun c=>if (!c)=true then (some 1) else (eh.f b>>=fun d=>if (!d)=true then (some 2) else (f9.f (b.Up.length:Int)>>=fun e=>(bv.f (yOf (ck.y0 b)) (0,0) e>>=fun a=>if a.2=0 then (some 0) else if a.2=1 then (some a.1) else none)))
def eR.f(a:Bool)(a1:List Bool):Option ((List Bool)×Bool):=
 ((if IntKind.i64.wrap ((a1.length:Int)-1)<1 then (some true) else (lAt a1 (IntKind.i64.wrap ((a1.length:Int)-1))>>=fun b=>if b=a then (lAt a1 (IntKind.i64.wrap ((IntKind.i64.wrap ((a1.length:Int)-1))-1))>>=fun c=>some (!decide (c=a))) else (some true)):Option Bool)>>=fun d=>if d=true then (some (a1,false)) else (if (0:Int)<=IntKind.i64.wrap ((IntKind.i64.wrap ((a1.length:Int)-1))-1)/\IntKind.i64.wrap ((IntKind.i64.wrap ((a1.length:Int)-1))-1)<=(a1.length:Int) then (some (a1.take (IntKind.i64.wrap ((IntKind.i64.wrap ((a1.length:Int)-1))-1)).toNat,true)) else none))
def eF.l0(j:List Int)(a:List Bool)(c:Int):Option ((Bool×Bool)⊕(List Bool)):=
 if c<(j.length:Int) then (((lAt j c>>=fun b=>((if b=1 then (if (a.length+([false]:List Bool).length)*1<=big then (some (a++([false]:List Bool),true)) else none) else (if b=2 then (if (a.length+([false]:List Bool).length)*1<=big then (some (a++([false]:List Bool),true)) else none) else (if b=6 then (if (a.length+([true]:List Bool).length)*1<=big then (some (a++([true]:List Bool),true)) else none) else (if b=7 then (if (a.length+([true]:List Bool).length)*1<=big then (some (a++([true]:List Bool),true)) else none) else (if b=8 then (if (a.length+([true]:List Bool).length)*1<=big then (some (a++([true]:List Bool),true)) else none) else (if b=9 then (if (a.length+([true]:List Bool).length)*1<=big then (some (a++([true]:List Bool),true)) else none) else (if b=10 then (if (a.length+([true]:List Bool).length)*1<=big then (some (a++([true]:List Bool),true)) else none) else (if b=11 then (if (a.length+([true]:List Bool).length)*1<=big then (some (a++([true]:List Bool),true)) else none) else (if b=3 then (eR.f false a>>=fun d=>if (d.1.length+([false]:List Bool).length)*1<=big then (some (d.1++([false]:List Bool),d.2)) else none) else (if b=4 then (eR.f false a>>=fun e=>if (e.1.length+([false]:List Bool).length)*1<=big then (some (e.1++([false]:List Bool),e.2)) else none) else (if b=5 then (eR.f true a>>=fun g=>if (g.1.length+([false]:List Bool).length)*1<=big then (some (g.1++([false]:List Bool),g.2)) else none) else (if b=12 then (eR.f true a>>=fun h=>if (h.1.length+([true]:List Bool).length)*1<=big then (some (h.1++([true]:List Bool),h.2)) else none) else (if b=13 then (eR.f true a>>=fun i=>if (i.1.length+([true]:List Bool).length)*1<=big then (some (i.1++([true]:List Bool),i.2)) else none) else (some (a,false)))))))))))))):Option ((List Bool)×Bool))>>=fun o=>match o with|(k,l)=>if (!l)=true then (some (.inl (false,false))) else (some (.inr k))):Option ((Bool×Bool)⊕(List Bool)))>>=fun o=>match o with|.inl r=>some (.inl r)|.inr m=>eF.l0 j m (IntKind.i64.wrap (c+1)))) else (some (.inr a))
partial_fixpoint
def eF.f(d:List Int):Option (Bool×Bool):=
 (eF.l0 d ([]:List Bool) 0>>=fun o=>match o with|.inl r=>some r|.inr a=>((if (a.length:Int)=1 then (some (decide ((d.length:Int)>40))) else (some true):Option Bool)>>=fun b=>if b=true then (some (false,false)) else (lAt a 0>>=fun c=>some (c,true))))
def eP.f(b:List Int)(a1:Bool):Option Bool:=
 eF.f b>>=fun a=>((if a.2=true then (some (decide (a.1=a1))) else (some false):Option Bool)>>=fun c=>some c)
def f1.f(a:aW):Option Bool:=
 ((eP.f a.May false>>=fun c=>if c=true then (eP.f a.Res true>>=fun d=>if d=true then (eP.f a.Pc true>>=fun b=>some b) else (some false)) else (some false):Option Bool)>>=fun e=>some e)
def eO.l0(d:List Int)(b:Int)(c:Int):Option Int:=
 if b<(d.length:Int) then (((lAt d b>>=fun a=>((if a>=8 then (some (decide (a<=11))) else (some false):Option Bool)>>=fun e=>if e=true then (if ¬IntKind.i64.wrap (a-8)<0 then (some (bOr .u32 c (bShl .u32 1 (IntKind.i64.wrap (a-8))))) else none) else (some c)):Option Int)>>=fun f=>eO.l0 d (IntKind.i64.wrap (b+1)) f)) else (some c)
partial_fixpoint
def eO.f(a:List Int):Option (Int×Int):=
 eF.f a>>=fun c=>if (!c.2)=true then (some (0,1)) else ((eO.l0 a 0 0>>=fun b=>some (b,0)))
def ft.f(c:Int)(a1:List Int):Option Bool:=
 eO.f a1>>=fun a=>((if a.2=0 then (lAt gl0 c>>=fun b=>if ¬IntKind.i64.wrap (b+1)<0 then (some (decide (bShr .u32 a.1 (IntKind.i64.wrap (b+1))=0))) else none) else (some false):Option Bool)>>=fun d=>some d)
def fP.f(a:Int)(a1:aW):Option Bool:=
 ((ft.f a a1.May>>=fun c=>if c=true then (ft.f a a1.Res>>=fun d=>if d=true then (ft.f a a1.Pc>>=fun b=>some b) else (some false)) else (some false):Option Bool)>>=fun e=>some e)
def er.l0(c:ct)(a:Int):Option ((Int×Int)⊕Unit):=
 if a<(c.Rows.length:Int) then (lAt c.Rows a>>=fun b=>f1.f b>>=fun d=>if (!d)=true then (some (.inl (a,1))) else (fP.f a b>>=fun e=>if (!e)=true then (some (.inl (a,7))) else (er.l0 c (IntKind.i64.wrap (a+1))))) else (some (.inr ()))
partial_fixpoint
def er.f(a:ct):Option (Int×Int):=
 if (a.Rows.length:Int)=13 then ((er.l0 a 0>>=fun o=>match o with|.inl r=>some r|.inr ()=>some (0,0))) else (some (0,1))
def fQ.f(a:Int):Option Bool:=
 ((if a>=(-20) then (some (decide (a<=20))) else (some false):Option Bool)>>=fun b=>some b)
def eV.f(a:Int):Option Bool:=
 ((if a>=0 then (some (decide (a<=12))) else (some false):Option Bool)>>=fun b=>some b)
def eY.f(a:Int)(a1:Int)(a2:Int):Option Bool:=
 ((if a>=a1 then (some (decide (a<=a2))) else (some false):Option Bool)>>=fun b=>some b)
def fz.f(a:Int)(a1:Int):Option (Int->Option Bool):=
 some (fun b=>eY.f b a a1)
def ir.f:Option (List (Int×(Option (Int->Option Bool)))):=
 fz.f (-20) 20>>=fun a=>fz.f 0 12>>=fun b=>fz.f 0 3>>=fun c=>fz.f 0 1>>=fun d=>some ([(1,(some a)),(8,(some b)),(9,(some c)),(10,(some d))]:List (Int×(Option (Int->Option Bool))))
def gW.f(g:Int)(a1:aI):Option Bool:=
 ((if a1.Op<0 then (some true) else (some (decide (a1.Op>=13))):Option Bool)>>=fun h=>if h=true then (some false) else (ir.f>>=fun a=>((if ((mGet a none a1.Op).2)=true then ((mGet a none a1.Op).1>>=fun b=>b a1.N>>=fun c=>if (!c)=true then (some true) else (if (!((mGet a none a1.Op).2))=true then (some (!decide (a1.N=0))) else (some false))) else (if (!((mGet a none a1.Op).2))=true then (some (!decide (a1.N=0))) else (some false)):Option Bool)>>=fun d=>if d=true then (some false) else (if a1.Op=1 then (((if a1.L>=0 then (some (decide (a1.L<g))) else (some false):Option Bool)>>=fun e=>some e)) else (some (decide (a1.L=0)))))))
def bb.l0(b:List aI)(a1:aI->Option Bool)(a:Int):Option (Int⊕Unit):=
 if a<(b.length:Int) then (lAt b a>>=fun c=>a1 c>>=fun d=>if d=true then (some (.inl a)) else (bb.l0 b a1 (IntKind.i64.wrap (a+1)))) else (some (.inr ()))
partial_fixpoint
def bb.f(a:List aI)(a1:aI->Option Bool):Option Int:=
 (bb.l0 a a1 0>>=fun o=>match o with|.inl r=>some r|.inr ()=>some (-1))
def cq.f(a:List aI)(a1:aI->Option Bool):Option Bool:=
 bb.f a a1>>=fun b=>some (decide (b>=0))
def f2.f(a:aI)(a1:az):Option Bool:=
 gW.f (a1.Up.length:Int) a>>=fun b=>some (!b)
def fm.f(a:az)(a1:List aI):Option Bool:=
 ((ck.f a>>=fun b=>if b=0 then (if (a1.length:Int)<=12 then (cq.f a1 (fun c=>f2.f c a)>>=fun d=>some (!d)) else (some false)) else (some false):Option Bool)>>=fun e=>some e)
def aV.l0(b:List aG)(a1:aG->Option Bool)(a:Int):Option (Int⊕Unit):=
 if a<(b.length:Int) then (lAt b a>>=fun c=>a1 c>>=fun d=>if d=true then (some (.inl a)) else (aV.l0 b a1 (IntKind.i64.wrap (a+1)))) else (some (.inr ()))
partial_fixpoint
def aV.f(a:List aG)(a1:aG->Option Bool):Option Int:=
 (aV.l0 a a1 0>>=fun o=>match o with|.inl r=>some r|.inr ()=>some (-1))
def bL.f(a:List aG)(a1:aG->Option Bool):Option Bool:=
 aV.f a a1>>=fun b=>some (decide (b>=0))
def bh.l0(b:List aF)(a1:aF->Option Bool)(a:Int):Option (Int⊕Unit):=
 if a<(b.length:Int) then (lAt b a>>=fun c=>a1 c>>=fun d=>if d=true then (some (.inl a)) else (bh.l0 b a1 (IntKind.i64.wrap (a+1)))) else (some (.inr ()))
partial_fixpoint
def bh.f(a:List aF)(a1:aF->Option Bool):Option Int:=
 (bh.l0 a a1 0>>=fun o=>match o with|.inl r=>some r|.inr ()=>some (-1))
def bT.f(a:List aF)(a1:aF->Option Bool):Option Bool:=
 bh.f a a1>>=fun b=>some (decide (b>=0))
def dq.f(a:Int)(a1:az):Option Bool:=
 ((if a>=0 then (some (decide (a<(a1.Up.length:Int)))) else (some false):Option Bool)>>=fun b=>some b)
def fR.f(a:aG)(a1:Option (Int->Option Bool)):Option Bool:=
 ((fQ.f a.V>>=fun b=>if (!b)=true then (some true) else (a1>>=fun c=>c a.L>>=fun d=>some (!d)):Option Bool)>>=fun e=>some e)
def ge.f(a:aF)(a1:Option (Int->Option Bool)):Option Bool:=
 ((a1>>=fun b=>b a.L>>=fun c=>if (!c)=true then (some true) else (if (!a.Ret)=true then (fQ.f a.V>>=fun d=>if (!d)=true then (some true) else (if a.Ret=true then (eV.f a.V>>=fun e=>some (!e)) else (some false))) else (if a.Ret=true then (eV.f a.V>>=fun g=>some (!g)) else (some false))):Option Bool)>>=fun h=>some h)
def fe.f(b:az)(a1:al):Option Bool:=
 ((if (a1.Mem.length:Int)<=6 then (if (a1.Stack.length:Int)<=12 then (some (decide ((a1.Out.length:Int)<=8))) else (some false)) else (some false):Option Bool)>>=fun l=>((fm.f b a1.Code>>=fun c=>if c=true then (eV.f a1.Pc.V>>=fun d=>if d=true then ((some (fun a=>dq.f a b))>>=fun e=>e a1.Pc.L>>=fun g=>if g=true then (if l=true then (bL.f a1.Mem (fun a=>fR.f a (some (fun a=>dq.f a b)))>>=fun h=>if (!h)=true then (bT.f a1.Stack (fun a=>ge.f a (some (fun a=>dq.f a b)))>>=fun i=>if (!i)=true then (bL.f a1.Out (fun a=>fR.f a (some (fun a=>dq.f a b)))>>=fun j=>some (!j)) else (some false)) else (some false)) else (some false)) else (some false)) else (some false)) else (some false):Option Bool)>>=fun k=>some k))
def cc.f(a:Bool):Option (Pn⊕Unit):=
 if (!a)=true then (some (.inl 3)) else (some (.inr ()))
def bq.l0(b:List Int)(a1:Int->Option Bool)(a:Int):Option (Int⊕Unit):=
 if a<(b.length:Int) then (lAt b a>>=fun c=>a1 c>>=fun d=>if d=true then (some (.inl a)) else (bq.l0 b a1 (IntKind.i64.wrap (a+1)))) else (some (.inr ()))
partial_fixpoint
def bq.f(a:List Int)(a1:Int->Option Bool):Option Int:=
 (bq.l0 a a1 0>>=fun o=>match o with|.inl r=>some r|.inr ()=>some (-1))
def ce.f(a:List Int)(a1:Int->Option Bool):Option Bool:=
 bq.f a a1>>=fun b=>some (decide (b>=0))
def fX.f(a:Int)(a1:az):Option Bool:=
 ((if a<0 then (some true) else (some (decide (a>=(a1.Up.length:Int)))):Option Bool)>>=fun b=>some b)
def ee.f(a:az)(a1:List Int):Option Int:=
 ck.f a>>=fun b=>if b=0 then (ce.f a1 (fun c=>fX.f c a)>>=fun d=>if d=true then (some 9) else (some 0)) else (some b)
def bz.l0(b:List Int)(a1:Int)(a:Int):Option (Int⊕Unit):=
 if a<(b.length:Int) then (lAt b a>>=fun c=>if a1=c then (some (.inl a)) else (bz.l0 b a1 (IntKind.i64.wrap (a+1)))) else (some (.inr ()))
partial_fixpoint
def bz.f(a:List Int)(a1:Int):Option Int:=
 (bz.l0 a a1 0>>=fun o=>match o with|.inl r=>some r|.inr ()=>some (-1))
def dI.f(a:az):Option (Int×Int):=
 ee.f a []>>=fun b=>if b=0 then (if ¬(a.Up.length:Int)<0 then (bz.f a.Up (IntKind.u32.wrap ((bShl .u32 1 (a.Up.length:Int))-1))>>=fun c=>some (c,0)) else none) else (some (0,b))
def fu.f(a:aE):Option aE:=
 some a
def gq.f(a:aE):Option aE:=
 some (⟨a.l_,a.s_,a.x_,a.a_,a.b_,a.r_,a.below_,⟨a.x_.L,a.one_.x1_,a.one_.x2_⟩⟩:aE)
def cz.f(a:aE)(a1:Int):Option (Pn⊕(aE×aF)):=
 ((if IntKind.i64.wrap ((IntKind.i64.wrap ((a.s_.Stack.length:Int)-1))-a1)>=0 then (lAt a.s_.Stack (IntKind.i64.wrap ((IntKind.i64.wrap ((a.s_.Stack.length:Int)-1))-a1))>>=fun b=>cc.f (!b.Ret)>>=fun c=>match c with|.inl d=>some (.inl (.inl d))|.inr i=>some (.inr ())) else (cc.f false>>=fun e=>match e with|.inl g=>some (.inl (.inl g))|.inr j=>some (.inr ())):Option ((Pn⊕(aE×aF))⊕Unit))>>=fun o=>match o with|.inl r=>some r|.inr ()=>lAt a.s_.Stack (IntKind.i64.wrap ((IntKind.i64.wrap ((a.s_.Stack.length:Int)-1))-a1))>>=fun h=>some (.inr (a,h)))
def bE.f(b:aE):Option (Pn⊕aE):=
 cz.f b 0>>=fun c=>match c with|.inl d=>some (.inl d)|.inr a=>some (.inr (⟨a.1.l_,a.1.s_,a.1.x_,a.2,a.1.b_,a.1.r_,IntKind.i64.wrap ((a.1.s_.Stack.length:Int)-1),⟨a.2.L,a.1.one_.x1_,a.1.one_.x2_⟩⟩:aE))
def cF.f(b:aE):Option (Pn⊕aE):=
 bE.f b>>=fun c=>match c with|.inl d=>some (.inl d)|.inr e=>cz.f e 1>>=fun z4=>match z4 with|.inl g=>some (.inl g)|.inr a=>some (.inr (⟨a.1.l_,a.1.s_,a.1.x_,a.1.a_,a.2,a.1.r_,IntKind.i64.wrap (a.1.below_-1),⟨a.1.one_.x0_,a.2.L,a.1.one_.x2_⟩⟩:aE))
def cP.f(a:aE):Option (Pn⊕(aE×Int)):=
 ((if a.a_.V>=0 then (cc.f (decide (a.a_.V<(a.s_.Mem.length:Int)))>>=fun z9=>match z9 with|.inl b=>some (.inl (.inl b))|.inr e=>some (.inr ())) else (cc.f false>>=fun c=>match c with|.inl d=>some (.inl (.inl d))|.inr g=>some (.inr ())):Option ((Pn⊕(aE×Int))⊕Unit))>>=fun o=>match o with|.inl r=>some r|.inr ()=>some (.inr (a,a.a_.V)))
def dG.f(b:aE):Option (Pn⊕aE):=
 bE.f b>>=fun c=>match c with|.inl d=>some (.inl d)|.inr e=>cP.f e>>=fun z4=>match z4 with|.inl g=>some (.inl g)|.inr a=>lAt a.1.s_.Mem a.2>>=fun h=>some (.inr (⟨a.1.l_,a.1.s_,a.1.x_,a.1.a_,a.1.b_,a.1.r_,a.1.below_,⟨a.1.one_.x0_,h.L,a.1.one_.x2_⟩⟩:aE))
def dt.f(b:aE):Option (Pn⊕aE):=
 cF.f b>>=fun c=>match c with|.inl d=>some (.inl d)|.inr e=>cP.f e>>=fun z4=>match z4 with|.inl g=>some (.inl g)|.inr a=>lAt a.1.s_.Mem a.2>>=fun h=>some (.inr (⟨a.1.l_,a.1.s_,a.1.x_,a.1.a_,a.1.b_,a.1.r_,a.1.below_,⟨a.1.one_.x0_,a.1.one_.x1_,h.L⟩⟩:aE))
def df.f(g:aE):Option (Pn⊕aE):=
 bE.f g>>=fun h=>match h with|.inl i=>some (.inl i)|.inr a=>((if a.a_.V>=0 then (cc.f (decide (a.a_.V<=12))>>=fun b=>match b with|.inl c=>some (.inl (.inl c))|.inr j=>some (.inr ())) else (cc.f false>>=fun d=>match d with|.inl e=>some (.inl (.inl e))|.inr k=>some (.inr ())):Option ((Pn⊕aE)⊕Unit))>>=fun o=>match o with|.inl r=>some r|.inr ()=>some (.inr a))
def bK.l0(c:aE)(b:aE)(a:Int):Option ((Pn⊕aE)⊕aE):=
 if a<c.x_.N then (cz.f b (IntKind.i64.wrap (1+a))>>=fun d=>match d with|.inl e=>some (.inl (.inl e))|.inr g=>bK.l0 c g.1 (IntKind.i64.wrap (a+1))) else (some (.inr b))
partial_fixpoint
def bK.f(c:aE):Option (Pn⊕aE):=
 df.f c>>=fun d=>match d with|.inl e=>some (.inl e)|.inr a=>(bK.l0 a a 0>>=fun o=>match o with|.inl r=>some r|.inr b=>some (.inr b))
def aY.l0(b:aE)(a:Int):Option Int:=
 ((if a>0 then (lAt b.s_.Stack (IntKind.i64.wrap (a-1))>>=fun c=>some (!c.Ret)) else (some false):Option Bool)>>=fun d=>if d=true then (aY.l0 b (IntKind.i64.wrap (a-1))) else (some a))
partial_fixpoint
def aY.l1(b:aE)(a:Int):Option Int:=
 ((if a>0 then (lAt b.s_.Stack (IntKind.i64.wrap (a-1))>>=fun c=>some (!c.Ret)) else (some false):Option Bool)>>=fun d=>if d=true then (aY.l1 b (IntKind.i64.wrap (a-1))) else (some a))
partial_fixpoint
def aY.f(a:aE):Option (Pn⊕aE):=
 if a.x_.N=1 then (bE.f (⟨a.l_,a.s_,a.x_,a.a_,a.b_,a.r_,(a.s_.Stack.length:Int),a.one_⟩:aE)>>=fun j=>match j with|.inl k=>some (.inl k)|.inr b=>(aY.l0 b b.below_>>=fun c=>cc.f (decide (c>0))>>=fun z25=>match z25 with|.inl h=>some (.inl h)|.inr l=>lAt b.s_.Stack (IntKind.i64.wrap (c-1))>>=fun e=>some (.inr (⟨b.l_,b.s_,b.x_,b.a_,b.b_,e,IntKind.i64.wrap (c-1),⟨b.one_.x0_,e.L,b.one_.x2_⟩⟩:aE)))) else ((aY.l1 a (a.s_.Stack.length:Int)>>=fun d=>cc.f (decide (d>0))>>=fun z49=>match z49 with|.inl i=>some (.inl i)|.inr m=>lAt a.s_.Stack (IntKind.i64.wrap (d-1))>>=fun g=>some (.inr (⟨a.l_,a.s_,a.x_,a.a_,a.b_,g,IntKind.i64.wrap (d-1),⟨a.one_.x0_,g.L,a.one_.x2_⟩⟩:aE))))
def b9.f(a:aE):Option (Pn⊕aE):=
 if a.x_.Op=0 then (fu.f (⟨a.l_,a.s_,a.x_,a.a_,a.b_,a.r_,(a.s_.Stack.length:Int),a.one_⟩:aE)>>=fun C=>some (.inr C)) else (if a.x_.Op=12 then (fu.f (⟨a.l_,a.s_,a.x_,a.a_,a.b_,a.r_,(a.s_.Stack.length:Int),a.one_⟩:aE)>>=fun D=>some (.inr D)) else (if a.x_.Op=1 then (gq.f (⟨a.l_,a.s_,a.x_,a.a_,a.b_,a.r_,(a.s_.Stack.length:Int),a.one_⟩:aE)>>=fun E=>some (.inr E)) else (if a.x_.Op=2 then (bE.f (⟨a.l_,a.s_,a.x_,a.a_,a.b_,a.r_,(a.s_.Stack.length:Int),a.one_⟩:aE)>>=fun F=>match F with|.inl G=>some (.inl G)|.inr b=>some (.inr b)) else (if a.x_.Op=11 then (bE.f (⟨a.l_,a.s_,a.x_,a.a_,a.b_,a.r_,(a.s_.Stack.length:Int),a.one_⟩:aE)>>=fun c=>match c with|.inl d=>some (.inl d)|.inr e=>some (.inr e)) else (if a.x_.Op=3 then (cF.f (⟨a.l_,a.s_,a.x_,a.a_,a.b_,a.r_,(a.s_.Stack.length:Int),a.one_⟩:aE)>>=fun g=>match g with|.inl h=>some (.inl h)|.inr i=>some (.inr i)) else (if a.x_.Op=4 then (cF.f (⟨a.l_,a.s_,a.x_,a.a_,a.b_,a.r_,(a.s_.Stack.length:Int),a.one_⟩:aE)>>=fun j=>match j with|.inl k=>some (.inl k)|.inr l=>some (.inr l)) else (if a.x_.Op=5 then (dG.f (⟨a.l_,a.s_,a.x_,a.a_,a.b_,a.r_,(a.s_.Stack.length:Int),a.one_⟩:aE)>>=fun m=>match m with|.inl n=>some (.inl n)|.inr o=>some (.inr o)) else (if a.x_.Op=6 then (dt.f (⟨a.l_,a.s_,a.x_,a.a_,a.b_,a.r_,(a.s_.Stack.length:Int),a.one_⟩:aE)>>=fun z28=>match z28 with|.inl p=>some (.inl p)|.inr q=>some (.inr q)) else (if a.x_.Op=7 then (df.f (⟨a.l_,a.s_,a.x_,a.a_,a.b_,a.r_,(a.s_.Stack.length:Int),a.one_⟩:aE)>>=fun z32=>match z32 with|.inl r=>some (.inl r)|.inr s=>some (.inr s)) else (if a.x_.Op=8 then (bE.f (⟨a.l_,a.s_,a.x_,a.a_,a.b_,a.r_,(a.s_.Stack.length:Int),a.one_⟩:aE)>>=fun t=>match t with|.inl u=>some (.inl u)|.inr v=>some (.inr v)) else (if a.x_.Op=9 then (bK.f (⟨a.l_,a.s_,a.x_,a.a_,a.b_,a.r_,(a.s_.Stack.length:Int),a.one_⟩:aE)>>=fun w=>match w with|.inl x=>some (.inl x)|.inr y=>some (.inr y)) else (if a.x_.Op=10 then (aY.f (⟨a.l_,a.s_,a.x_,a.a_,a.b_,a.r_,(a.s_.Stack.length:Int),a.one_⟩:aE)>>=fun z=>match z with|.inl A=>some (.inl A)|.inr B=>some (.inr B)) else (none)))))))))))))
def gy.f(a:Int)(a1:az):Option Bool:=
 ((if a<0 then (some true) else (some (decide (a>=(a1.Up.length:Int)))):Option Bool)>>=fun b=>some b)
def gk.f(a:az)(a1:List Int)(a2:List Int)(a3:Bool):Option Int:=
 ck.f a>>=fun b=>if b=0 then (eP.f a1 a3>>=fun c=>if (!c)=true then (some 1) else (((if (a2.length:Int)=4 then (ce.f a2 (fun d=>gy.f d a)>>=fun e=>some e) else (some true):Option Bool)>>=fun g=>if g=true then (some 9) else (some 0)))) else (some b)
def cf.f(a:bS)(a1:If221):Option bS:=
 if (a.pile_.length+([a1]:List If221).length)*16<=big then (some (⟨a.l_,a.labels_,a.pile_++([a1]:List If221)⟩:bS)) else none
def gu.f(a:Int):Option Int:=
 if (0:Int)<=bShr .u32 a 24/\bShr .u32 a 24<(ks0.length:Int) then (if (0:Int)<=bAnd .u32 (bShr .u32 a 16) 255/\bAnd .u32 (bShr .u32 a 16) 255<(ks0.length:Int) then (if (0:Int)<=bAnd .u32 (bShr .u32 a 8) 255/\bAnd .u32 (bShr .u32 a 8) 255<(ks0.length:Int) then (if (0:Int)<=bAnd .u32 a 255/\bAnd .u32 a 255<(ks0.length:Int) then (some (IntKind.i64.wrap (IntKind.u8.wrap ((IntKind.u8.wrap ((IntKind.u8.wrap ((sAt ks0 (bShr .u32 a 24))+(sAt ks0 (bAnd .u32 (bShr .u32 a 16) 255))))+(sAt ks0 (bAnd .u32 (bShr .u32 a 8) 255))))+(sAt ks0 (bAnd .u32 a 255)))))) else none) else none) else none) else none
def fv.f(a:Int):Option Bool:=
 gu.f a>>=fun b=>some (decide (b=1))
def fN.f(a:az):Option (Int×Int):=
 ee.f a []>>=fun b=>if b=0 then (aS.f a.Up fv.f>>=fun c=>some (c,0)) else (some (0,b))
def fV.f(a:bS):Option (bS×If221×If221):=
 lAt a.pile_ (IntKind.i64.wrap ((a.pile_.length:Int)-2))>>=fun b=>lAt a.pile_ (IntKind.i64.wrap ((IntKind.i64.wrap ((a.pile_.length:Int)-2))+1))>>=fun c=>if (0:Int)<=IntKind.i64.wrap ((a.pile_.length:Int)-2)/\IntKind.i64.wrap ((a.pile_.length:Int)-2)<=(a.pile_.length:Int) then (some ((⟨a.l_,a.labels_,a.pile_.take (IntKind.i64.wrap ((a.pile_.length:Int)-2)).toNat⟩:bS),b,c)) else none
def eE.f(a:az)(a1:Int)(a2:Int):Option (Bool×Int):=
 ee.f a ([a1,a2]:List Int)>>=fun b=>if b=0 then (ef.f a a1 a2>>=fun c=>some (c,0)) else (some (false,b))
def fw.f(a:az)(a1:Int)(a2:Int):Option (Int×Int):=
 ee.f a ([a1,a2]:List Int)>>=fun b=>if b=0 then (fo.f a a1 a2>>=fun c=>some (c,0)) else (some (0,b))
def fx.f(a:az)(a1:Int)(a2:Int):Option (Int×Int):=
 ee.f a ([a1,a2]:List Int)>>=fun b=>if b=0 then (cT.f a a1 a2>>=fun c=>some (c,0)) else (some (0,b))
def eN.f(a:bS)(a1:Int)(a2:If221)(a3:If221):Option (bS×If221):=
 if ((fW a2).2)=true then (if a1=3 then (((if ((fW a2).1)=true then (some (If221.c218 ((fW a3).1))) else (some (If221.c218 false)):Option If221)>>=fun e=>some (a,e))) else (((if ((fW a2).1)=true then (some (If221.c218 true)) else (some (If221.c218 ((fW a3).1))):Option If221)>>=fun g=>some (a,g)))) else (if ((gF a2).2)=true then (if a1=5 then (eE.f a.l_ ((gF a2).1) ((gF a3).1)>>=fun b=>some (a,If221.c218 b.1)) else (if a1=12 then (fw.f a.l_ ((gF a2).1) ((gF a3).1)>>=fun c=>some (a,If221.c227 c.1)) else (fx.f a.l_ ((gF a2).1) ((gF a3).1)>>=fun d=>some (a,If221.c227 d.1)))) else (some (a,a2)))
def bJ.l0(a1:List Int)(c:List Str)(d:List Int)(b:List Int)(e:List If221)(q:Int):Option ((List Str)×(List Int)×(List Int)×(List If221)):=
 if q<(a1.length:Int) then (((lAt a1 q>>=fun a=>((if a=1 then (cf.f (⟨⟨c,d⟩,b,e⟩:bS) (If221.c218 (decide (a=1)))>>=fun g=>some (g.l_.Names,g.l_.Up,g.labels_,g.pile_)) else (if a=2 then (cf.f (⟨⟨c,d⟩,b,e⟩:bS) (If221.c218 (decide (a=1)))>>=fun h=>some (h.l_.Names,h.l_.Up,h.labels_,h.pile_)) else (if a=6 then (dI.f (⟨c,d⟩:az)>>=fun t=>cf.f (⟨⟨c,d⟩,b,e⟩:bS) (If221.c227 t.1)>>=fun i=>some (i.l_.Names,i.l_.Up,i.labels_,i.pile_)) else (if a=7 then (fN.f (⟨c,d⟩:az)>>=fun u=>cf.f (⟨⟨c,d⟩,b,e⟩:bS) (If221.c227 u.1)>>=fun j=>some (j.l_.Names,j.l_.Up,j.labels_,j.pile_)) else (if a=8 then (lAt b (IntKind.i64.wrap (a-8))>>=fun v=>cf.f (⟨⟨c,d⟩,b,e⟩:bS) (If221.c227 v)>>=fun k=>some (k.l_.Names,k.l_.Up,k.labels_,k.pile_)) else (if a=9 then (lAt b (IntKind.i64.wrap (a-8))>>=fun w=>cf.f (⟨⟨c,d⟩,b,e⟩:bS) (If221.c227 w)>>=fun l=>some (l.l_.Names,l.l_.Up,l.labels_,l.pile_)) else (if a=10 then (lAt b (IntKind.i64.wrap (a-8))>>=fun x=>cf.f (⟨⟨c,d⟩,b,e⟩:bS) (If221.c227 x)>>=fun m=>some (m.l_.Names,m.l_.Up,m.labels_,m.pile_)) else (if a=11 then (lAt b (IntKind.i64.wrap (a-8))>>=fun y=>cf.f (⟨⟨c,d⟩,b,e⟩:bS) (If221.c227 y)>>=fun n=>some (n.l_.Names,n.l_.Up,n.labels_,n.pile_)) else (fV.f (⟨⟨c,d⟩,b,e⟩:bS)>>=fun r=>eN.f r.1 a r.2.1 r.2.2>>=fun s=>cf.f s.1 s.2>>=fun p=>some (p.l_.Names,p.l_.Up,p.labels_,p.pile_))))))))):Option ((List Str)×(List Int)×(List Int)×(List If221)))>>=fun o=>match o with|(z,A,B,C)=>some (z,A,B,C)):Option ((List Str)×(List Int)×(List Int)×(List If221)))>>=fun o=>match o with|(D,E,F,G)=>bJ.l0 a1 D E F G (IntKind.i64.wrap (q+1)))) else (some (c,d,b,e))
partial_fixpoint
def bJ.f(b:bS)(a1:List Int):Option (bS×If221):=
 (bJ.l0 a1 b.l_.Names b.l_.Up b.labels_ b.pile_ 0>>=fun o=>match o with|(c,d,e,a)=>lAt a 0>>=fun g=>some ((⟨⟨c,d⟩,e,a⟩:bS),g))
def fb.f(a:az)(a1:List Int)(a2:List Int):Option (Bool×Int):=
 gk.f a a1 a2 false>>=fun b=>if b=0 then (bJ.f (⟨a,a2,([]:List If221)⟩:bS) a1>>=fun c=>some ((fW c.2).1,0)) else (some (false,b))
def dJ.f(a:az)(a1:List Int)(a2:List Int):Option (Int×Int):=
 gk.f a a1 a2 true>>=fun b=>if b=0 then (bJ.f (⟨a,a2,([]:List If221)⟩:bS) a1>>=fun c=>some ((gF c.2).1,0)) else (some (0,b))
def cA.f(a:aE)(a1:Int)(a2:Int):Option aE:=
 if (a.s_.Stack.length+([(⟨false,a1,a2⟩:aF)]:List aF).length)*24<=big then (some (⟨a.l_,⟨a.s_.Pc,a.s_.Code,a.s_.Mem,a.s_.Stack++([(⟨false,a1,a2⟩:aF)]:List aF),a.s_.Out⟩,a.x_,a.a_,a.b_,a.r_,a.below_,a.one_⟩:aE)) else none
def dK.f(a1:Int):Option (List aF):=
 if a1<0 then (none) else (if IntKind.i64.wrap (a1-(IntKind.i64.wrap (0-(([]:List aF).length:Int))))>0 then (if 0<IntKind.i64.wrap (a1-(IntKind.i64.wrap (0-(([]:List aF).length:Int))))/\(IntKind.i64.wrap (a1-(IntKind.i64.wrap (0-(([]:List aF).length:Int))))).toNat*24<=big then (if (0:Int)<=(([]:List aF).length:Int)/\(([]:List aF).length:Int)<=((List.replicate (IntKind.i64.wrap (a1-(IntKind.i64.wrap (0-(([]:List aF).length:Int))))).toNat ((⟨false,0,0⟩:aF):aF)).length:Int) then (some ((List.replicate (IntKind.i64.wrap (a1-(IntKind.i64.wrap (0-(([]:List aF).length:Int))))).toNat ((⟨false,0,0⟩:aF):aF)).take (([]:List aF).length:Int).toNat)) else none) else none) else (some ([]:List aF)))
def aT.l0(d:List (List aF))(a:Int)(b:Int):Option Int:=
 if a<(d.length:Int) then (((lAt d a>>=fun c=>if IntKind.i64.wrap (b+(c.length:Int))<0 then (none) else (some (IntKind.i64.wrap (b+(c.length:Int)))):Option Int)>>=fun e=>aT.l0 d (IntKind.i64.wrap (a+1)) e)) else (some b)
partial_fixpoint
def aT.l1(d:List (List aF))(a:List aF)(b:Int):Option (List aF):=
 if b<(d.length:Int) then (lAt d b>>=fun c=>if (a.length+c.length)*24<=big then (aT.l1 d (a++c) (IntKind.i64.wrap (b+1))) else none) else (some a)
partial_fixpoint
def aT.f(a:List (List aF)):Option (List aF):=
 (aT.l0 a 0 0>>=fun b=>dK.f b>>=fun c=>(aT.l1 a c 0>>=fun d=>some d))
def bW.f(a:List aF):Option (List aF):=
 if (([]:List aF).length+a.length)*24<=big then (some (([]:List aF)++a)) else none
def br.f(a:List aG):Option (List aG):=
 if (([]:List aG).length+a.length)*16<=big then (some (([]:List aG)++a)) else none
def eC.f(a:aE)(a1:Int):Option aE:=
 if (0:Int)<=a.below_/\a.below_<=(a.s_.Stack.length:Int) then (bW.f (lCut a.s_.Stack 0 a.below_)>>=fun c=>((if a.x_.Op=1 then (cA.f (⟨a.l_,⟨a.s_.Pc,a.s_.Code,a.s_.Mem,c,a.s_.Out⟩,a.x_,a.a_,a.b_,a.r_,a.below_,a.one_⟩:aE) a.x_.N a1>>=fun h=>some (h,IntKind.i64.wrap (a.s_.Pc.V+1))) else (if a.x_.Op=3 then (cA.f (⟨a.l_,⟨a.s_.Pc,a.s_.Code,a.s_.Mem,c,a.s_.Out⟩,a.x_,a.a_,a.b_,a.r_,a.below_,a.one_⟩:aE) (IntKind.i64.wrap (a.b_.V+a.a_.V)) a1>>=fun i=>some (i,IntKind.i64.wrap (a.s_.Pc.V+1))) else (if a.x_.Op=4 then (cA.f (⟨a.l_,⟨a.s_.Pc,a.s_.Code,a.s_.Mem,c,a.s_.Out⟩,a.x_,a.a_,a.b_,a.r_,a.below_,a.one_⟩:aE) (IntKind.i64.wrap (a.b_.V-a.a_.V)) a1>>=fun j=>some (j,IntKind.i64.wrap (a.s_.Pc.V+1))) else (if a.x_.Op=5 then (lAt a.s_.Mem a.a_.V>>=fun k=>cA.f (⟨a.l_,⟨a.s_.Pc,a.s_.Code,a.s_.Mem,c,a.s_.Out⟩,a.x_,a.a_,a.b_,a.r_,a.below_,a.one_⟩:aE) k.V a1>>=fun l=>some (l,IntKind.i64.wrap (a.s_.Pc.V+1))) else (if a.x_.Op=6 then (br.f a.s_.Mem>>=fun d=>lAt d a.a_.V>>=fun p=>some ((⟨a.l_,⟨a.s_.Pc,a.s_.Code,d.set a.a_.V.toNat (⟨a.b_.V,a1⟩:aG),c,a.s_.Out⟩,a.x_,a.a_,a.b_,a.r_,a.below_,a.one_⟩:aE),IntKind.i64.wrap (a.s_.Pc.V+1))) else (if a.x_.Op=11 then (br.f a.s_.Out>>=fun e=>if (e.length+([(⟨a.a_.V,a1⟩:aG)]:List aG).length)*16<=big then (some ((⟨a.l_,⟨a.s_.Pc,a.s_.Code,a.s_.Mem,c,e++([(⟨a.a_.V,a1⟩:aG)]:List aG)⟩,a.x_,a.a_,a.b_,a.r_,a.below_,a.one_⟩:aE),IntKind.i64.wrap (a.s_.Pc.V+1))) else none) else (if a.x_.Op=7 then (some ((⟨a.l_,⟨a.s_.Pc,a.s_.Code,a.s_.Mem,c,a.s_.Out⟩,a.x_,a.a_,a.b_,a.r_,a.below_,a.one_⟩:aE),a.a_.V)) else (if a.x_.Op=8 then (if a.a_.V=0 then (some ((⟨a.l_,⟨a.s_.Pc,a.s_.Code,a.s_.Mem,c,a.s_.Out⟩,a.x_,a.a_,a.b_,a.r_,a.below_,a.one_⟩:aE),IntKind.i64.wrap (a.s_.Pc.V+1))) else (some ((⟨a.l_,⟨a.s_.Pc,a.s_.Code,a.s_.Mem,c,a.s_.Out⟩,a.x_,a.a_,a.b_,a.r_,a.below_,a.one_⟩:aE),a.x_.N))) else (if a.x_.Op=9 then (if (0:Int)<=IntKind.i64.wrap (a.below_-a.x_.N)/\IntKind.i64.wrap (a.below_-a.x_.N)<=a.below_/\a.below_<=(a.s_.Stack.length:Int) then (if (0:Int)<=IntKind.i64.wrap (a.below_-a.x_.N)/\IntKind.i64.wrap (a.below_-a.x_.N)<=(a.s_.Stack.length:Int) then (aT.f ([lCut a.s_.Stack 0 (IntKind.i64.wrap (a.below_-a.x_.N)),([(⟨true,IntKind.i64.wrap (a.s_.Pc.V+1),a.s_.Pc.L⟩:aF)]:List aF),lCut a.s_.Stack (IntKind.i64.wrap (a.below_-a.x_.N)) a.below_]:List (List aF))>>=fun m=>some ((⟨a.l_,⟨a.s_.Pc,a.s_.Code,a.s_.Mem,m,a.s_.Out⟩,a.x_,a.a_,a.b_,a.r_,a.below_,a.one_⟩:aE),a.a_.V)) else none) else none) else (if a.x_.Op=10 then (if a.x_.N=1 then (cA.f (⟨a.l_,⟨a.s_.Pc,a.s_.Code,a.s_.Mem,c,a.s_.Out⟩,a.x_,a.a_,a.b_,a.r_,a.below_,a.one_⟩:aE) a.a_.V a1>>=fun g=>some (g,g.r_.V)) else (some ((⟨a.l_,⟨a.s_.Pc,a.s_.Code,a.s_.Mem,c,a.s_.Out⟩,a.x_,a.a_,a.b_,a.r_,a.below_,a.one_⟩:aE),a.r_.V))) else (some ((⟨a.l_,⟨a.s_.Pc,a.s_.Code,a.s_.Mem,c,a.s_.Out⟩,a.x_,a.a_,a.b_,a.r_,a.below_,a.one_⟩:aE),IntKind.i64.wrap (a.s_.Pc.V+1)))))))))))):Option (aE×Int))>>=fun o=>match o with|(b,n)=>some (⟨b.l_,⟨⟨n,b.s_.Pc.L⟩,b.s_.Code,b.s_.Mem,b.s_.Stack,b.s_.Out⟩,b.x_,b.a_,b.b_,b.r_,b.below_,b.one_⟩:aE))) else none
def dO.B(c:az)(a1:ct)(a2:al):Option (Pn⊕(al×Int)):=
 cc.f (decide (a2.Pc.V<(a2.Code.length:Int)))>>=fun m=>match m with|.inl n=>some (.inl n)|.inr s=>dI.f c>>=fun g=>lAt a2.Code a2.Pc.V>>=fun o=>b9.f (⟨c,a2,o,⟨false,0,0⟩,⟨false,0,0⟩,⟨false,0,0⟩,0,⟨g.1,g.1,g.1⟩⟩:aE)>>=fun p=>match p with|.inl q=>some (.inl q)|.inr b=>if b.x_.Op=12 then (some (.inl 1)) else (lAt a1.Rows b.x_.Op>>=fun d=>fb.f c d.May ([a2.Pc.L,b.one_.x0_,b.one_.x1_,b.one_.x2_]:List Int)>>=fun h=>if (!h.1)=true then (some (.inl 2)) else (dJ.f c d.Res ([a2.Pc.L,b.one_.x0_,b.one_.x1_,b.one_.x2_]:List Int)>>=fun i=>dJ.f c d.Pc ([a2.Pc.L,b.one_.x0_,b.one_.x1_,b.one_.x2_]:List Int)>>=fun e=>eC.f b i.1>>=fun a=>fe.f c (⟨⟨a.s_.Pc.V,e.1⟩,a.s_.Code,a.s_.Mem,a.s_.Stack,a.s_.Out⟩:al)>>=fun j=>cc.f j>>=fun k=>match k with|.inl l=>some (.inl l)|.inr r=>some (.inr ((⟨⟨a.s_.Pc.V,e.1⟩,a.s_.Code,a.s_.Mem,a.s_.Stack,a.s_.Out⟩:al),0))))
def dO.f(a:az)(a1:ct)(a2:al):Option (al×Int):=
 dO.B a a1 a2>>=fun z=>some (finD a2 z)
def eT.f(a:az)(a1:ct)(a2:al):Option (al×Int×Int):=
 ck.f a>>=fun b=>if b=0 then (er.f a1>>=fun c=>if c.2=0 then (fe.f a a2>>=fun e=>if (!e)=true then (some ((⟨⟨0,0⟩,[],[],[],[]⟩:al),0,1)) else (dO.f a a1 a2>>=fun d=>some (d.1,d.2,0))) else (some ((⟨⟨0,0⟩,[],[],[],[]⟩:al),0,c.2))) else (some ((⟨⟨0,0⟩,[],[],[],[]⟩:al),0,b))
def gj.f(b:az)(a1:ct)(a2:al)(a3:Int):Option Int:=
 eT.f b a1 a2>>=fun a=>if a.2.2=0 then (((if a3<0 then (some true) else (some (decide (a3>40))):Option Bool)>>=fun c=>if c=true then (some 1) else (some 0))) else (some a.2.2)
def bR.l0{σ:Type}(a_y:σ->al->Int->Option (Bool×σ))(a1:Int)(a2:az)(a3:ct)(a:al)(d:σ)(e:Int):Option (σ⊕(al×σ)):=
 if e<a1 then (eT.f a2 a3 a>>=fun b=>((a_y d a b.2.1>>=fun c=>if (!c.1)=true then (some (c.2,true)) else (some (c.2,!decide (b.2.1=0))):Option (σ×Bool))>>=fun o=>match o with|(g,h)=>if h=true then (some (.inl g)) else (bR.l0 a_y a1 a2 a3 b.1 g (IntKind.i64.wrap (e+1))))) else (some (.inr (a,d)))
partial_fixpoint
def bR.f{σ:Type}(a_y:σ->al->Int->Option (Bool×σ))(a_s:σ)(a1:Int)(a2:az)(a3:ct)(a4:al):Option σ:=
 (bR.l0 a_y a1 a2 a3 a4 a_s 0>>=fun o=>match o with|.inl r=>some r|.inr (a,b)=>a_y b a 0>>=fun c=>some c.2)
def gh.f(a:az)(a1:ct)(a2:al)(a3:Int):Option (Int×az×ct×al):=
 some (a3,a,a1,a2)
def dL.y0(c:al×Int×Int×Int×(List aI)×(List aG)×(List aF)×(List aG))(a:al)(b:Int):Option (Bool×((al×Int×Int×Int×(List aI)×(List aG)×(List aF)×(List aG))×Nat)):=
 some (true,((a,b,a.Pc.V,a.Pc.L,a.Code,a.Mem,a.Stack,a.Out),0))
def dL.f(c:az)(a1:ct)(a2:al)(a3:Int):Option (al×Int×Int):=
 gj.f c a1 a2 a3>>=fun d=>if d=0 then (gh.f c a1 a2 a3>>=fun a=>(bR.f (yOf (dL.y0)) ((a2,0,a2.Pc.V,a2.Pc.L,a2.Code,a2.Mem,a2.Stack,a2.Out),0) a.1 a.2.1 a.2.2.1 a.2.2.2>>=fun b=>if b.2=0 then (some (b.1.1,b.1.2.1,0)) else none)) else (some ((⟨⟨0,0⟩,[],[],[],[]⟩:al),0,d))
def b8.f(a:ed)(a1:al):Option Bool:=
 eE.f a.l_ a1.Pc.L a.o_>>=fun b=>some b.1
def et.f(a:aI)(a1:aI):Option Bool:=
 ((if a.Op=a1.Op then (if a.Op=1 then (some true) else (some (decide (a.N=a1.N)))) else (some false):Option Bool)>>=fun b=>some b)
def eQ.f(a:aI):Option Int:=
 some a.L
def fc.f(a:aI)(a1:aI):Option Bool:=
 some (decide (a.N=a1.N))
def dW.f:Option eK:=
 some (⟨(some et.f),(some eQ.f),(some fc.f)⟩:eK)
def bi.l3(e:eK)(a:List aI)(b:List Int)(c:Int):Option (List Int):=
 if c<(a.length:Int) then (lAt a c>>=fun f=>e.label_>>=fun g=>g f>>=fun d=>if (b.length+([d]:List Int).length)*8<=big then (bi.l3 e a (b++([d]:List Int)) (IntKind.i64.wrap (c+1))) else none) else (some b)
partial_fixpoint
def bi.l2(c:eK)(a1:List (List aI))(b:List Int)(a:Int):Option (List Int):=
 if a<(a1.length:Int) then (lAt a1 a>>=fun d=>(bi.l3 c d b 0>>=fun e=>bi.l2 c a1 e (IntKind.i64.wrap (a+1)))) else (some b)
partial_fixpoint
def bi.f(b:eK)(a1:List (List aI)):Option (List Int):=
 (bi.l2 b a1 ([]:List Int) 0>>=fun a=>some a)
def gl.f(a:aG)(a1:aG):Option Bool:=
 some true
def f7.f(a:aG):Option Int:=
 some a.L
def gm.f(a:aG)(a1:aG):Option Bool:=
 some (decide (a.V=a1.V))
def fO.f:Option eL:=
 some (⟨(some gl.f),(some f7.f),(some gm.f)⟩:eL)
def bg.l3(e:eL)(a:List aG)(b:List Int)(c:Int):Option (List Int):=
 if c<(a.length:Int) then (lAt a c>>=fun f=>e.label_>>=fun g=>g f>>=fun d=>if (b.length+([d]:List Int).length)*8<=big then (bg.l3 e a (b++([d]:List Int)) (IntKind.i64.wrap (c+1))) else none) else (some b)
partial_fixpoint
def bg.l2(c:eL)(a1:List (List aG))(b:List Int)(a:Int):Option (List Int):=
 if a<(a1.length:Int) then (lAt a1 a>>=fun d=>(bg.l3 c d b 0>>=fun e=>bg.l2 c a1 e (IntKind.i64.wrap (a+1)))) else (some b)
partial_fixpoint
def bg.f(b:eL)(a1:List (List aG)):Option (List Int):=
 (bg.l2 b a1 ([]:List Int) 0>>=fun a=>some a)
def gn.f(a:aF)(a1:aF):Option Bool:=
 some (decide (a.Ret=a1.Ret))
def f8.f(a:aF):Option Int:=
 some a.L
def gp.f(a:aF)(a1:aF):Option Bool:=
 some (decide (a.V=a1.V))
def fD.f:Option eM:=
 some (⟨(some gn.f),(some f8.f),(some gp.f)⟩:eM)
def bk.l3(e:eM)(a:List aF)(b:List Int)(c:Int):Option (List Int):=
 if c<(a.length:Int) then (lAt a c>>=fun f=>e.label_>>=fun g=>g f>>=fun d=>if (b.length+([d]:List Int).length)*8<=big then (bk.l3 e a (b++([d]:List Int)) (IntKind.i64.wrap (c+1))) else none) else (some b)
partial_fixpoint
def bk.l2(c:eM)(a1:List (List aF))(b:List Int)(a:Int):Option (List Int):=
 if a<(a1.length:Int) then (lAt a1 a>>=fun d=>(bk.l3 c d b 0>>=fun e=>bk.l2 c a1 e (IntKind.i64.wrap (a+1)))) else (some b)
partial_fixpoint
def bk.f(b:eM)(a1:List (List aF)):Option (List Int):=
 (bk.l2 b a1 ([]:List Int) 0>>=fun a=>some a)
def eX.f(a1:Int):Option (List Int):=
 if a1<0 then (none) else (if IntKind.i64.wrap (a1-(IntKind.i64.wrap (0-(([]:List Int).length:Int))))>0 then (if 0<IntKind.i64.wrap (a1-(IntKind.i64.wrap (0-(([]:List Int).length:Int))))/\(IntKind.i64.wrap (a1-(IntKind.i64.wrap (0-(([]:List Int).length:Int))))).toNat*8<=big then (if (0:Int)<=(([]:List Int).length:Int)/\(([]:List Int).length:Int)<=((List.replicate (IntKind.i64.wrap (a1-(IntKind.i64.wrap (0-(([]:List Int).length:Int))))).toNat (0:Int)).length:Int) then (some ((List.replicate (IntKind.i64.wrap (a1-(IntKind.i64.wrap (0-(([]:List Int).length:Int))))).toNat (0:Int)).take (([]:List Int).length:Int).toNat)) else none) else none) else (some ([]:List Int)))
def bp.l0(d:List (List Int))(a:Int)(b:Int):Option Int:=
 if a<(d.length:Int) then (((lAt d a>>=fun c=>if IntKind.i64.wrap (b+(c.length:Int))<0 then (none) else (some (IntKind.i64.wrap (b+(c.length:Int)))):Option Int)>>=fun e=>bp.l0 d (IntKind.i64.wrap (a+1)) e)) else (some b)
partial_fixpoint
def bp.l1(d:List (List Int))(a:List Int)(b:Int):Option (List Int):=
 if b<(d.length:Int) then (lAt d b>>=fun c=>if (a.length+c.length)*8<=big then (bp.l1 d (a++c) (IntKind.i64.wrap (b+1))) else none) else (some a)
partial_fixpoint
def bp.f(a:List (List Int)):Option (List Int):=
 (bp.l0 a 0 0>>=fun b=>eX.f b>>=fun c=>(bp.l1 a c 0>>=fun d=>some d))
def gN.f(a:Int)(a1:az):Option Bool:=
 ((if a<0 then (some true) else (some (decide (a>=(a1.Up.length:Int)))):Option Bool)>>=fun b=>some b)
def gE.f(a:az)(a1:List Int):Option Int:=
 ck.f a>>=fun b=>if b=0 then (ce.f a1 (fun c=>gN.f c a)>>=fun d=>if d=true then (some 9) else (some 0)) else (some b)
def bF.f(a:bY)(a1:Int):Option Bool:=
 eE.f a.l_ a1 a.o_>>=fun b=>some b.1
def aK.l0(b:List aI)(a1:List aI)(a2:aI->aI->Option Bool)(a:Int):Option (Bool⊕Unit):=
 if a<(b.length:Int) then (lAt b a>>=fun c=>lAt a1 a>>=fun d=>a2 c d>>=fun e=>if (!e)=true then (some (.inl false)) else (aK.l0 b a1 a2 (IntKind.i64.wrap (a+1)))) else (some (.inr ()))
partial_fixpoint
def aK.f(a:List aI)(a1:List aI)(a2:aI->aI->Option Bool):Option Bool:=
 if (a.length:Int)=(a1.length:Int) then ((aK.l0 a a1 a2 0>>=fun o=>match o with|.inl r=>some r|.inr ()=>some true)) else (some false)
def dw.f(a:aI)(a1:aI)(a2:eK)(a3:bY):Option Bool:=
 ((a2.same_>>=fun b=>b a a1>>=fun c=>if c=true then (a2.label_>>=fun d=>d a>>=fun e=>a2.label_>>=fun g=>g a1>>=fun h=>if e=h then (a2.label_>>=fun i=>i a>>=fun j=>bF.f a3 j>>=fun k=>if (!k)=true then (some true) else (a2.seen_>>=fun l=>l a a1>>=fun m=>some m)) else (some false)) else (some false):Option Bool)>>=fun n=>some n)
def dy.f(a:bY)(a1:eK)(a2:List aI)(a3:List aI):Option Bool:=
 aK.f a2 a3 (fun b c=>dw.f b c a1 a)>>=fun d=>some d
def aN.l0(b:List aG)(a1:List aG)(a2:aG->aG->Option Bool)(a:Int):Option (Bool⊕Unit):=
 if a<(b.length:Int) then (lAt b a>>=fun c=>lAt a1 a>>=fun d=>a2 c d>>=fun e=>if (!e)=true then (some (.inl false)) else (aN.l0 b a1 a2 (IntKind.i64.wrap (a+1)))) else (some (.inr ()))
partial_fixpoint
def aN.f(a:List aG)(a1:List aG)(a2:aG->aG->Option Bool):Option Bool:=
 if (a.length:Int)=(a1.length:Int) then ((aN.l0 a a1 a2 0>>=fun o=>match o with|.inl r=>some r|.inr ()=>some true)) else (some false)
def dM.f(a:aG)(a1:aG)(a2:eL)(a3:bY):Option Bool:=
 ((a2.same_>>=fun b=>b a a1>>=fun c=>if c=true then (a2.label_>>=fun d=>d a>>=fun e=>a2.label_>>=fun g=>g a1>>=fun h=>if e=h then (a2.label_>>=fun i=>i a>>=fun j=>bF.f a3 j>>=fun k=>if (!k)=true then (some true) else (a2.seen_>>=fun l=>l a a1>>=fun m=>some m)) else (some false)) else (some false):Option Bool)>>=fun n=>some n)
def eu.f(a:bY)(a1:eL)(a2:List aG)(a3:List aG):Option Bool:=
 aN.f a2 a3 (fun b c=>dM.f b c a1 a)>>=fun d=>some d
def bt.l0(b:List aG)(a1:List aG)(a:Int):Option (Bool⊕Unit):=
 if a<(b.length:Int) then (lAt b a>>=fun c=>lAt a1 a>>=fun d=>if c=d then (bt.l0 b a1 (IntKind.i64.wrap (a+1))) else (some (.inl false))) else (some (.inr ()))
partial_fixpoint
def bt.f(a:List aG)(a1:List aG):Option Bool:=
 if (a.length:Int)=(a1.length:Int) then ((bt.l0 a a1 0>>=fun o=>match o with|.inl r=>some r|.inr ()=>some true)) else (some false)
def fp.f(a:aG)(a1:bY):Option Bool:=
 bF.f a1 a.L>>=fun b=>some (!b)
def aQ.l0(a1:aG->Option Bool)(a:List aG)(b:Int)(c:Int):Option ((List aG)×Int):=
 if c<(a.length:Int) then (((lAt a c>>=fun d=>a1 d>>=fun e=>if (!e)=true then (lAt a b>>=fun h=>some (a.set b.toNat d,IntKind.i64.wrap (b+1))) else (some (a,b)):Option ((List aG)×Int))>>=fun o=>match o with|(f,g)=>aQ.l0 a1 f g (IntKind.i64.wrap (c+1)))) else (some (a,b))
partial_fixpoint
def aQ.f(c:List aG)(a1:aG->Option Bool):Option (List aG):=
 aV.f c a1>>=fun d=>if d=(-1) then (some c) else ((aQ.l0 a1 c d (IntKind.i64.wrap (d+1))>>=fun o=>match o with|(b,a)=>if (0:Int)<=a/\a<=(b.length:Int) then (if (0:Int)<=a/\a<=((b.take a.toNat++List.replicate (b.length-a.toNat) ((⟨0,0⟩:aG):aG)).length:Int) then (some ((b.take a.toNat++List.replicate (b.length-a.toNat) ((⟨0,0⟩:aG):aG)).take a.toNat)) else none) else none))
def gz.f(b:bY)(a1:List aG)(a2:List aG):Option Bool:=
 br.f a1>>=fun c=>aQ.f c (fun a=>fp.f a b)>>=fun d=>br.f a2>>=fun e=>aQ.f e (fun a=>fp.f a b)>>=fun g=>bt.f d g>>=fun h=>some h
def aO.l0(b:List aF)(a1:List aF)(a2:aF->aF->Option Bool)(a:Int):Option (Bool⊕Unit):=
 if a<(b.length:Int) then (lAt b a>>=fun c=>lAt a1 a>>=fun d=>a2 c d>>=fun e=>if (!e)=true then (some (.inl false)) else (aO.l0 b a1 a2 (IntKind.i64.wrap (a+1)))) else (some (.inr ()))
partial_fixpoint
def aO.f(a:List aF)(a1:List aF)(a2:aF->aF->Option Bool):Option Bool:=
 if (a.length:Int)=(a1.length:Int) then ((aO.l0 a a1 a2 0>>=fun o=>match o with|.inl r=>some r|.inr ()=>some true)) else (some false)
def dN.f(a:aF)(a1:aF)(a2:eM)(a3:bY):Option Bool:=
 ((a2.same_>>=fun b=>b a a1>>=fun c=>if c=true then (a2.label_>>=fun d=>d a>>=fun e=>a2.label_>>=fun g=>g a1>>=fun h=>if e=h then (a2.label_>>=fun i=>i a>>=fun j=>bF.f a3 j>>=fun k=>if (!k)=true then (some true) else (a2.seen_>>=fun l=>l a a1>>=fun m=>some m)) else (some false)) else (some false):Option Bool)>>=fun n=>some n)
def dP.f(a:bY)(a1:eM)(a2:List aF)(a3:List aF):Option Bool:=
 aO.f a2 a3 (fun b c=>dN.f b c a1 a)>>=fun d=>some d
def ez.l0(b:bY)(a1:List aF)(a:Int):Option ((List aF)⊕Unit):=
 if a>=0 then (((lAt a1 a>>=fun c=>if c.Ret=true then (lAt a1 a>>=fun d=>bF.f b d.L>>=fun e=>some e) else (some false):Option Bool)>>=fun g=>if g=true then (if (0:Int)<=IntKind.i64.wrap (a+1)/\IntKind.i64.wrap (a+1)<=(a1.length:Int) then (some (.inl (lCut a1 0 (IntKind.i64.wrap (a+1))))) else none) else (ez.l0 b a1 (IntKind.i64.wrap (a-1))))) else (some (.inr ()))
partial_fixpoint
def ez.f(a:bY)(a1:List aF):Option (List aF):=
 (ez.l0 a a1 (IntKind.i64.wrap ((a1.length:Int)-1))>>=fun o=>match o with|.inl r=>some r|.inr ()=>some ([]:List aF))
def fy.f(a:az)(a1:Int)(a2:al)(a3:al):Option (Bool×Int):=
 dW.f>>=fun u=>bi.f u ([a2.Code,a3.Code]:List (List aI))>>=fun v=>fO.f>>=fun w=>bg.f w ([a2.Mem,a3.Mem,a2.Out,a3.Out]:List (List aG))>>=fun x=>fD.f>>=fun y=>bk.f y ([a2.Stack,a3.Stack]:List (List aF))>>=fun z=>bp.f ([([a1,a2.Pc.L,a3.Pc.L]:List Int),v,x,z]:List (List Int))>>=fun A=>gE.f a A>>=fun c=>if c=0 then (((dW.f>>=fun d=>dy.f (⟨a,a1⟩:bY) d a2.Code a3.Code>>=fun e=>if (!e)=true then (some true) else (fO.f>>=fun g=>eu.f (⟨a,a1⟩:bY) g a2.Mem a3.Mem>>=fun h=>if (!h)=true then (some true) else (gz.f (⟨a,a1⟩:bY) a2.Out a3.Out>>=fun i=>some (!i))):Option Bool)>>=fun j=>if j=true then (some (false,0)) else (bF.f (⟨a,a1⟩:bY) a2.Pc.L>>=fun b=>bF.f (⟨a,a1⟩:bY) a3.Pc.L>>=fun k=>if b=k then (if b=true then (((if a2.Pc=a3.Pc then (fD.f>>=fun l=>dP.f (⟨a,a1⟩:bY) l a2.Stack a3.Stack>>=fun m=>some (m,0)) else (some (false,0)):Option (Bool×Int))>>=fun o=>match o with|(n,p)=>some (n,p))) else (fD.f>>=fun q=>ez.f (⟨a,a1⟩:bY) a2.Stack>>=fun r=>ez.f (⟨a,a1⟩:bY) a3.Stack>>=fun s=>dP.f (⟨a,a1⟩:bY) q r s>>=fun t=>some (t,0))) else (some (false,0))))) else (some (false,c))
def dB.f(a:ed)(a1:al)(a2:al):Option Int:=
 fy.f a.l_ a.o_ a1 a2>>=fun b=>if b.1=true then (some 0) else (some 1)
def eG.f(a:ed):Option Int:=
 dL.f a.l_ a.t_ a.a_ a.fuel_>>=fun b=>dL.f a.l_ a.t_ a.b_ a.fuel_>>=fun c=>((if b.2.1=1 then (if c.2.1=1 then (b8.f a b.1>>=fun d=>if (!d)=true then (some true) else (b8.f a c.1>>=fun e=>some (!e))) else (some true)) else (some true):Option Bool)>>=fun h=>if h=true then (some 2) else (dB.f a b.1 c.1>>=fun g=>some g))
def iS.y0(a:Int×(List al))(b:al)(c:Int):Option (Bool×((Int×(List al))×Nat)):=
 if (a.2.length+([b]:List al).length)*112<=big then (some (true,((c,a.2++([b]:List al)),0))) else none
def iS.f(c:az)(a1:ct)(a2:al)(a3:Int):Option ((List al)×Int×Int):=
 gj.f c a1 a2 a3>>=fun d=>if d=0 then (gh.f c a1 a2 a3>>=fun b=>(bR.f (yOf (iS.y0)) ((0,([]:List al)),0) b.1 b.2.1 b.2.2.1 b.2.2.2>>=fun a=>if a.2=0 then (some (a.1.2,a.1.1,0)) else none)) else (some (([]:List al),0,d))
def ba.l0(b:List al)(a1:al->Option Bool)(a:Int):Option (Int⊕Unit):=
 if a<(b.length:Int) then (lAt b a>>=fun c=>a1 c>>=fun d=>if d=true then (some (.inl a)) else (ba.l0 b a1 (IntKind.i64.wrap (a+1)))) else (some (.inr ()))
partial_fixpoint
def ba.f(a:List al)(a1:al->Option Bool):Option Int:=
 (ba.l0 a a1 0>>=fun o=>match o with|.inl r=>some r|.inr ()=>some (-1))
def db.y0(a:Int×(List al))(b:al)(c:Int):Option (Bool×((Int×(List al))×Nat)):=
 if (a.2.length+([b]:List al).length)*112<=big then (some (true,((c,a.2++([b]:List al)),0))) else none
def db.f(c:az)(a1:ct)(a2:al)(a3:Int):Option ((List al)×Int×Int):=
 gj.f c a1 a2 a3>>=fun d=>if d=0 then (gh.f c a1 a2 a3>>=fun b=>(bR.f (yOf (db.y0)) ((0,([]:List al)),0) b.1 b.2.1 b.2.2.1 b.2.2.2>>=fun a=>if a.2=0 then (some (a.1.2,a.1.1,0)) else none)) else (some (([]:List al),0,d))
def eJ.f(a:al)(a1:ed):Option Bool:=
 b8.f a1 a>>=fun b=>some (!b)
def aR.l0(a1:al->Option Bool)(a:List al)(b:Int)(c:Int):Option ((List al)×Int):=
 if c<(a.length:Int) then (((lAt a c>>=fun d=>a1 d>>=fun e=>if (!e)=true then (lAt a b>>=fun h=>some (a.set b.toNat d,IntKind.i64.wrap (b+1))) else (some (a,b)):Option ((List al)×Int))>>=fun o=>match o with|(f,g)=>aR.l0 a1 f g (IntKind.i64.wrap (c+1)))) else (some (a,b))
partial_fixpoint
def aR.f(c:List al)(a1:al->Option Bool):Option (List al):=
 ba.f c a1>>=fun d=>if d=(-1) then (some c) else ((aR.l0 a1 c d (IntKind.i64.wrap (d+1))>>=fun o=>match o with|(b,a)=>if (0:Int)<=a/\a<=(b.length:Int) then (if (0:Int)<=a/\a<=((b.take a.toNat++List.replicate (b.length-a.toNat) ((⟨(⟨0,0⟩:aG),[],[],[],[]⟩:al):al)).length:Int) then (some ((b.take a.toNat++List.replicate (b.length-a.toNat) ((⟨(⟨0,0⟩:aG),[],[],[],[]⟩:al):al)).take a.toNat)) else none) else none))
def eA.f(a:ed)(a1:al):Option (List al):=
 db.f a.l_ a.t_ a1 a.fuel_>>=fun b=>aR.f b.1 (fun c=>eJ.f c a)>>=fun d=>some d
def bV.l0(d:ed)(b:List al)(c:List al)(a:Int):Option (Int⊕Unit):=
 if a<(c.length:Int) then (lAt c a>>=fun e=>((if a<(b.length:Int) then (lAt b a>>=fun g=>dB.f d e g>>=fun h=>some (decide (h=1))) else (some false):Option Bool)>>=fun i=>if i=true then (some (.inl 1)) else (bV.l0 d b c (IntKind.i64.wrap (a+1))))) else (some (.inr ()))
partial_fixpoint
def bV.f(a:ed):Option Int:=
 eA.f a a.b_>>=fun b=>eA.f a a.a_>>=fun c=>(bV.l0 a b c 0>>=fun o=>match o with|.inl r=>some r|.inr ()=>some 0)
def eB.f(a:ed):Option Int:=
 eT.f a.l_ a.t_ a.a_>>=fun b=>eT.f a.l_ a.t_ a.b_>>=fun c=>if b.2.1=0 then (((b8.f a a.a_>>=fun k=>if (!k)=true then (b8.f a b.1>>=fun d=>some (!d)) else (some false):Option Bool)>>=fun l=>if l=true then (dB.f a a.a_ b.1>>=fun e=>some e) else (((if c.2.1=0 then (b8.f a a.a_>>=fun g=>if (!g)=true then (b8.f a c.1>>=fun h=>some (!h)) else (some false)) else (some true):Option Bool)>>=fun i=>if i=true then (some 2) else (dB.f a b.1 c.1>>=fun j=>some j))))) else (some 2)
def gV.f:Option (List (Int×(Option (ed->Option Int)))):=
 some ([(0,(some eG.f)),(1,(some bV.f)),(2,(some eB.f))]:List (Int×(Option (ed->Option Int))))
def dC.l0(e:az)(a1:ct)(a4:Int)(b:al)(c:al)(d:Int):Option ((Int×Int)⊕Unit):=
 if d<(([b,c]:List al).length:Int) then (lAt ([b,c]:List al) d>>=fun g=>dL.f e a1 g a4>>=fun a=>if a.2.2=0 then (dC.l0 e a1 a4 b c (IntKind.i64.wrap (d+1))) else (some (.inl (0,a.2.2)))) else (some (.inr ()))
partial_fixpoint
def dC.f(c:az)(a1:ct)(a2:Int)(a3:Int)(a4:Int)(d:al)(e:al):Option (Int×Int):=
 (dC.l0 c a1 a4 d e 0>>=fun o=>match o with|.inl r=>some r|.inr ()=>gV.f>>=fun a=>if (!((mGet a none a2).2))=true then (some (0,1)) else (fy.f c a3 d e>>=fun b=>((if b.2=0 then (some (!b.1)) else (some true):Option Bool)>>=fun g=>if g=true then (some (0,9)) else ((mGet a none a2).1>>=fun h=>h (⟨c,a1,a3,a4,d,e⟩:ed)>>=fun i=>some (i,0)))))
def cM.l0(b:Str)(a:Int):Option (Bool⊕Unit):=
 if a<(b.length:Int) then (((if (0:Int)<=a/\a<(b.length:Int) then (if sAt b a<97 then (some true) else (if (0:Int)<=a/\a<(b.length:Int) then (some (decide (sAt b a>122))) else none)) else none:Option Bool)>>=fun c=>if c=true then (some (.inl false)) else (cM.l0 b (IntKind.i64.wrap (a+1))))) else (some (.inr ()))
partial_fixpoint
def cM.f(a:Str):Option Bool:=
 (cM.l0 a 0>>=fun o=>match o with|.inl r=>some r|.inr ()=>((if (a.length:Int)>0 then (some (decide ((a.length:Int)<=12))) else (some false):Option Bool)>>=fun b=>some b))
def dH.l0(a1:Int)(a:Int)(b:Int):Option Int:=
 if b<a1 then (dH.l0 a1 (IntKind.u32.wrap (a.tdiv 2)) (IntKind.i64.wrap (b+1))) else (some a)
partial_fixpoint
def dH.f(a:Int)(a1:Int):Option Bool:=
 (dH.l0 a1 a 0>>=fun b=>some (decide (b>0)))
def bQ.l3(d:az)(a:Int)(c:Str)(b:Int):Option (Bool⊕Unit):=
 if b<((lCut d.Names 0 a).length:Int) then (lAt (lCut d.Names 0 a) b>>=fun e=>if e=c then (some (.inl false)) else (bQ.l3 d a c (IntKind.i64.wrap (b+1)))) else (some (.inr ()))
partial_fixpoint
def bQ.l2(b:az)(a:Int):Option (Bool⊕Unit):=
 if a<(b.Names.length:Int) then (lAt b.Names a>>=fun c=>((cM.f c>>=fun d=>if (!d)=true then (some true) else (lAt b.Up a>>=fun e=>dH.f e (b.Up.length:Int)>>=fun g=>some g):Option Bool)>>=fun h=>if h=true then (some (.inl false)) else (if (0:Int)<=a/\a<=(b.Names.length:Int) then ((bQ.l3 b a c 0>>=fun o=>match o with|.inl r=>some (.inl r)|.inr ()=>bQ.l2 b (IntKind.i64.wrap (a+1)))) else none))) else (some (.inr ()))
partial_fixpoint
def bQ.f(a:az):Option Bool:=
 ((if (a.Up.length:Int)<1 then (some true) else (if (a.Up.length:Int)>8 then (some true) else (some (!decide ((a.Names.length:Int)=(a.Up.length:Int))))):Option Bool)>>=fun b=>if b=true then (some false) else ((bQ.l2 a 0>>=fun o=>match o with|.inl r=>some r|.inr ()=>some true)))
def aP.l0(a2:Int)(a:Int)(b:Int):Option Int:=
 if b<a2 then (aP.l0 a2 (IntKind.u32.wrap (a.tdiv 2)) (IntKind.i64.wrap (b+1))) else (some a)
partial_fixpoint
def aP.f(a:az)(a1:Int)(a2:Int):Option Bool:=
 lAt a.Up a1>>=fun b=>(aP.l0 a2 b 0>>=fun c=>some (decide (c.tmod 2=1)))
def bm.l12(d:az)(b:Int)(c:Int)(a:Int):Option (Bool⊕Unit):=
 if a<(d.Up.length:Int) then (((aP.f d b c>>=fun e=>if e=true then (aP.f d c a>>=fun g=>if g=true then (aP.f d b a>>=fun h=>some (!h)) else (some false)) else (some false):Option Bool)>>=fun i=>if i=true then (some (.inl false)) else (bm.l12 d b c (IntKind.i64.wrap (a+1))))) else (some (.inr ()))
partial_fixpoint
def bm.l11(c:az)(b:Int)(a:Int):Option (Bool⊕Unit):=
 if a<(c.Up.length:Int) then (((if b=a then (some false) else (aP.f c b a>>=fun d=>if d=true then (aP.f c a b>>=fun e=>some e) else (some false)):Option Bool)>>=fun g=>if g=true then (some (.inl false)) else ((bm.l12 c b a 0>>=fun o=>match o with|.inl r=>some (.inl r)|.inr ()=>bm.l11 c b (IntKind.i64.wrap (a+1)))))) else (some (.inr ()))
partial_fixpoint
def bm.l8(b:az)(a:Int):Option (Bool⊕Unit):=
 if a<(b.Up.length:Int) then (aP.f b a a>>=fun c=>if (!c)=true then (some (.inl false)) else ((bm.l11 b a 0>>=fun o=>match o with|.inl r=>some (.inl r)|.inr ()=>bm.l8 b (IntKind.i64.wrap (a+1))))) else (some (.inr ()))
partial_fixpoint
def bm.f(a:az):Option Bool:=
 (bm.l8 a 0>>=fun o=>match o with|.inl r=>some r|.inr ()=>some true)
def bA.l3(b:az)(a1:Int)(a2:Int)(c:Int)(a:Int)(d:Bool):Option Bool:=
 if a<(b.Up.length:Int) then (((((aP.f b a1 a>>=fun e=>if e=true then (aP.f b a2 a>>=fun g=>if g=true then (aP.f b c a>>=fun h=>some (!h)) else (some false)) else (some false):Option Bool)>>=fun i=>if i=true then (some false) else (some d)):Option Bool)>>=fun j=>bA.l3 b a1 a2 c (IntKind.i64.wrap (a+1)) j)) else (some d)
partial_fixpoint
def bA.l2(b:az)(a1:Int)(a2:Int)(a:Int):Option (Int⊕Unit):=
 if a<(b.Up.length:Int) then (((aP.f b a1 a>>=fun c=>if c=true then (aP.f b a2 a>>=fun d=>some d) else (some false):Option Bool)>>=fun e=>(bA.l3 b a1 a2 a 0 e>>=fun g=>if g=true then (some (.inl a)) else (bA.l2 b a1 a2 (IntKind.i64.wrap (a+1)))))) else (some (.inr ()))
partial_fixpoint
def bA.f(a:az)(a1:Int)(a2:Int):Option Int:=
 (bA.l2 a a1 a2 0>>=fun o=>match o with|.inl r=>some r|.inr ()=>some (-1))
def bC.l3(b:az)(a1:Int)(a2:Int)(c:Int)(a:Int)(d:Bool):Option Bool:=
 if a<(b.Up.length:Int) then (((((aP.f b a a1>>=fun e=>if e=true then (aP.f b a a2>>=fun g=>if g=true then (aP.f b a c>>=fun h=>some (!h)) else (some false)) else (some false):Option Bool)>>=fun i=>if i=true then (some false) else (some d)):Option Bool)>>=fun j=>bC.l3 b a1 a2 c (IntKind.i64.wrap (a+1)) j)) else (some d)
partial_fixpoint
def bC.l2(b:az)(a1:Int)(a2:Int)(a:Int):Option (Int⊕Unit):=
 if a<(b.Up.length:Int) then (((aP.f b a a1>>=fun c=>if c=true then (aP.f b a a2>>=fun d=>some d) else (some false):Option Bool)>>=fun e=>(bC.l3 b a1 a2 a 0 e>>=fun g=>if g=true then (some (.inl a)) else (bC.l2 b a1 a2 (IntKind.i64.wrap (a+1)))))) else (some (.inr ()))
partial_fixpoint
def bC.f(a:az)(a1:Int)(a2:Int):Option Int:=
 (bC.l2 a a1 a2 0>>=fun o=>match o with|.inl r=>some r|.inr ()=>some (-1))
def bN.l3(c:az)(b:Int)(a:Int):Option (Int⊕Unit):=
 if a<(c.Up.length:Int) then (((bA.f c b a>>=fun d=>if d<0 then (some true) else (bC.f c b a>>=fun e=>some (decide (e<0))):Option Bool)>>=fun g=>if g=true then (some (.inl 3)) else (bN.l3 c b (IntKind.i64.wrap (a+1))))) else (some (.inr ()))
partial_fixpoint
def bN.l2(b:az)(a:Int):Option (Int⊕Unit):=
 if a<(b.Up.length:Int) then ((bN.l3 b a 0>>=fun o=>match o with|.inl r=>some (.inl r)|.inr ()=>bN.l2 b (IntKind.i64.wrap (a+1)))) else (some (.inr ()))
partial_fixpoint
def bN.f(a:az):Option Int:=
 bQ.f a>>=fun b=>if (!b)=true then (some 1) else (bm.f a>>=fun c=>if (!c)=true then (some 2) else ((bN.l2 a 0>>=fun o=>match o with|.inl r=>some r|.inr ()=>some 0)))
def dc.f(a:List Int)(a1:Int):Option Bool:=
 ((if (a.length:Int)>=2 then (lAt a (IntKind.i64.wrap ((a.length:Int)-1))>>=fun b=>if b=a1 then (lAt a (IntKind.i64.wrap ((a.length:Int)-2))>>=fun c=>some (decide (c=a1))) else (some false)) else (some false):Option Bool)>>=fun d=>some d)
def cJ.l0(d:List Int)(a:List Int)(c:Int):Option (Int⊕(List Int)):=
 if c<(d.length:Int) then (((lAt d c>>=fun b=>((if b=1 then (some true) else (some (decide (b=2))):Option Bool)>>=fun e=>if e=true then (if (a.length+([1]:List Int).length)*8<=big then (some (.inr (a++([1]:List Int)))) else none) else (((if b>=6 then (some (decide (b<=11))) else (some false):Option Bool)>>=fun g=>if g=true then (if (a.length+([2]:List Int).length)*8<=big then (some (.inr (a++([2]:List Int)))) else none) else (((if b=3 then (dc.f a 1>>=fun h=>some h) else (if b=4 then (dc.f a 1>>=fun i=>some i) else (some false)):Option Bool)>>=fun j=>if j=true then (if (0:Int)<=IntKind.i64.wrap ((a.length:Int)-1)/\IntKind.i64.wrap ((a.length:Int)-1)<=(a.length:Int) then (some (.inr (a.take (IntKind.i64.wrap ((a.length:Int)-1)).toNat))) else none) else (((if b=5 then (dc.f a 2>>=fun k=>some k) else (some false):Option Bool)>>=fun l=>if l=true then (if (0:Int)<=IntKind.i64.wrap ((a.length:Int)-2)/\IntKind.i64.wrap ((a.length:Int)-2)<=(a.length:Int) then (if ((a.take (IntKind.i64.wrap ((a.length:Int)-2)).toNat).length+([1]:List Int).length)*8<=big then (some (.inr ((a.take (IntKind.i64.wrap ((a.length:Int)-2)).toNat)++([1]:List Int)))) else none) else none) else (((if b=12 then (dc.f a 2>>=fun m=>some m) else (if b=13 then (dc.f a 2>>=fun n=>some n) else (some false)):Option Bool)>>=fun p=>if p=true then (if (0:Int)<=IntKind.i64.wrap ((a.length:Int)-1)/\IntKind.i64.wrap ((a.length:Int)-1)<=(a.length:Int) then (some (.inr (a.take (IntKind.i64.wrap ((a.length:Int)-1)).toNat))) else none) else (some (.inl 0))))))))))):Option (Int⊕(List Int)))>>=fun o=>match o with|.inl r=>some (.inl r)|.inr q=>cJ.l0 d q (IntKind.i64.wrap (c+1)))) else (some (.inr a))
partial_fixpoint
def cJ.f(d:List Int):Option Int:=
 (cJ.l0 d ([]:List Int) 0>>=fun o=>match o with|.inl r=>some r|.inr a=>((if (a.length:Int)=1 then (some (decide ((d.length:Int)>40))) else (some true):Option Bool)>>=fun b=>if b=true then (some 0) else (lAt a 0>>=fun c=>some c)))
def dr.f(a:List Int)(a1:Bool):Option Bool:=
 if a1=true then (cJ.f a>>=fun b=>some (decide (b=2))) else (cJ.f a>>=fun c=>some (decide (c=1)))
def fZ.f(a:Int):Option Int:=
 lAt ([0,1,1,2,2,2,3,1,1,1,2,1,0]:List Int) a>>=fun b=>some b
def dR.l0(a:List Int)(a1:Int)(b:Int):Option (Bool⊕Unit):=
 if b<(a.length:Int) then (lAt a b>>=fun c=>if c=IntKind.i64.wrap (8+a1) then (some (.inl true)) else (dR.l0 a a1 (IntKind.i64.wrap (b+1)))) else (some (.inr ()))
partial_fixpoint
def dR.f(a:List Int)(a1:Int):Option Bool:=
 (dR.l0 a a1 0>>=fun o=>match o with|.inl r=>some r|.inr ()=>some false)
def cy.l0(a1:List Int)(a:Int):Option (Bool⊕Unit):=
 if a<4 then (dR.f a1 a>>=fun b=>if b=true then (some (.inl false)) else (cy.l0 a1 (IntKind.i64.wrap (a+1)))) else (some (.inr ()))
partial_fixpoint
def cy.f(a:Int)(a1:List Int):Option Bool:=
 fZ.f a>>=fun b=>(cy.l0 a1 (IntKind.i64.wrap (b+1))>>=fun o=>match o with|.inl r=>some r|.inr ()=>some true)
def fE.f(a:Int)(a1:aW):Option Int:=
 ((dr.f a1.May false>>=fun h=>if (!h)=true then (some true) else (dr.f a1.Res true>>=fun i=>if (!i)=true then (some true) else (dr.f a1.Pc true>>=fun b=>some (!b))):Option Bool)>>=fun j=>if j=true then (some 1) else (((cy.f a a1.May>>=fun c=>if (!c)=true then (some true) else (cy.f a a1.Res>>=fun d=>if (!d)=true then (some true) else (cy.f a a1.Pc>>=fun e=>some (!e))):Option Bool)>>=fun g=>if g=true then (some 7) else (some 0))))
def cW.l0(c:ct)(a:Int):Option (fY⊕Unit):=
 if a<(c.Rows.length:Int) then (lAt c.Rows a>>=fun d=>fE.f a d>>=fun b=>if b=0 then (cW.l0 c (IntKind.i64.wrap (a+1))) else (some (.inl (⟨a,b⟩:fY)))) else (some (.inr ()))
partial_fixpoint
def cW.f(a:ct):Option fY:=
 if (a.Rows.length:Int)=13 then ((cW.l0 a 0>>=fun o=>match o with|.inl r=>some r|.inr ()=>some (⟨0,0⟩:fY))) else (some (⟨0,1⟩:fY))
def fF.f(e:Int)(a1:aI):Option Bool:=
 if a1.Op=1 then (((if a1.N>=(-20) then (if a1.N<=20 then (if a1.L>=0 then (some (decide (a1.L<e))) else (some false)) else (some false)) else (some false):Option Bool)>>=fun g=>some g)) else (((if a1.Op<0 then (some true) else (if a1.Op>12 then (some true) else (some (!decide (a1.L=0)))):Option Bool)>>=fun a=>if a=true then (some false) else (if a1.Op=8 then (((if a1.N>=0 then (some (decide (a1.N<=12))) else (some false):Option Bool)>>=fun b=>some b)) else (if a1.Op=9 then (((if a1.N>=0 then (some (decide (a1.N<=3))) else (some false):Option Bool)>>=fun c=>some c)) else (if a1.Op=10 then (((if a1.N=0 then (some true) else (some (decide (a1.N=1))):Option Bool)>>=fun d=>some d)) else (some (decide (a1.N=0))))))))
def cK.l0(b:az)(a1:List aI)(a:Int):Option (Bool⊕Unit):=
 if a<(a1.length:Int) then (lAt a1 a>>=fun c=>fF.f (b.Up.length:Int) c>>=fun d=>if (!d)=true then (some (.inl false)) else (cK.l0 b a1 (IntKind.i64.wrap (a+1)))) else (some (.inr ()))
partial_fixpoint
def cK.f(a:az)(a1:List aI):Option Bool:=
 (cK.l0 a a1 0>>=fun o=>match o with|.inl r=>some r|.inr ()=>some (decide ((a1.length:Int)<=12)))
def cX.f(a:az)(a1:Int):Option Bool:=
 ((if a1>=0 then (some (decide (a1<(a.Up.length:Int)))) else (some false):Option Bool)>>=fun b=>some b)
def bZ.l0(c:az)(a1:List aG)(a:Int):Option (Bool⊕Unit):=
 if a<(a1.length:Int) then (lAt a1 a>>=fun b=>((if b.V<(-20) then (some true) else (if b.V>20 then (some true) else (cX.f c b.L>>=fun d=>some (!d))):Option Bool)>>=fun e=>if e=true then (some (.inl false)) else (bZ.l0 c a1 (IntKind.i64.wrap (a+1))))) else (some (.inr ()))
partial_fixpoint
def bZ.f(a:az)(a1:List aG):Option Bool:=
 (bZ.l0 a a1 0>>=fun o=>match o with|.inl r=>some r|.inr ()=>some true)
def cY.l0(c:az)(a1:List aF)(b:Int):Option (Bool⊕Unit):=
 if b<(a1.length:Int) then (lAt a1 b>>=fun a=>((if a.V<(-20) then (some true) else (if a.V>20 then (some true) else (cX.f c a.L>>=fun d=>if (!d)=true then (some true) else (if a.Ret=true then (if a.V<0 then (some true) else (some (decide (a.V>12)))) else (some false)))):Option Bool)>>=fun e=>if e=true then (some (.inl false)) else (cY.l0 c a1 (IntKind.i64.wrap (b+1))))) else (some (.inr ()))
partial_fixpoint
def cY.f(a:az)(a1:List aF):Option Bool:=
 (cY.l0 a a1 0>>=fun o=>match o with|.inl r=>some r|.inr ()=>some (decide ((a1.length:Int)<=12)))
def dg.f(a:az)(a1:al):Option Bool:=
 ((cK.f a a1.Code>>=fun h=>if (!h)=true then (some true) else (if a1.Pc.V<0 then (some true) else (if a1.Pc.V>12 then (some true) else (cX.f a a1.Pc.L>>=fun b=>some (!b)))):Option Bool)>>=fun i=>if i=true then (some false) else (((bZ.f a a1.Mem>>=fun c=>if c=true then (if (a1.Mem.length:Int)<=6 then (cY.f a a1.Stack>>=fun d=>if d=true then (bZ.f a a1.Out>>=fun e=>if e=true then (some (decide ((a1.Out.length:Int)<=8))) else (some false)) else (some false)) else (some false)) else (some false):Option Bool)>>=fun g=>some g)))
def fS.f(a:az)(a1:ct)(a2:al):Option Int:=
 bN.f a>>=fun b=>if b=0 then (cW.f a1>>=fun c=>if c.E=0 then (dg.f a a2>>=fun d=>if (!d)=true then (some 1) else (some 0)) else (cW.f a1>>=fun e=>some e.E)) else (some b)
def eZ.f(b:az)(a1:ct)(a2:al)(a3:Int):Option Int:=
 fS.f b a1 a2>>=fun a=>((if a=0 then (if a3<0 then (some true) else (some (decide (a3>40)))) else (some false):Option Bool)>>=fun c=>if c=true then (some 1) else (some a))
def bP.f(a:az)(a1:Int)(a2:Int):Option Bool:=
 aP.f a a2 a1>>=fun b=>some b
def cZ.l0(d:az)(a1:Int)(a2:List aI)(a3:List aI)(b:Int):Option (Bool⊕Unit):=
 if b<(a2.length:Int) then (lAt a2 b>>=fun a=>lAt a3 b>>=fun c=>((if a.Op=c.Op then (some (!decide (a.L=c.L))) else (some true):Option Bool)>>=fun e=>if e=true then (some (.inl false)) else (((if a.N=c.N then (some false) else (if a.Op=1 then (bP.f d a1 a.L>>=fun g=>some g) else (some true)):Option Bool)>>=fun h=>if h=true then (some (.inl false)) else (cZ.l0 d a1 a2 a3 (IntKind.i64.wrap (b+1))))))) else (some (.inr ()))
partial_fixpoint
def cZ.f(a:az)(a1:Int)(a2:List aI)(a3:List aI):Option Bool:=
 if (a2.length:Int)=(a3.length:Int) then ((cZ.l0 a a1 a2 a3 0>>=fun o=>match o with|.inl r=>some r|.inr ()=>some true)) else (some false)
def fh.f(a:az)(a1:Int)(a2:Int)(a3:Int)(a4:Int)(b:Int):Option Bool:=
 ((if a3=b then (bP.f a a1 a3>>=fun c=>if (!c)=true then (some true) else (some (decide (a2=a4)))) else (some false):Option Bool)>>=fun d=>some d)
def dh.l0(b:az)(a1:Int)(a2:List aG)(a3:List aG)(a:Int):Option (Bool⊕Unit):=
 if a<(a2.length:Int) then (lAt a2 a>>=fun c=>lAt a2 a>>=fun d=>lAt a3 a>>=fun e=>lAt a3 a>>=fun g=>fh.f b a1 c.V d.L e.V g.L>>=fun h=>if (!h)=true then (some (.inl false)) else (dh.l0 b a1 a2 a3 (IntKind.i64.wrap (a+1)))) else (some (.inr ()))
partial_fixpoint
def dh.f(a:az)(a1:Int)(a2:List aG)(a3:List aG):Option Bool:=
 if (a2.length:Int)=(a3.length:Int) then ((dh.l0 a a1 a2 a3 0>>=fun o=>match o with|.inl r=>some r|.inr ()=>some true)) else (some false)
def cv.l0(d:az)(a1:Int)(a2:List aG)(a:List aG)(b:Int):Option (List aG):=
 if b<(a2.length:Int) then (((lAt a2 b>>=fun c=>bP.f d a1 c.L>>=fun e=>if e=true then (if (a.length+([c]:List aG).length)*16<=big then (some (a++([c]:List aG))) else none) else (some a):Option (List aG))>>=fun g=>cv.l0 d a1 a2 g (IntKind.i64.wrap (b+1)))) else (some a)
partial_fixpoint
def cv.f(b:az)(a1:Int)(a2:List aG):Option (List aG):=
 (cv.l0 b a1 a2 ([]:List aG) 0>>=fun a=>some a)
def cH.l0(b:List aG)(a1:List aG)(a:Int):Option (Bool⊕Unit):=
 if a<(b.length:Int) then (lAt b a>>=fun c=>lAt a1 a>>=fun d=>if c=d then (cH.l0 b a1 (IntKind.i64.wrap (a+1))) else (some (.inl false))) else (some (.inr ()))
partial_fixpoint
def cH.f(a:List aG)(a1:List aG):Option Bool:=
 if (a.length:Int)=(a1.length:Int) then ((cH.l0 a a1 0>>=fun o=>match o with|.inl r=>some r|.inr ()=>some true)) else (some false)
def fG.f(a:az)(a1:Int)(a2:List aG)(a3:List aG):Option Bool:=
 cv.f a a1 a2>>=fun b=>cv.f a a1 a3>>=fun c=>cH.f b c>>=fun d=>some d
def cD.l0(b:az)(a1:Int)(a2:List aF)(a3:List aF)(a:Int):Option (Bool⊕Unit):=
 if a<(a2.length:Int) then (((lAt a2 a>>=fun c=>lAt a3 a>>=fun d=>if c.Ret=d.Ret then (lAt a2 a>>=fun e=>lAt a2 a>>=fun g=>lAt a3 a>>=fun h=>lAt a3 a>>=fun i=>fh.f b a1 e.V g.L h.V i.L>>=fun j=>some (!j)) else (some true):Option Bool)>>=fun k=>if k=true then (some (.inl false)) else (cD.l0 b a1 a2 a3 (IntKind.i64.wrap (a+1))))) else (some (.inr ()))
partial_fixpoint
def cD.f(a:az)(a1:Int)(a2:List aF)(a3:List aF):Option Bool:=
 if (a2.length:Int)=(a3.length:Int) then ((cD.l0 a a1 a2 a3 0>>=fun o=>match o with|.inl r=>some r|.inr ()=>some true)) else (some false)
def cE.l0(d:az)(a1:Int)(a2:List aF)(a:Int)(b:Int):Option Int:=
 if a<(a2.length:Int) then (((lAt a2 a>>=fun c=>((if c.Ret=true then (bP.f d a1 c.L>>=fun e=>some e) else (some false):Option Bool)>>=fun g=>if g=true then (some (IntKind.i64.wrap (a+1))) else (some b)):Option Int)>>=fun h=>cE.l0 d a1 a2 (IntKind.i64.wrap (a+1)) h)) else (some b)
partial_fixpoint
def cE.f(b:az)(a1:Int)(a2:List aF):Option (List aF):=
 (cE.l0 b a1 a2 0 0>>=fun a=>if (0:Int)<=a/\a<=(a2.length:Int) then (some (lCut a2 0 a)) else none)
def eI.f(a:az)(a1:Int)(a2:al)(a3:al):Option Bool:=
 ((cZ.f a a1 a2.Code a3.Code>>=fun o=>if (!o)=true then (some true) else (dh.f a a1 a2.Mem a3.Mem>>=fun p=>if (!p)=true then (some true) else (fG.f a a1 a2.Out a3.Out>>=fun b=>some (!b))):Option Bool)>>=fun q=>if q=true then (some false) else (((bP.f a a1 a2.Pc.L>>=fun c=>if c=true then (bP.f a a1 a3.Pc.L>>=fun d=>some d) else (some false):Option Bool)>>=fun e=>if e=true then (((if a2.Pc=a3.Pc then (cD.f a a1 a2.Stack a3.Stack>>=fun g=>some g) else (some false):Option Bool)>>=fun h=>some h)) else (((bP.f a a1 a2.Pc.L>>=fun i=>if i=true then (some true) else (bP.f a a1 a3.Pc.L>>=fun j=>some j):Option Bool)>>=fun k=>if k=true then (some false) else (cE.f a a1 a2.Stack>>=fun l=>cE.f a a1 a3.Stack>>=fun m=>cD.f a a1 l m>>=fun n=>some n))))))
def fj.f(a:cd)(a1:Int)(a2:al)(a3:al):Option Int:=
 eZ.f a.L a.T a2 a.Fuel>>=fun b=>if b=0 then (eZ.f a.L a.T a3 a.Fuel>>=fun c=>if c=0 then (((if a1<0 then (some true) else (some (decide (a1>2))):Option Bool)>>=fun g=>if g=true then (some 1) else (((if a.O<0 then (some true) else (if a.O>=(a.L.Up.length:Int) then (some true) else (eI.f a.L a.O a2 a3>>=fun d=>some (!d))):Option Bool)>>=fun e=>if e=true then (some 9) else (some 0))))) else (some c)) else (some b)
def iu.f:Option ct:=
 some (⟨([(⟨([1]:List Int),([6]:List Int),([8]:List Int)⟩:aW),(⟨([1]:List Int),([9]:List Int),([8]:List Int)⟩:aW),(⟨([1]:List Int),([6]:List Int),([8]:List Int)⟩:aW),(⟨([1]:List Int),([9,10,12]:List Int),([8]:List Int)⟩:aW),(⟨([1]:List Int),([9,10,12]:List Int),([8]:List Int)⟩:aW),(⟨([1]:List Int),([9,10,12]:List Int),([8]:List Int)⟩:aW),(⟨([9,8,12,11,5]:List Int),([9,10,12,8,12]:List Int),([8]:List Int)⟩:aW),(⟨([1]:List Int),([6]:List Int),([9,8,12]:List Int)⟩:aW),(⟨([1]:List Int),([6]:List Int),([9,8,12]:List Int)⟩:aW),(⟨([1]:List Int),([6]:List Int),([9,8,12]:List Int)⟩:aW),(⟨([1]:List Int),([9,8,12]:List Int),([10]:List Int)⟩:aW),(⟨([1]:List Int),([9,8,12]:List Int),([8]:List Int)⟩:aW),(⟨([1]:List Int),([6]:List Int),([8]:List Int)⟩:aW)]:List aW)⟩:ct)
def gK.f:Option (List aW):=
 some ([(⟨([1]:List Int),([6]:List Int),([8]:List Int)⟩:aW),(⟨([1]:List Int),([9]:List Int),([8]:List Int)⟩:aW),(⟨([1]:List Int),([6]:List Int),([8]:List Int)⟩:aW),(⟨([1]:List Int),([9,10,12]:List Int),([8]:List Int)⟩:aW),(⟨([1]:List Int),([9,10,12]:List Int),([8]:List Int)⟩:aW),(⟨([1]:List Int),([9,10,12]:List Int),([8]:List Int)⟩:aW),(⟨([9,8,12,11,5]:List Int),([9,10,12,8,12]:List Int),([8]:List Int)⟩:aW),(⟨([1]:List Int),([6]:List Int),([9,8,12]:List Int)⟩:aW),(⟨([1]:List Int),([6]:List Int),([9,8,12]:List Int)⟩:aW),(⟨([1]:List Int),([6]:List Int),([9,8,12]:List Int)⟩:aW),(⟨([1]:List Int),([9,8,12]:List Int),([10]:List Int)⟩:aW),(⟨([1]:List Int),([9,8,12]:List Int),([8]:List Int)⟩:aW),(⟨([1]:List Int),([6]:List Int),([8]:List Int)⟩:aW)]:List aW)
def reticentlaw20_alive.f:Option Bool:=
 gK.f>>=fun a=>if (a.length:Int)=13 then (lAt a 1>>=fun b=>dC.f (⟨([([97]:Str),([98]:Str)]:List Str),([3,2]:List Int)⟩:az) (⟨a.set (1:Int).toNat (⟨b.May,([6]:List Int),b.Pc⟩:aW)⟩:ct) 2 0 5 (⟨⟨0,0⟩,([(⟨1,1,1⟩:aI)]:List aI),[],[],[]⟩:al) (⟨⟨0,0⟩,([(⟨1,2,1⟩:aI)]:List aI),[],[],[]⟩:al)>>=fun c=>iu.f>>=fun g=>dC.f (⟨([([97]:Str),([98]:Str)]:List Str),([3,2]:List Int)⟩:az) g 2 0 5 (⟨⟨0,0⟩,([(⟨1,1,1⟩:aI)]:List aI),[],[],[]⟩:al) (⟨⟨0,0⟩,([(⟨1,2,1⟩:aI)]:List aI),[],[],[]⟩:al)>>=fun d=>((if c.2=0 then (if d.2=0 then (if c.1=1 then (some (decide (d.1=0))) else (some false)) else (some false)) else (some false):Option Bool)>>=fun e=>some e)) else (some false)
def bU.l0(a:az)(c:Int)(b:Int):Option Int:=
 if b<(a.Up.length:Int) then (bC.f a c b>>=fun d=>bU.l0 a d (IntKind.i64.wrap (b+1))) else (some c)
partial_fixpoint
def bU.f(a:az):Option Int:=
 (bU.l0 a 0 0>>=fun b=>some b)
def ci.f(a:aI):Option Int:=
 if a.Op=10 then (some a.N) else (lAt ([0,0,1,2,2,1,2,1,1,1,0,1,0]:List Int) a.Op>>=fun b=>some b)
def fa.f(a:al)(a1:Int):Option Bool:=
 ((if IntKind.i64.wrap ((IntKind.i64.wrap ((a.Stack.length:Int)-1))-a1)>=0 then (lAt a.Stack (IntKind.i64.wrap ((IntKind.i64.wrap ((a.Stack.length:Int)-1))-a1))>>=fun b=>some (!b.Ret)) else (some false):Option Bool)>>=fun c=>some c)
def di.l0(b:al)(a:Int):Option (Int⊕Unit):=
 if a>=0 then (lAt b.Stack a>>=fun c=>if c.Ret=true then (some (.inl a)) else (di.l0 b (IntKind.i64.wrap (a-1)))) else (some (.inr ()))
partial_fixpoint
def di.f(a:al)(a1:Int):Option Int:=
 (di.l0 a (IntKind.i64.wrap (a1-1))>>=fun o=>match o with|.inl r=>some r|.inr ()=>some (-1))
def bH.l0(a1:al)(b:aI)(a:Int):Option (aM⊕Unit):=
 ci.f b>>=fun c=>if a<c then (fa.f a1 a>>=fun d=>if (!d)=true then (some (.inl (⟨false,⟨false,0,0⟩,⟨false,0,0⟩,⟨false,0,0⟩,0,0,0,0⟩:aM))) else (bH.l0 a1 b (IntKind.i64.wrap (a+1)))) else (some (.inr ()))
partial_fixpoint
def bH.l4(a1:al)(c:aI)(a:Int):Option (aM⊕Unit):=
 if a<c.N then (fa.f a1 (IntKind.i64.wrap (1+a))>>=fun b=>if (!b)=true then (some (.inl (⟨false,⟨false,0,0⟩,⟨false,0,0⟩,⟨false,0,0⟩,0,0,0,0⟩:aM))) else (bH.l4 a1 c (IntKind.i64.wrap (a+1)))) else (some (.inr ()))
partial_fixpoint
def bH.f(w:az)(a1:al):Option aM:=
 lAt a1.Code a1.Pc.V>>=fun b=>bU.f w>>=fun e=>ci.f b>>=fun t=>(bH.l0 a1 b 0>>=fun o=>match o with|.inl r=>some r|.inr ()=>((ci.f b>>=fun u=>if u>0 then (lAt a1.Stack (IntKind.i64.wrap ((a1.Stack.length:Int)-1))>>=fun h=>some (⟨false,h,⟨false,0,0⟩,⟨false,0,0⟩,h.L,e,e,IntKind.i64.wrap ((a1.Stack.length:Int)-t)⟩:aM)) else (some (⟨false,⟨false,0,0⟩,⟨false,0,0⟩,⟨false,0,0⟩,e,e,e,IntKind.i64.wrap ((a1.Stack.length:Int)-t)⟩:aM)):Option aM)>>=fun c=>((ci.f b>>=fun v=>if v>1 then (lAt a1.Stack (IntKind.i64.wrap ((a1.Stack.length:Int)-2))>>=fun i=>some (⟨c.Is,c.A,i,c.R,c.One,i.L,c.Three,c.Below⟩:aM)) else (some c):Option aM)>>=fun a=>((((if b.Op=1 then (some (.inr (⟨true,a.A,a.B,a.R,b.L,a.Two,a.Three,a.Below⟩:aM))) else (((if b.Op=5 then (some (decide (b.Op=5))) else (some (decide (b.Op=6))):Option Bool)>>=fun j=>if j=true then (((if a.A.V<0 then (some true) else (some (decide (a.A.V>=(a1.Mem.length:Int)))):Option Bool)>>=fun k=>if k=true then (some (.inl (⟨false,⟨false,0,0⟩,⟨false,0,0⟩,⟨false,0,0⟩,0,0,0,0⟩:aM))) else (if b.Op=5 then (lAt a1.Mem a.A.V>>=fun l=>some (.inr (⟨true,a.A,a.B,a.R,a.One,l.L,a.Three,a.Below⟩:aM))) else (lAt a1.Mem a.A.V>>=fun m=>some (.inr (⟨true,a.A,a.B,a.R,a.One,a.Two,m.L,a.Below⟩:aM)))))) else (((if b.Op=7 then (some (decide (b.Op=7))) else (some (decide (b.Op=9))):Option Bool)>>=fun n=>if n=true then (((if a.A.V<0 then (some true) else (some (decide (a.A.V>12))):Option Bool)>>=fun p=>if p=true then (some (.inl (⟨false,⟨false,0,0⟩,⟨false,0,0⟩,⟨false,0,0⟩,0,0,0,0⟩:aM))) else ((bH.l4 a1 b 0>>=fun o=>match o with|.inl r=>some (.inl r)|.inr ()=>some (.inr (⟨true,a.A,a.B,a.R,a.One,a.Two,a.Three,a.Below⟩:aM)))))) else (if b.Op=10 then (di.f a1 a.Below>>=fun d=>if d<0 then (some (.inl (⟨false,⟨false,0,0⟩,⟨false,0,0⟩,⟨false,0,0⟩,0,0,0,0⟩:aM))) else (lAt a1.Stack d>>=fun g=>some (.inr (⟨true,a.A,a.B,g,a.One,g.L,a.Three,d⟩:aM)))) else (some (.inr (⟨true,a.A,a.B,a.R,a.One,a.Two,a.Three,a.Below⟩:aM)))))))):Option (aM⊕aM))>>=fun o=>match o with|.inl r=>some (.inl r)|.inr q=>some (.inr q)):Option (aM⊕aM))>>=fun o=>match o with|.inl r=>some r|.inr s=>some s))))
def dA.l0(a:az)(c:Int)(b:Int):Option Int:=
 if b<(a.Up.length:Int) then (bA.f a c b>>=fun d=>dA.l0 a d (IntKind.i64.wrap (b+1))) else (some c)
partial_fixpoint
def dA.f(a:az):Option Int:=
 (dA.l0 a 0 0>>=fun b=>some b)
def bO.B(rc:az->(List Int)->(List Int)->Int->Option dj)(d:az)(a1:List Int)(a2:List Int)(a3:Int):Option dj:=
 lAt a1 a3>>=fun a=>if a<=2 then (some (⟨decide (a=1),0,a3⟩:dj)) else (if a=6 then (bU.f d>>=fun n=>some (⟨false,n,a3⟩:dj)) else (if a=7 then (dA.f d>>=fun p=>some (⟨false,p,a3⟩:dj)) else (((if a>=8 then (some (decide (a<=11))) else (some false):Option Bool)>>=fun q=>if q=true then (lAt a2 (IntKind.i64.wrap (a-8))>>=fun e=>some (⟨false,e,a3⟩:dj)) else (rc d a1 a2 (IntKind.i64.wrap (a3-1))>>=fun b=>rc d a1 a2 (IntKind.i64.wrap (b.From-1))>>=fun c=>((if a=3 then (((if c.Is=true then (some b.Is) else (some false):Option Bool)>>=fun g=>some (g,0))) else (if a=4 then (((if c.Is=true then (some true) else (some b.Is):Option Bool)>>=fun h=>some (h,0))) else (if a=5 then (aP.f d c.A b.A>>=fun i=>some (i,0)) else (if a=12 then (bA.f d c.A b.A>>=fun j=>some (false,j)) else (if a=13 then (bC.f d c.A b.A>>=fun k=>some (false,k)) else (some (false,0)))))):Option (Bool×Int))>>=fun o=>match o with|(l,m)=>some (⟨l,m,c.From⟩:dj)))))))
def bO.F:Nat->az->(List Int)->(List Int)->Int->Option dj
 |0=>fun _ _ _ _=>none
 |k+1=>bO.B (bO.F k)
def bO.f(a:az)(a1:List Int)(a2:List Int)(a3:Int):Option dj:=bO.F 1000 a a1 a2 a3
def cu.f(a:az)(a1:List Int)(a2:List Int):Option dj:=
 bO.f a a1 a2 (IntKind.i64.wrap ((a1.length:Int)-1))>>=fun b=>some b
def dl.l0(c:al)(a1:aM)(a2:Int)(a:List aG)(b:Int):Option (List aG):=
 if b<(c.Mem.length:Int) then (((lAt c.Mem b>>=fun d=>((lAt c.Code c.Pc.V>>=fun e=>if e.Op=6 then (some (decide (b=a1.A.V))) else (some false):Option Bool)>>=fun f=>if f=true then (if (a.length+([(⟨a1.B.V,a2⟩:aG)]:List aG).length)*16<=big then (some (a++([(⟨a1.B.V,a2⟩:aG)]:List aG))) else none) else (if (a.length+([d]:List aG).length)*16<=big then (some (a++([d]:List aG))) else none)):Option (List aG))>>=fun g=>dl.l0 c a1 a2 g (IntKind.i64.wrap (b+1)))) else (some a)
partial_fixpoint
def dl.f(b:al)(a1:aM)(a2:Int):Option (List aG):=
 (dl.l0 b a1 a2 ([]:List aG) 0>>=fun a=>some a)
def dd.f(a:List aF)(a1:aF):Option (List aF):=
 if (([]:List aF).length+a.length)*24<=big then (if ((([]:List aF)++a).length+([a1]:List aF).length)*24<=big then (some ((([]:List aF)++a)++([a1]:List aF))) else none) else none
def fd.f(a:List aF)(a1:aF):Option (List aF):=
 if (([]:List aF).length+a.length)*24<=big then (if ((([]:List aF)++a).length+([a1]:List aF).length)*24<=big then (some ((([]:List aF)++a)++([a1]:List aF))) else none) else none
def eU.f(a:al)(a1:aM)(a2:Int):Option (List aF):=
 lAt a.Code a.Pc.V>>=fun b=>if (0:Int)<=a1.Below/\a1.Below<=(a.Stack.length:Int) then (((if b.Op=1 then (dd.f (lCut a.Stack 0 a1.Below) (⟨false,b.N,a2⟩:aF)>>=fun d=>some (.inl d)) else (if b.Op=3 then (dd.f (lCut a.Stack 0 a1.Below) (⟨false,IntKind.i64.wrap (a1.B.V+a1.A.V),a2⟩:aF)>>=fun e=>some (.inl e)) else (if b.Op=4 then (dd.f (lCut a.Stack 0 a1.Below) (⟨false,IntKind.i64.wrap (a1.B.V-a1.A.V),a2⟩:aF)>>=fun g=>some (.inl g)) else (if b.Op=5 then (lAt a.Mem a1.A.V>>=fun h=>dd.f (lCut a.Stack 0 a1.Below) (⟨false,h.V,a2⟩:aF)>>=fun i=>some (.inl i)) else (if b.Op=9 then (if (0:Int)<=IntKind.i64.wrap (a1.Below-b.N)/\IntKind.i64.wrap (a1.Below-b.N)<=((lCut a.Stack 0 a1.Below).length:Int) then (fd.f (lCut (lCut a.Stack 0 a1.Below) 0 (IntKind.i64.wrap (a1.Below-b.N))) (⟨true,IntKind.i64.wrap (a.Pc.V+1),a.Pc.L⟩:aF)>>=fun c=>if (0:Int)<=IntKind.i64.wrap (a1.Below-b.N)/\IntKind.i64.wrap (a1.Below-b.N)<=((lCut a.Stack 0 a1.Below).length:Int) then (if (c.length+(lCut (lCut a.Stack 0 a1.Below) (IntKind.i64.wrap (a1.Below-b.N)) ((lCut a.Stack 0 a1.Below).length:Int)).length)*24<=big then (some (.inl (c++(lCut (lCut a.Stack 0 a1.Below) (IntKind.i64.wrap (a1.Below-b.N)) ((lCut a.Stack 0 a1.Below).length:Int))))) else none) else none) else none) else (if b.Op=10 then (if b.N=1 then (dd.f (lCut a.Stack 0 a1.Below) (⟨false,a1.A.V,a2⟩:aF)>>=fun j=>some (.inl j)) else (some (.inr ()))) else (some (.inr ()))))))):Option ((List aF)⊕Unit))>>=fun o=>match o with|.inl r=>some r|.inr ()=>some (lCut a.Stack 0 a1.Below))) else none
def fq.f(b:al)(a1:aM):Option Int:=
 lAt b.Code b.Pc.V>>=fun a=>((if a.Op=7 then (some true) else (some (decide (a.Op=9))):Option Bool)>>=fun c=>if c=true then (some a1.A.V) else (if a.Op=10 then (some a1.R.V) else (((if a.Op=8 then (some (!decide (a1.A.V=0))) else (some false):Option Bool)>>=fun d=>if d=true then (some a.N) else (some (IntKind.i64.wrap (b.Pc.V+1)))))))
def dD.f(g:az)(a1:ct)(a2:al):Option bB:=
 if a2.Pc.V>=(a2.Code.length:Int) then (some (⟨a2,3⟩:bB)) else (bH.f g a2>>=fun a=>lAt a2.Code a2.Pc.V>>=fun i=>if (!a.Is)=true then (some (⟨a2,3⟩:bB)) else (if i.Op=12 then (some (⟨a2,1⟩:bB)) else (lAt a1.Rows i.Op>>=fun j=>cu.f g j.May ([a2.Pc.L,a.One,a.Two,a.Three]:List Int)>>=fun m=>if (!m.Is)=true then (some (⟨a2,2⟩:bB)) else (cu.f g j.Res ([a2.Pc.L,a.One,a.Two,a.Three]:List Int)>>=fun h=>dl.f a2 a h.A>>=fun b=>eU.f a2 a h.A>>=fun c=>fq.f a2 a>>=fun d=>cu.f g j.Pc ([a2.Pc.L,a.One,a.Two,a.Three]:List Int)>>=fun e=>if i.Op=11 then (if (([]:List aG).length+a2.Out.length)*16<=big then (if ((([]:List aG)++a2.Out).length+([(⟨a.A.V,h.A⟩:aG)]:List aG).length)*16<=big then (dg.f g (⟨⟨d,e.A⟩,a2.Code,b,c,(([]:List aG)++a2.Out)++([(⟨a.A.V,h.A⟩:aG)]:List aG)⟩:al)>>=fun k=>if (!k)=true then (some (⟨a2,3⟩:bB)) else (some (⟨⟨⟨d,e.A⟩,a2.Code,b,c,(([]:List aG)++a2.Out)++([(⟨a.A.V,h.A⟩:aG)]:List aG)⟩,0⟩:bB))) else none) else none) else (dg.f g (⟨⟨d,e.A⟩,a2.Code,b,c,a2.Out⟩:al)>>=fun l=>if (!l)=true then (some (⟨a2,3⟩:bB)) else (some (⟨⟨⟨d,e.A⟩,a2.Code,b,c,a2.Out⟩,0⟩:bB)))))))
def cO.l0(e:az)(a1:ct)(a3:Int)(c:al)(g:Int)(b:List al)(d:Int):Option (dU⊕(al×Int×(List al))):=
 if d<a3 then (dD.f e a1 c>>=fun a=>if a.What=0 then (if (b.length+([a.S]:List al).length)*112<=big then (cO.l0 e a1 a3 a.S a.What (b++([a.S]:List al)) (IntKind.i64.wrap (d+1))) else none) else (some (.inl (⟨b,a.What⟩:dU)))) else (some (.inr (c,g,b)))
partial_fixpoint
def cO.f(c:az)(a1:ct)(a2:al)(a3:Int):Option dU:=
 if (([]:List al).length+([a2]:List al).length)*112<=big then ((cO.l0 c a1 a3 a2 0 (([]:List al)++([a2]:List al)) 0>>=fun o=>match o with|.inl r=>some r|.inr (d,a,b)=>some (⟨b,a⟩:dU))) else none
def dn.f(a:dU):Option al:=
 lAt a.L (IntKind.i64.wrap ((a.L.length:Int)-1))>>=fun b=>some b
def cj.f(a:cd)(a1:al):Option Bool:=
 bP.f a.L a.O a1.Pc.L>>=fun b=>some b
def cL.f(a:cd)(a1:al)(a2:al):Option Int:=
 eI.f a.L a.O a1 a2>>=fun b=>if b=true then (some 0) else (some 1)
def fT.f(a:cd)(a1:al)(a2:al):Option Int:=
 cO.f a.L a.T a1 a.Fuel>>=fun b=>cO.f a.L a.T a2 a.Fuel>>=fun c=>((if b.What=1 then (if c.What=1 then (dn.f b>>=fun d=>cj.f a d>>=fun e=>if (!e)=true then (some true) else (dn.f c>>=fun g=>cj.f a g>>=fun h=>some (!h))) else (some true)) else (some true):Option Bool)>>=fun i=>if i=true then (some 2) else (dn.f b>>=fun j=>dn.f c>>=fun k=>cL.f a j k>>=fun l=>some l))
def cx.l0(e:cd)(d:dU)(a:List al)(b:Int):Option (List al):=
 if b<(d.L.length:Int) then (((lAt d.L b>>=fun c=>cj.f e c>>=fun g=>if g=true then (if (a.length+([c]:List al).length)*112<=big then (some (a++([c]:List al))) else none) else (some a):Option (List al))>>=fun h=>cx.l0 e d h (IntKind.i64.wrap (b+1)))) else (some a)
partial_fixpoint
def cx.f(a:cd)(a1:al):Option (List al):=
 cO.f a.L a.T a1 a.Fuel>>=fun c=>(cx.l0 a c ([]:List al) 0>>=fun b=>some b)
def dp.l0(d:cd)(b:List al)(c:List al)(a:Int):Option (Int⊕Unit):=
 ((if a<(b.length:Int) then (some (decide (a<(c.length:Int)))) else (some false):Option Bool)>>=fun e=>if e=true then (lAt b a>>=fun g=>lAt c a>>=fun h=>cL.f d g h>>=fun i=>if i=1 then (some (.inl 1)) else (dp.l0 d b c (IntKind.i64.wrap (a+1)))) else (some (.inr ())))
partial_fixpoint
def dp.f(a:cd)(a1:al)(a2:al):Option Int:=
 cx.f a a1>>=fun b=>cx.f a a2>>=fun c=>(dp.l0 a b c 0>>=fun o=>match o with|.inl r=>some r|.inr ()=>some 0)
def fH.f(a:cd)(a1:al)(a2:al):Option Int:=
 dD.f a.L a.T a1>>=fun b=>dD.f a.L a.T a2>>=fun c=>if b.What=0 then (cj.f a a1>>=fun i=>if i=true then (if c.What=0 then (cL.f a b.S c.S>>=fun j=>some j) else (some 2)) else (cj.f a b.S>>=fun k=>if (!k)=true then (cL.f a a1 b.S>>=fun d=>some d) else (((if c.What=0 then (cj.f a c.S>>=fun e=>some (!e)) else (some true):Option Bool)>>=fun g=>if g=true then (some 2) else (cL.f a b.S c.S>>=fun h=>some h))))) else (some 2)
def fL.f(a:cd)(a1:Int)(a2:al)(a3:al):Option Int:=
 if a1=0 then (fT.f a a2 a3>>=fun b=>some b) else (if a1=1 then (dp.f a a2 a3>>=fun c=>some c) else (fH.f a a2 a3>>=fun d=>some d))
def eW.f(m:az)(a1:ct)(a2:Int)(a3:Int)(a4:Int)(n:al)(o:al):Option Bool:=
 dS.f m>>=fun b=>dE.f a1>>=fun c=>fk.f n>>=fun d=>fk.f o>>=fun e=>dC.f b c a2 a3 a4 d e>>=fun a=>fj.f (⟨b,c,a3,a4⟩:cd) a2 d e>>=fun g=>if g=0 then (((reticentlaw20_alive.f>>=fun h=>if h=true then (if a.2=0 then (fL.f (⟨b,c,a3,a4⟩:cd) a2 d e>>=fun i=>some (decide (a.1=i))) else (some false)) else (some false):Option Bool)>>=fun j=>some j)) else (((reticentlaw20_alive.f>>=fun k=>if k=true then (if a.2=g then (some (decide (a.1=0))) else (some false)) else (some false):Option Bool)>>=fun l=>some l))
end Go.Proofs.YtmjcpkmongafnaaGreatDoor.TT
