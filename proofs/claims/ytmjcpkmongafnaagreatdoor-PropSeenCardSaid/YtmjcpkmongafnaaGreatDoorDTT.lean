import Derived.Test.YtmjcpkmongafnaaGreatDoorAb37
import Derived.Test.YtmjcpkmongafnaaGreatDoorProg
set_option linter.unusedVariables false
namespace Go.Proofs.YtmjcpkmongafnaaGreatDoor.TT
open Go Go.Proofs.YtmjcpkmongafnaaGreatDoor.Ab
structure ab where
 Names:List Str
 Up:List Int
structure aE where
 May:List Int
 Res:List Int
 Pc:List Int
structure aZ where
 Rows:List aE
structure am where
 V:Int
 L:Int
 deriving DecidableEq
structure ap where
 Op:Int
 N:Int
 L:Int
 deriving DecidableEq
structure al where
 Ret:Bool
 V:Int
 L:Int
 deriving DecidableEq
structure aa where
 Pc:am
 Code:List ap
 Mem:List am
 Stack:List al
 Out:List am
structure S202 where
 x0_:Int
 x1_:Int
 x2_:Int
structure ah where
 l_:ab
 s_:aa
 x_:ap
 a_:al
 b_:al
 r_:al
 below_:Int
 one_:S202
inductive If221 where
 |nil
 |c218 (x:Bool)
 |c227 (x:Int)
def vIf221:If221->Option (TypeId×Sig)
 |.nil=>none
 |.c218 x=>some (218,kB.sig x)
 |.c227 x=>some (227,(kI .i64).sig x)
def eV:If221->Bool×Bool
 |.c218 x=>(x,true)
 |_=>(false,false)
theorem iF:AsOk vIf221 218 kB false eV:=fun x=>by
 cases x<;>simp[vIf221,eV]
def fO:If221->Int×Bool
 |.c227 x=>(x,true)
 |_=>(0,false)
theorem iG:AsOk vIf221 227 (kI .i64) 0 fO:=fun x=>by
 cases x<;>simp[vIf221,fO]
structure bb where
 l_:ab
 labels_:List Int
 pile_:List If221
structure ce where
 l_:ab
 t_:aZ
 o_:Int
 fuel_:Int
 a_:aa
 b_:aa
structure eH where
 I:Int
 E:Int
structure dx where
 same_:Option (ap->ap->Option Bool)
 label_:Option (ap->Option Int)
 seen_:Option (ap->ap->Option Bool)
structure dy where
 same_:Option (am->am->Option Bool)
 label_:Option (am->Option Int)
 seen_:Option (am->am->Option Bool)
structure dz where
 same_:Option (al->al->Option Bool)
 label_:Option (al->Option Int)
 seen_:Option (al->al->Option Bool)
structure bp where
 l_:ab
 o_:Int
structure aq where
 Is:Bool
 A:al
 B:al
 R:al
 One:Int
 Two:Int
 Three:Int
 Below:Int
structure bY where
 Is:Bool
 A:Int
 From:Int
structure aP where
 S:aa
 What:Int
structure dj where
 L:List aa
 What:Int
structure cY where
 L:ab
 T:aZ
 O:Int
 Fuel:Int
def ks0:Str:=[0,1,1,2,1,2,2,3,1,2,2,3,2,3,3,4,1,2,2,3,2,3,3,4,2,3,3,4,3,4,4,5,1,2,2,3,2,3,3,4,2,3,3,4,3,4,4,5,2,3,3,4,3,4,4,5,3,4,4,5,4,5,5,6,1,2,2,3,2,3,3,4,2,3,3,4,3,4,4,5,2,3,3,4,3,4,4,5,3,4,4,5,4,5,5,6,2,3,3,4,3,4,4,5,3,4,4,5,4,5,5,6,3,4,4,5,4,5,5,6,4,5,5,6,5,6,6,7,1,2,2,3,2,3,3,4,2,3,3,4,3,4,4,5,2,3,3,4,3,4,4,5,3,4,4,5,4,5,5,6,2,3,3,4,3,4,4,5,3,4,4,5,4,5,5,6,3,4,4,5,4,5,5,6,4,5,5,6,5,6,6,7,2,3,3,4,3,4,4,5,3,4,4,5,4,5,5,6,3,4,4,5,4,5,5,6,4,5,5,6,5,6,6,7,3,4,4,5,4,5,5,6,4,5,5,6,5,6,6,7,4,5,5,6,5,6,6,7,5,6,6,7,6,7,7,8]
def aj:List (Fld ab):=[⟨(kL kS),ab.Names⟩,⟨(kL (kI .u32)),ab.Up⟩]
def aJ:List (Fld aE):=[⟨(kL (kI .i64)),aE.May⟩,⟨(kL (kI .i64)),aE.Res⟩,⟨(kL (kI .i64)),aE.Pc⟩]
def aL:List (Fld aZ):=[⟨(kL (kR aJ)),aZ.Rows⟩]
def ai:List (Fld am):=[⟨(kI .i64),am.V⟩,⟨(kI .i64),am.L⟩]
def ao:List (Fld ap):=[⟨(kI .i64),ap.Op⟩,⟨(kI .i64),ap.N⟩,⟨(kI .i64),ap.L⟩]
def ak:List (Fld al):=[⟨kB,al.Ret⟩,⟨(kI .i64),al.V⟩,⟨(kI .i64),al.L⟩]
def ae:List (Fld aa):=[⟨(kR ai),aa.Pc⟩,⟨(kL (kR ao)),aa.Code⟩,⟨(kL (kR ai)),aa.Mem⟩,⟨(kL (kR ak)),aa.Stack⟩,⟨(kL (kR ai)),aa.Out⟩]
def ju:List (Fld S202):=[⟨(kI .i64),S202.x0_⟩,⟨(kI .i64),S202.x1_⟩,⟨(kI .i64),S202.x2_⟩]
def fv:List (Fld ah):=[⟨(kR aj),ah.l_⟩,⟨(kR ae),ah.s_⟩,⟨(kR ao),ah.x_⟩,⟨(kR ak),ah.a_⟩,⟨(kR ak),ah.b_⟩,⟨(kR ak),ah.r_⟩,⟨(kI .i64),ah.below_⟩,⟨(kR ju),ah.one_⟩]
def f_judge_judge:List (Fld bb):=[⟨(kR aj),bb.l_⟩,⟨(kL (kI .i64)),bb.labels_⟩,⟨(kL (kF vIf221)),bb.pile_⟩]
def bW:List (Fld ce):=[⟨(kR aj),ce.l_⟩,⟨(kR aL),ce.t_⟩,⟨(kI .i64),ce.o_⟩,⟨(kI .i64),ce.fuel_⟩,⟨(kR ae),ce.a_⟩,⟨(kR ae),ce.b_⟩]
def cH:List (Fld eH):=[⟨(kI .i64),eH.I⟩,⟨(kI .i64),eH.E⟩]
noncomputable def dc:List (Fld dx):=[⟨(kFn Tryz.prog (rl2 (kR ao) (kR ao) kB)),dx.same_⟩,⟨(kFn Tryz.prog (rl1 (kR ao) (kI .i64))),dx.label_⟩,⟨(kFn Tryz.prog (rl2 (kR ao) (kR ao) kB)),dx.seen_⟩]
noncomputable def dd:List (Fld dy):=[⟨(kFn Tryz.prog (rl2 (kR ai) (kR ai) kB)),dy.same_⟩,⟨(kFn Tryz.prog (rl1 (kR ai) (kI .i64))),dy.label_⟩,⟨(kFn Tryz.prog (rl2 (kR ai) (kR ai) kB)),dy.seen_⟩]
noncomputable def de:List (Fld dz):=[⟨(kFn Tryz.prog (rl2 (kR ak) (kR ak) kB)),dz.same_⟩,⟨(kFn Tryz.prog (rl1 (kR ak) (kI .i64))),dz.label_⟩,⟨(kFn Tryz.prog (rl2 (kR ak) (kR ak) kB)),dz.seen_⟩]
def bC:List (Fld bp):=[⟨(kR aj),bp.l_⟩,⟨(kI .i64),bp.o_⟩]
def aM:List (Fld aq):=[⟨kB,aq.Is⟩,⟨(kR ak),aq.A⟩,⟨(kR ak),aq.B⟩,⟨(kR ak),aq.R⟩,⟨(kI .i64),aq.One⟩,⟨(kI .i64),aq.Two⟩,⟨(kI .i64),aq.Three⟩,⟨(kI .i64),aq.Below⟩]
def ba:List (Fld bY):=[⟨kB,bY.Is⟩,⟨(kI .i64),bY.A⟩,⟨(kI .i64),bY.From⟩]
def bj:List (Fld aP):=[⟨(kR ae),aP.S⟩,⟨(kI .i64),aP.What⟩]
def eE:List (Fld dj):=[⟨(kL (kR ae)),dj.L⟩,⟨(kI .i64),dj.What⟩]
def cy:List (Fld cY):=[⟨(kR aj),cY.L⟩,⟨(kR aL),cY.T⟩,⟨(kI .i64),cY.O⟩,⟨(kI .i64),cY.Fuel⟩]
def fP:List (Fld ab):=[⟨(kN Str),ab.Names⟩,⟨(kL (kI .u32)),ab.Up⟩]
def fe:List (Fld bb):=[⟨(kR aj),bb.l_⟩,⟨(kL (kI .i64)),bb.labels_⟩,⟨(kN If221),bb.pile_⟩]
def fj:List (Fld dj):=[⟨(kN aa),dj.L⟩,⟨(kI .i64),dj.What⟩]
def cZ.l0(a0:ab)(v11:List Str)(v12:Int):Option (List Str):=
 if v12<((lCut a0.Names 0 (if 10<(a0.Names.length:Int) then 10 else (a0.Names.length:Int))).length:Int) then (lAt (lCut a0.Names 0 (if 10<(a0.Names.length:Int) then 10 else (a0.Names.length:Int))) v12>>=fun y15=>if (0:Int)<=(if 15<(y15.length:Int) then 15 else (y15.length:Int))/\(if 15<(y15.length:Int) then 15 else (y15.length:Int))<=(y15.length:Int) then (if (v11.length+([sCut y15 0 (if 15<(y15.length:Int) then 15 else (y15.length:Int))]:List Str).length)*16<=big then (cZ.l0 a0 (v11++([sCut y15 0 (if 15<(y15.length:Int) then 15 else (y15.length:Int))]:List Str)) (IntKind.i64.wrap (v12+1))) else none) else none) else (some v11)
partial_fixpoint
def cZ.f(a0:ab):Option ab:=
 if (0:Int)<=(if 10<(a0.Up.length:Int) then 10 else (a0.Up.length:Int))/\(if 10<(a0.Up.length:Int) then 10 else (a0.Up.length:Int))<=(a0.Up.length:Int) then (if (0:Int)<=(if 10<(a0.Names.length:Int) then 10 else (a0.Names.length:Int))/\(if 10<(a0.Names.length:Int) then 10 else (a0.Names.length:Int))<=(a0.Names.length:Int) then ((cZ.l0 a0 ([]:List Str) 0>>=fun x13=>some (⟨x13,lCut a0.Up 0 (if 10<(a0.Up.length:Int) then 10 else (a0.Up.length:Int))⟩:ab))) else none) else none
def cM.l0(a0:aZ)(v14:List aE)(v15:Int):Option (List aE):=
 if v15<((lCut a0.Rows 0 (if 15<(a0.Rows.length:Int) then 15 else (a0.Rows.length:Int))).length:Int) then (lAt (lCut a0.Rows 0 (if 15<(a0.Rows.length:Int) then 15 else (a0.Rows.length:Int))) v15>>=fun y18=>if (0:Int)<=(if 45<(y18.May.length:Int) then 45 else (y18.May.length:Int))/\(if 45<(y18.May.length:Int) then 45 else (y18.May.length:Int))<=(y18.May.length:Int) then (if (0:Int)<=(if 45<(y18.Res.length:Int) then 45 else (y18.Res.length:Int))/\(if 45<(y18.Res.length:Int) then 45 else (y18.Res.length:Int))<=(y18.Res.length:Int) then (if (0:Int)<=(if 45<(y18.Pc.length:Int) then 45 else (y18.Pc.length:Int))/\(if 45<(y18.Pc.length:Int) then 45 else (y18.Pc.length:Int))<=(y18.Pc.length:Int) then (if (v14.length+([(⟨lCut y18.May 0 (if 45<(y18.May.length:Int) then 45 else (y18.May.length:Int)),lCut y18.Res 0 (if 45<(y18.Res.length:Int) then 45 else (y18.Res.length:Int)),lCut y18.Pc 0 (if 45<(y18.Pc.length:Int) then 45 else (y18.Pc.length:Int))⟩:aE)]:List aE).length)*72<=big then (cM.l0 a0 (v14++([(⟨lCut y18.May 0 (if 45<(y18.May.length:Int) then 45 else (y18.May.length:Int)),lCut y18.Res 0 (if 45<(y18.Res.length:Int) then 45 else (y18.Res.length:Int)),lCut y18.Pc 0 (if 45<(y18.Pc.length:Int) then 45 else (y18.Pc.length:Int))⟩:aE)]:List aE)) (IntKind.i64.wrap (v15+1))) else none) else none) else none) else none) else (some v14)
partial_fixpoint
def cM.f(a0:aZ):Option aZ:=
 if (0:Int)<=(if 15<(a0.Rows.length:Int) then 15 else (a0.Rows.length:Int))/\(if 15<(a0.Rows.length:Int) then 15 else (a0.Rows.length:Int))<=(a0.Rows.length:Int) then ((cM.l0 a0 ([]:List aE) 0>>=fun x16=>some (⟨x16⟩:aZ))) else none
def eQ.f(a0:aa):Option aa:=
 if (0:Int)<=(if 15<(a0.Code.length:Int) then 15 else (a0.Code.length:Int))/\(if 15<(a0.Code.length:Int) then 15 else (a0.Code.length:Int))<=(a0.Code.length:Int) then (if (0:Int)<=(if 15<(a0.Mem.length:Int) then 15 else (a0.Mem.length:Int))/\(if 15<(a0.Mem.length:Int) then 15 else (a0.Mem.length:Int))<=(a0.Mem.length:Int) then (if (0:Int)<=(if 15<(a0.Stack.length:Int) then 15 else (a0.Stack.length:Int))/\(if 15<(a0.Stack.length:Int) then 15 else (a0.Stack.length:Int))<=(a0.Stack.length:Int) then (if (0:Int)<=(if 15<(a0.Out.length:Int) then 15 else (a0.Out.length:Int))/\(if 15<(a0.Out.length:Int) then 15 else (a0.Out.length:Int))<=(a0.Out.length:Int) then (some (⟨a0.Pc,lCut a0.Code 0 (if 15<(a0.Code.length:Int) then 15 else (a0.Code.length:Int)),lCut a0.Mem 0 (if 15<(a0.Mem.length:Int) then 15 else (a0.Mem.length:Int)),lCut a0.Stack 0 (if 15<(a0.Stack.length:Int) then 15 else (a0.Stack.length:Int)),lCut a0.Out 0 (if 15<(a0.Out.length:Int) then 15 else (a0.Out.length:Int))⟩:aa)) else none) else none) else none) else none
def b8.l0(a0:Str)(v19:Int):Option (Bool⊕Unit):=
 if v19<(a0.length:Int) then (((if (0:Int)<=v19/\v19<(a0.length:Int) then (if sAt a0 v19<97 then (some true) else (if (0:Int)<=v19/\v19<(a0.length:Int) then (some (decide (sAt a0 v19>122))) else none)) else none:Option Bool)>>=fun x24=>if x24=true then (some (.inl false)) else (b8.l0 a0 (IntKind.i64.wrap (v19+1))))) else (some (.inr ()))
partial_fixpoint
def b8.f(a0:Str):Option Bool:=
 (b8.l0 a0 0>>=fun o=>match o with|.inl r=>some r|.inr ()=>((if a0=([]:Str) then (some false) else (some (decide ((a0.length:Int)<=12))):Option Bool)>>=fun x30=>some x30))
def aV.l0(a0:List Str)(a1:Str)(v7:Int):Option (Int⊕Unit):=
 if v7<(a0.length:Int) then (lAt a0 v7>>=fun y9=>if a1=y9 then (some (.inl v7)) else (aV.l0 a0 a1 (IntKind.i64.wrap (v7+1)))) else (some (.inr ()))
partial_fixpoint
def aV.f(a0:List Str)(a1:Str):Option Int:=
 (aV.l0 a0 a1 0>>=fun o=>match o with|.inl r=>some r|.inr ()=>some (-1))
def bR.f(a0:List Str)(a1:Str):Option Bool:=
 aV.f a0 a1>>=fun y1=>some (decide (y1>=0))
def cF.l0(a0:ab)(v43:Int):Option (Bool⊕Unit):=
 if v43<(a0.Names.length:Int) then (lAt a0.Names v43>>=fun y45=>((b8.f y45>>=fun y54=>if (!y54)=true then (some true) else (if (0:Int)<=v43/\v43<=(a0.Names.length:Int) then (bR.f (lCut a0.Names 0 v43) y45>>=fun y57=>if y57=true then (some true) else (lAt a0.Up v43>>=fun y59=>if ¬(a0.Up.length:Int)<0 then (some (!decide (bShr .u32 y59 (a0.Up.length:Int)=0))) else none)) else none):Option Bool)>>=fun x53=>if x53=true then (some (.inl false)) else (cF.l0 a0 (IntKind.i64.wrap (v43+1))))) else (some (.inr ()))
partial_fixpoint
def cF.f(a0:ab):Option Bool:=
 ((if (a0.Up.length:Int)<1 then (some true) else (if (a0.Up.length:Int)>8 then (some true) else (some (!decide ((a0.Names.length:Int)=(a0.Up.length:Int))))):Option Bool)>>=fun x3=>if x3=true then (some false) else ((cF.l0 a0 0>>=fun o=>match o with|.inl r=>some r|.inr ()=>some true)))
def aR.l3{σ:Type}(a_y:σ->Int->Int->Option (Bool×σ))(a1:Int)(v28:Int)(v37:σ)(v38:Int):Option (σ⊕σ):=
 if v38<a1 then (a_y v37 v28 v38>>=fun y41=>if (!y41.1)=true then (some (.inl y41.2)) else (aR.l3 a_y a1 v28 y41.2 (IntKind.i64.wrap (v38+1)))) else (some (.inr v37))
partial_fixpoint
def aR.l2{σ:Type}(a_y:σ->Int->Int->Option (Bool×σ))(a1:Int)(v27:σ)(v28:Int):Option (σ⊕σ):=
 if v28<a1 then ((aR.l3 a_y a1 v28 v27 0>>=fun o=>match o with|.inl r=>some (.inl r)|.inr x39=>aR.l2 a_y a1 x39 (IntKind.i64.wrap (v28+1)))) else (some (.inr v27))
partial_fixpoint
def aR.f{σ:Type}(a_y:σ->Int->Int->Option (Bool×σ))(a_s:σ)(a1:Int):Option σ:=
 (aR.l2 a_y a1 a_s 0>>=fun o=>match o with|.inl r=>some r|.inr x29=>some x29)
def fc.f(a0:Int):Option Int:=
 some a0
def dg.f(a0:ab)(a1:Int)(a2:Int):Option Bool:=
 lAt a0.Up a1>>=fun y1=>if ¬a2<0 then (some (decide (bAnd .u32 (bShr .u32 y1 a2) 1=1))) else none
def dh.y0(a0:ab)(v26:Unit)(v27:Int)(v28:Int):Option (Bool×((Unit)×Nat)):=
 ((if v27=v28 then (dg.f a0 v27 v28>>=fun y37=>if (!y37)=true then (some true) else (some false)) else (dg.f a0 v27 v28>>=fun y39=>if y39=true then (dg.f a0 v28 v27>>=fun y41=>some y41) else (some false)):Option Bool)>>=fun x35=>if x35=true then (some (false,((),1))) else (((dg.f a0 v27 v28>>=fun y48=>if y48=true then (lAt a0.Up v28>>=fun y50=>lAt a0.Up v27>>=fun y51=>some (!decide (bAndNot .u32 y50 y51=0))) else (some false):Option Bool)>>=fun x47=>if x47=true then (some (false,((),1))) else (some (true,((),0))))))
def dh.f(a0:ab):Option Bool:=
 fc.f (a0.Up.length:Int)>>=fun y1=>(aR.f (yOf (dh.y0 a0)) ((),0) y1>>=fun y53=>if y53.2=0 then (some true) else if y53.2=1 then (some false) else none)
def az.l0(a0:List Int)(a1:Int->Option Bool)(v9:Int):Option (Int⊕Unit):=
 if v9<(a0.length:Int) then (lAt a0 v9>>=fun y11=>a1 y11>>=fun y12=>if y12=true then (some (.inl v9)) else (az.l0 a0 a1 (IntKind.i64.wrap (v9+1)))) else (some (.inr ()))
partial_fixpoint
def az.f(a0:List Int)(a1:Int->Option Bool):Option Int:=
 (az.l0 a0 a1 0>>=fun o=>match o with|.inl r=>some r|.inr ()=>some (-1))
def fw.f(a0:Int)(a1:Int):Option Bool:=
 some (decide (a0=a1))
def ed.f(a0:ab)(a1:Int)(a2:Int):Option Int:=
 lAt a0.Up a1>>=fun y1=>lAt a0.Up a2>>=fun y2=>az.f a0.Up (fun z0=>fw.f z0 (bAnd .u32 y1 y2))>>=fun y3=>some y3
def cf.l0(a0:ab)(a1:Int)(v8:Int)(v9:Int):Option Int:=
 if v8<(a0.Up.length:Int) then (lAt a0.Up v8>>=fun y12=>if ¬a1<0 then (if ¬v8<0 then (cf.l0 a0 a1 (IntKind.i64.wrap (v8+1)) (bOr .u32 v9 (bShl .u32 (bAnd .u32 (bShr .u32 y12 a1) 1) v8))) else none) else none) else (some v9)
partial_fixpoint
def cf.f(a0:ab)(a1:Int):Option Int:=
 (cf.l0 a0 a1 0 0>>=fun x10=>some x10)
def b4.l0(a0:ab)(y1:Int)(y2:Int)(v9:Int):Option (Int⊕Unit):=
 if v9<(a0.Up.length:Int) then (cf.f a0 v9>>=fun y11=>if y11=bAnd .u32 y1 y2 then (some (.inl v9)) else (b4.l0 a0 y1 y2 (IntKind.i64.wrap (v9+1)))) else (some (.inr ()))
partial_fixpoint
def b4.f(a0:ab)(a1:Int)(a2:Int):Option Int:=
 cf.f a0 a1>>=fun y1=>cf.f a0 a2>>=fun y2=>(b4.l0 a0 y1 y2 0>>=fun o=>match o with|.inl r=>some r|.inr ()=>some (-1))
def bK.y0(a0:ab)(v22:Int)(v23:Int)(v24:Int):Option (Bool×((Int)×Nat)):=
 ((ed.f a0 v23 v24>>=fun y29=>if y29<0 then (some true) else (b4.f a0 v23 v24>>=fun y31=>some (decide (y31<0))):Option Bool)>>=fun x28=>if x28=true then (some (false,(3,1))) else (some (true,(v22,0))))
def bK.f(a0:ab):Option Int:=
 cF.f a0>>=fun y1=>if (!y1)=true then (some 1) else (dh.f a0>>=fun y3=>if (!y3)=true then (some 2) else (fc.f (a0.Up.length:Int)>>=fun y5=>(aR.f (yOf (bK.y0 a0)) (0,0) y5>>=fun y33=>if y33.2=0 then (some 0) else if y33.2=1 then (some y33.1) else none)))
def dK.f(a0:Bool)(a1:List Bool):Option ((List Bool)×Bool):=
 ((if IntKind.i64.wrap ((a1.length:Int)-1)<1 then (some true) else (lAt a1 (IntKind.i64.wrap ((a1.length:Int)-1))>>=fun y7=>if y7=a0 then (lAt a1 (IntKind.i64.wrap ((IntKind.i64.wrap ((a1.length:Int)-1))-1))>>=fun y9=>some (!decide (y9=a0))) else (some true)):Option Bool)>>=fun x5=>if x5=true then (some (a1,false)) else (if (0:Int)<=IntKind.i64.wrap ((IntKind.i64.wrap ((a1.length:Int)-1))-1)/\IntKind.i64.wrap ((IntKind.i64.wrap ((a1.length:Int)-1))-1)<=(a1.length:Int) then (some (a1.take (IntKind.i64.wrap ((IntKind.i64.wrap ((a1.length:Int)-1))-1)).toNat,true)) else none))
def dt.l0(a0:List Int)(v269:List Bool)(v270:Int):Option ((Bool×Bool)⊕(List Bool)):=
 if v270<(a0.length:Int) then (((lAt a0 v270>>=fun y340=>((if y340=1 then (if (v269.length+([false]:List Bool).length)*1<=big then (some (v269++([false]:List Bool),true)) else none) else (if y340=2 then (if (v269.length+([false]:List Bool).length)*1<=big then (some (v269++([false]:List Bool),true)) else none) else (if y340=6 then (if (v269.length+([true]:List Bool).length)*1<=big then (some (v269++([true]:List Bool),true)) else none) else (if y340=7 then (if (v269.length+([true]:List Bool).length)*1<=big then (some (v269++([true]:List Bool),true)) else none) else (if y340=8 then (if (v269.length+([true]:List Bool).length)*1<=big then (some (v269++([true]:List Bool),true)) else none) else (if y340=9 then (if (v269.length+([true]:List Bool).length)*1<=big then (some (v269++([true]:List Bool),true)) else none) else (if y340=10 then (if (v269.length+([true]:List Bool).length)*1<=big then (some (v269++([true]:List Bool),true)) else none) else (if y340=11 then (if (v269.length+([true]:List Bool).length)*1<=big then (some (v269++([true]:List Bool),true)) else none) else (if y340=3 then (dK.f false v269>>=fun y391=>if (y391.1.length+([false]:List Bool).length)*1<=big then (some (y391.1++([false]:List Bool),y391.2)) else none) else (if y340=4 then (dK.f false v269>>=fun y394=>if (y394.1.length+([false]:List Bool).length)*1<=big then (some (y394.1++([false]:List Bool),y394.2)) else none) else (if y340=5 then (dK.f true v269>>=fun y397=>if (y397.1.length+([false]:List Bool).length)*1<=big then (some (y397.1++([false]:List Bool),y397.2)) else none) else (if y340=12 then (dK.f true v269>>=fun y400=>if (y400.1.length+([true]:List Bool).length)*1<=big then (some (y400.1++([true]:List Bool),y400.2)) else none) else (if y340=13 then (dK.f true v269>>=fun y403=>if (y403.1.length+([true]:List Bool).length)*1<=big then (some (y403.1++([true]:List Bool),y403.2)) else none) else (some (v269,false)))))))))))))):Option ((List Bool)×Bool))>>=fun o=>match o with|(x372,x373)=>if (!x373)=true then (some (.inl (false,false))) else (some (.inr x372))):Option ((Bool×Bool)⊕(List Bool)))>>=fun o=>match o with|.inl r=>some (.inl r)|.inr x339=>dt.l0 a0 x339 (IntKind.i64.wrap (v270+1)))) else (some (.inr v269))
partial_fixpoint
def dt.f(a0:List Int):Option (Bool×Bool):=
 (dt.l0 a0 ([]:List Bool) 0>>=fun o=>match o with|.inl r=>some r|.inr x271=>((if (x271.length:Int)=1 then (some (decide ((a0.length:Int)>40))) else (some true):Option Bool)>>=fun x407=>if x407=true then (some (false,false)) else (lAt x271 0>>=fun y410=>some (y410,true))))
def dI.f(a0:List Int)(a1:Bool):Option Bool:=
 dt.f a0>>=fun y1=>((if y1.2=true then (some (decide (y1.1=a1))) else (some false):Option Bool)>>=fun x3=>some x3)
def fa.f(a0:aE):Option Bool:=
 ((dI.f a0.May false>>=fun y7=>if y7=true then (dI.f a0.Res true>>=fun y9=>if y9=true then (dI.f a0.Pc true>>=fun y11=>some y11) else (some false)) else (some false):Option Bool)>>=fun x6=>some x6)
def dG.l0(a0:List Int)(v31:Int)(v32:Int):Option Int:=
 if v31<(a0.length:Int) then (((lAt a0 v31>>=fun y42=>((if y42>=8 then (some (decide (y42<=11))) else (some false):Option Bool)>>=fun x44=>if x44=true then (if ¬IntKind.i64.wrap (y42-8)<0 then (some (bOr .u32 v32 (bShl .u32 1 (IntKind.i64.wrap (y42-8))))) else none) else (some v32)):Option Int)>>=fun x41=>dG.l0 a0 (IntKind.i64.wrap (v31+1)) x41)) else (some v32)
partial_fixpoint
def dG.f(a0:List Int):Option (Int×Int):=
 dt.f a0>>=fun y1=>if (!y1.2)=true then (some (0,1)) else ((dG.l0 a0 0 0>>=fun x33=>some (x33,0)))
def ef.f(a0:Int)(a1:List Int):Option Bool:=
 dG.f a1>>=fun y1=>((if y1.2=0 then (lAt gl0 a0>>=fun y7=>if ¬IntKind.i64.wrap (y7+1)<0 then (some (decide (bShr .u32 y1.1 (IntKind.i64.wrap (y7+1))=0))) else none) else (some false):Option Bool)>>=fun x5=>some x5)
def eM.f(a0:Int)(a1:aE):Option Bool:=
 ((ef.f a0 a1.May>>=fun y7=>if y7=true then (ef.f a0 a1.Res>>=fun y9=>if y9=true then (ef.f a0 a1.Pc>>=fun y11=>some y11) else (some false)) else (some false):Option Bool)>>=fun x6=>some x6)
def di.l0(a0:aZ)(v14:Int):Option ((Int×Int)⊕Unit):=
 if v14<(a0.Rows.length:Int) then (lAt a0.Rows v14>>=fun y16=>fa.f y16>>=fun y17=>if (!y17)=true then (some (.inl (v14,1))) else (eM.f v14 y16>>=fun y19=>if (!y19)=true then (some (.inl (v14,7))) else (di.l0 a0 (IntKind.i64.wrap (v14+1))))) else (some (.inr ()))
partial_fixpoint
def di.f(a0:aZ):Option (Int×Int):=
 if (a0.Rows.length:Int)=13 then ((di.l0 a0 0>>=fun o=>match o with|.inl r=>some r|.inr ()=>some (0,0))) else (some (0,1))
def eN.f(a0:Int):Option Bool:=
 ((if a0>=(-20) then (some (decide (a0<=20))) else (some false):Option Bool)>>=fun x2=>some x2)
def dP.f(a0:Int):Option Bool:=
 ((if a0>=0 then (some (decide (a0<=12))) else (some false):Option Bool)>>=fun x2=>some x2)
def dQ.f(a0:Int)(a1:Int)(a2:Int):Option Bool:=
 ((if a0>=a1 then (some (decide (a0<=a2))) else (some false):Option Bool)>>=fun x2=>some x2)
def eB.f(a0:Int)(a1:Int):Option (Int->Option Bool):=
 some (fun z0=>dQ.f z0 a0 a1)
def gn.f:Option (List (Int×(Option (Int->Option Bool)))):=
 eB.f (-20) 20>>=fun y1=>eB.f 0 12>>=fun y2=>eB.f 0 3>>=fun y3=>eB.f 0 1>>=fun y4=>some ([(1,(some y1)),(8,(some y2)),(9,(some y3)),(10,(some y4))]:List (Int×(Option (Int->Option Bool))))
def f2.f(a0:Int)(a1:ap):Option Bool:=
 ((if a1.Op<0 then (some true) else (some (decide (a1.Op>=13))):Option Bool)>>=fun x2=>if x2=true then (some false) else (gn.f>>=fun y5=>((if ((mGet y5 none a1.Op).2)=true then ((mGet y5 none a1.Op).1>>=fun y14=>y14 a1.N>>=fun y15=>if (!y15)=true then (some true) else (if (!((mGet y5 none a1.Op).2))=true then (some (!decide (a1.N=0))) else (some false))) else (if (!((mGet y5 none a1.Op).2))=true then (some (!decide (a1.N=0))) else (some false)):Option Bool)>>=fun x12=>if x12=true then (some false) else (if a1.Op=1 then (((if a1.L>=0 then (some (decide (a1.L<a0))) else (some false):Option Bool)>>=fun x22=>some x22)) else (some (decide (a1.L=0)))))))
def aH.l0(a0:List ap)(a1:ap->Option Bool)(v9:Int):Option (Int⊕Unit):=
 if v9<(a0.length:Int) then (lAt a0 v9>>=fun y11=>a1 y11>>=fun y12=>if y12=true then (some (.inl v9)) else (aH.l0 a0 a1 (IntKind.i64.wrap (v9+1)))) else (some (.inr ()))
partial_fixpoint
def aH.f(a0:List ap)(a1:ap->Option Bool):Option Int:=
 (aH.l0 a0 a1 0>>=fun o=>match o with|.inl r=>some r|.inr ()=>some (-1))
def bL.f(a0:List ap)(a1:ap->Option Bool):Option Bool:=
 aH.f a0 a1>>=fun y1=>some (decide (y1>=0))
def fb.f(a0:ap)(a1:ab):Option Bool:=
 f2.f (a1.Up.length:Int) a0>>=fun y1=>some (!y1)
def dZ.f(a0:ab)(a1:List ap):Option Bool:=
 ((bK.f a0>>=fun y6=>if y6=0 then (if (a1.length:Int)<=12 then (bL.f a1 (fun z0=>fb.f z0 a0)>>=fun y9=>some (!y9)) else (some false)) else (some false):Option Bool)>>=fun x5=>some x5)
def aF.l0(a0:List am)(a1:am->Option Bool)(v9:Int):Option (Int⊕Unit):=
 if v9<(a0.length:Int) then (lAt a0 v9>>=fun y11=>a1 y11>>=fun y12=>if y12=true then (some (.inl v9)) else (aF.l0 a0 a1 (IntKind.i64.wrap (v9+1)))) else (some (.inr ()))
partial_fixpoint
def aF.f(a0:List am)(a1:am->Option Bool):Option Int:=
 (aF.l0 a0 a1 0>>=fun o=>match o with|.inl r=>some r|.inr ()=>some (-1))
def bh.f(a0:List am)(a1:am->Option Bool):Option Bool:=
 aF.f a0 a1>>=fun y1=>some (decide (y1>=0))
def aK.l0(a0:List al)(a1:al->Option Bool)(v9:Int):Option (Int⊕Unit):=
 if v9<(a0.length:Int) then (lAt a0 v9>>=fun y11=>a1 y11>>=fun y12=>if y12=true then (some (.inl v9)) else (aK.l0 a0 a1 (IntKind.i64.wrap (v9+1)))) else (some (.inr ()))
partial_fixpoint
def aK.f(a0:List al)(a1:al->Option Bool):Option Int:=
 (aK.l0 a0 a1 0>>=fun o=>match o with|.inl r=>some r|.inr ()=>some (-1))
def bz.f(a0:List al)(a1:al->Option Bool):Option Bool:=
 aK.f a0 a1>>=fun y1=>some (decide (y1>=0))
def cz.f(a0:Int)(a1:ab):Option Bool:=
 ((if a0>=0 then (some (decide (a0<(a1.Up.length:Int)))) else (some false):Option Bool)>>=fun x2=>some x2)
def eO.f(a0:am)(a1:Option (Int->Option Bool)):Option Bool:=
 ((eN.f a0.V>>=fun y6=>if (!y6)=true then (some true) else (a1>>=fun y8=>y8 a0.L>>=fun y9=>some (!y9)):Option Bool)>>=fun x5=>some x5)
def fd.f(a0:al)(a1:Option (Int->Option Bool)):Option Bool:=
 ((a1>>=fun y12=>y12 a0.L>>=fun y13=>if (!y13)=true then (some true) else (if (!a0.Ret)=true then (eN.f a0.V>>=fun y16=>if (!y16)=true then (some true) else (if a0.Ret=true then (dP.f a0.V>>=fun y19=>some (!y19)) else (some false))) else (if a0.Ret=true then (dP.f a0.V>>=fun y21=>some (!y21)) else (some false))):Option Bool)>>=fun x11=>some x11)
def dW.f(a0:ab)(a1:aa):Option Bool:=
 ((if (a1.Mem.length:Int)<=6 then (if (a1.Stack.length:Int)<=12 then (some (decide ((a1.Out.length:Int)<=8))) else (some false)) else (some false):Option Bool)>>=fun x3=>((dZ.f a0 a1.Code>>=fun y20=>if y20=true then (dP.f a1.Pc.V>>=fun y22=>if y22=true then ((some (fun z0=>cz.f z0 a0))>>=fun y24=>y24 a1.Pc.L>>=fun y25=>if y25=true then (if x3=true then (bh.f a1.Mem (fun z0=>eO.f z0 (some (fun z0=>cz.f z0 a0)))>>=fun y28=>if (!y28)=true then (bz.f a1.Stack (fun z0=>fd.f z0 (some (fun z0=>cz.f z0 a0)))>>=fun y30=>if (!y30)=true then (bh.f a1.Out (fun z0=>eO.f z0 (some (fun z0=>cz.f z0 a0)))>>=fun y32=>some (!y32)) else (some false)) else (some false)) else (some false)) else (some false)) else (some false)) else (some false):Option Bool)>>=fun x19=>some x19))
def bF.f(a0:Bool):Option (Pn⊕Unit):=
 if (!a0)=true then (some (.inl 3)) else (some (.inr ()))
def aO.l0(a0:List Int)(a1:Int->Option Bool)(v9:Int):Option (Int⊕Unit):=
 if v9<(a0.length:Int) then (lAt a0 v9>>=fun y11=>a1 y11>>=fun y12=>if y12=true then (some (.inl v9)) else (aO.l0 a0 a1 (IntKind.i64.wrap (v9+1)))) else (some (.inr ()))
partial_fixpoint
def aO.f(a0:List Int)(a1:Int->Option Bool):Option Int:=
 (aO.l0 a0 a1 0>>=fun o=>match o with|.inl r=>some r|.inr ()=>some (-1))
def bH.f(a0:List Int)(a1:Int->Option Bool):Option Bool:=
 aO.f a0 a1>>=fun y1=>some (decide (y1>=0))
def eW.f(a0:Int)(a1:ab):Option Bool:=
 ((if a0<0 then (some true) else (some (decide (a0>=(a1.Up.length:Int)))):Option Bool)>>=fun x2=>some x2)
def df.f(a0:ab)(a1:List Int):Option Int:=
 bK.f a0>>=fun y1=>if y1=0 then (bH.f a1 (fun z0=>eW.f z0 a0)>>=fun y3=>if y3=true then (some 9) else (some 0)) else (some y1)
def aS.l0(a0:List Int)(a1:Int)(v7:Int):Option (Int⊕Unit):=
 if v7<(a0.length:Int) then (lAt a0 v7>>=fun y9=>if a1=y9 then (some (.inl v7)) else (aS.l0 a0 a1 (IntKind.i64.wrap (v7+1)))) else (some (.inr ()))
partial_fixpoint
def aS.f(a0:List Int)(a1:Int):Option Int:=
 (aS.l0 a0 a1 0>>=fun o=>match o with|.inl r=>some r|.inr ()=>some (-1))
def cR.f(a0:ab):Option (Int×Int):=
 df.f a0 []>>=fun y1=>if y1=0 then (if ¬(a0.Up.length:Int)<0 then (aS.f a0.Up (IntKind.u32.wrap ((bShl .u32 1 (a0.Up.length:Int))-1))>>=fun y4=>some (y4,0)) else none) else (some (0,y1))
def et.f(a0:ah):Option ah:=
 some a0
def fp.f(a0:ah):Option ah:=
 some (⟨a0.l_,a0.s_,a0.x_,a0.a_,a0.b_,a0.r_,a0.below_,⟨a0.x_.L,a0.one_.x1_,a0.one_.x2_⟩⟩:ah)
def bO.f(a0:ah)(a1:Int):Option (Pn⊕(ah×al)):=
 ((if IntKind.i64.wrap ((IntKind.i64.wrap ((a0.s_.Stack.length:Int)-1))-a1)>=0 then (lAt a0.s_.Stack (IntKind.i64.wrap ((IntKind.i64.wrap ((a0.s_.Stack.length:Int)-1))-a1))>>=fun y10=>bF.f (!y10.Ret)>>=fun z11=>match z11 with|.inl p12=>some (.inl (.inl p12))|.inr y13=>some (.inr ())) else (bF.f false>>=fun z14=>match z14 with|.inl p15=>some (.inl (.inl p15))|.inr y16=>some (.inr ())):Option ((Pn⊕(ah×al))⊕Unit))>>=fun o=>match o with|.inl r=>some r|.inr ()=>lAt a0.s_.Stack (IntKind.i64.wrap ((IntKind.i64.wrap ((a0.s_.Stack.length:Int)-1))-a1))>>=fun y17=>some (.inr (a0,y17)))
def aW.f(a0:ah):Option (Pn⊕ah):=
 bO.f a0 0>>=fun z1=>match z1 with|.inl p2=>some (.inl p2)|.inr y3=>some (.inr (⟨y3.1.l_,y3.1.s_,y3.1.x_,y3.2,y3.1.b_,y3.1.r_,IntKind.i64.wrap ((y3.1.s_.Stack.length:Int)-1),⟨y3.2.L,y3.1.one_.x1_,y3.1.one_.x2_⟩⟩:ah))
def bQ.f(a0:ah):Option (Pn⊕ah):=
 aW.f a0>>=fun z1=>match z1 with|.inl p2=>some (.inl p2)|.inr y3=>bO.f y3 1>>=fun z4=>match z4 with|.inl p5=>some (.inl p5)|.inr y6=>some (.inr (⟨y6.1.l_,y6.1.s_,y6.1.x_,y6.1.a_,y6.2,y6.1.r_,IntKind.i64.wrap (y6.1.below_-1),⟨y6.1.one_.x0_,y6.2.L,y6.1.one_.x2_⟩⟩:ah))
def bX.f(a0:ah):Option (Pn⊕(ah×Int)):=
 ((if a0.a_.V>=0 then (bF.f (decide (a0.a_.V<(a0.s_.Mem.length:Int)))>>=fun z9=>match z9 with|.inl p10=>some (.inl (.inl p10))|.inr y11=>some (.inr ())) else (bF.f false>>=fun z12=>match z12 with|.inl p13=>some (.inl (.inl p13))|.inr y14=>some (.inr ())):Option ((Pn⊕(ah×Int))⊕Unit))>>=fun o=>match o with|.inl r=>some r|.inr ()=>some (.inr (a0,a0.a_.V)))
def cO.f(a0:ah):Option (Pn⊕ah):=
 aW.f a0>>=fun z1=>match z1 with|.inl p2=>some (.inl p2)|.inr y3=>bX.f y3>>=fun z4=>match z4 with|.inl p5=>some (.inl p5)|.inr y6=>lAt y6.1.s_.Mem y6.2>>=fun y7=>some (.inr (⟨y6.1.l_,y6.1.s_,y6.1.x_,y6.1.a_,y6.1.b_,y6.1.r_,y6.1.below_,⟨y6.1.one_.x0_,y7.L,y6.1.one_.x2_⟩⟩:ah))
def cD.f(a0:ah):Option (Pn⊕ah):=
 bQ.f a0>>=fun z1=>match z1 with|.inl p2=>some (.inl p2)|.inr y3=>bX.f y3>>=fun z4=>match z4 with|.inl p5=>some (.inl p5)|.inr y6=>lAt y6.1.s_.Mem y6.2>>=fun y7=>some (.inr (⟨y6.1.l_,y6.1.s_,y6.1.x_,y6.1.a_,y6.1.b_,y6.1.r_,y6.1.below_,⟨y6.1.one_.x0_,y6.1.one_.x1_,y7.L⟩⟩:ah))
def cq.f(a0:ah):Option (Pn⊕ah):=
 aW.f a0>>=fun z1=>match z1 with|.inl p2=>some (.inl p2)|.inr y3=>((if y3.a_.V>=0 then (bF.f (decide (y3.a_.V<=12))>>=fun z12=>match z12 with|.inl p13=>some (.inl (.inl p13))|.inr y14=>some (.inr ())) else (bF.f false>>=fun z15=>match z15 with|.inl p16=>some (.inl (.inl p16))|.inr y17=>some (.inr ())):Option ((Pn⊕ah)⊕Unit))>>=fun o=>match o with|.inl r=>some r|.inr ()=>some (.inr y3))
def bg.l0(y3:ah)(v12:ah)(v13:Int):Option ((Pn⊕ah)⊕ah):=
 if v13<y3.x_.N then (bO.f v12 (IntKind.i64.wrap (1+v13))>>=fun z16=>match z16 with|.inl p17=>some (.inl (.inl p17))|.inr y18=>bg.l0 y3 y18.1 (IntKind.i64.wrap (v13+1))) else (some (.inr v12))
partial_fixpoint
def bg.f(a0:ah):Option (Pn⊕ah):=
 cq.f a0>>=fun z1=>match z1 with|.inl p2=>some (.inl p2)|.inr y3=>(bg.l0 y3 y3 0>>=fun o=>match o with|.inl r=>some r|.inr x14=>some (.inr x14))
def aG.l0(y4:ah)(v17:Int):Option Int:=
 ((if v17>0 then (lAt y4.s_.Stack (IntKind.i64.wrap (v17-1))>>=fun y23=>some (!y23.Ret)) else (some false):Option Bool)>>=fun x21=>if x21=true then (aG.l0 y4 (IntKind.i64.wrap (v17-1))) else (some v17))
partial_fixpoint
def aG.l1(a0:ah)(v41:Int):Option Int:=
 ((if v41>0 then (lAt a0.s_.Stack (IntKind.i64.wrap (v41-1))>>=fun y47=>some (!y47.Ret)) else (some false):Option Bool)>>=fun x45=>if x45=true then (aG.l1 a0 (IntKind.i64.wrap (v41-1))) else (some v41))
partial_fixpoint
def aG.f(a0:ah):Option (Pn⊕ah):=
 if a0.x_.N=1 then (aW.f (⟨a0.l_,a0.s_,a0.x_,a0.a_,a0.b_,a0.r_,(a0.s_.Stack.length:Int),a0.one_⟩:ah)>>=fun z2=>match z2 with|.inl p3=>some (.inl p3)|.inr y4=>(aG.l0 y4 y4.below_>>=fun x18=>bF.f (decide (x18>0))>>=fun z25=>match z25 with|.inl p26=>some (.inl p26)|.inr y27=>lAt y4.s_.Stack (IntKind.i64.wrap (x18-1))>>=fun y28=>some (.inr (⟨y4.l_,y4.s_,y4.x_,y4.a_,y4.b_,y28,IntKind.i64.wrap (x18-1),⟨y4.one_.x0_,y28.L,y4.one_.x2_⟩⟩:ah)))) else ((aG.l1 a0 (a0.s_.Stack.length:Int)>>=fun x42=>bF.f (decide (x42>0))>>=fun z49=>match z49 with|.inl p50=>some (.inl p50)|.inr y51=>lAt a0.s_.Stack (IntKind.i64.wrap (x42-1))>>=fun y52=>some (.inr (⟨a0.l_,a0.s_,a0.x_,a0.a_,a0.b_,y52,IntKind.i64.wrap (x42-1),⟨a0.one_.x0_,y52.L,a0.one_.x2_⟩⟩:ah))))
def bG.f(a0:ah):Option (Pn⊕ah):=
 if a0.x_.Op=0 then (et.f (⟨a0.l_,a0.s_,a0.x_,a0.a_,a0.b_,a0.r_,(a0.s_.Stack.length:Int),a0.one_⟩:ah)>>=fun y2=>some (.inr y2)) else (if a0.x_.Op=12 then (et.f (⟨a0.l_,a0.s_,a0.x_,a0.a_,a0.b_,a0.r_,(a0.s_.Stack.length:Int),a0.one_⟩:ah)>>=fun y4=>some (.inr y4)) else (if a0.x_.Op=1 then (fp.f (⟨a0.l_,a0.s_,a0.x_,a0.a_,a0.b_,a0.r_,(a0.s_.Stack.length:Int),a0.one_⟩:ah)>>=fun y6=>some (.inr y6)) else (if a0.x_.Op=2 then (aW.f (⟨a0.l_,a0.s_,a0.x_,a0.a_,a0.b_,a0.r_,(a0.s_.Stack.length:Int),a0.one_⟩:ah)>>=fun z8=>match z8 with|.inl p9=>some (.inl p9)|.inr y10=>some (.inr y10)) else (if a0.x_.Op=11 then (aW.f (⟨a0.l_,a0.s_,a0.x_,a0.a_,a0.b_,a0.r_,(a0.s_.Stack.length:Int),a0.one_⟩:ah)>>=fun z12=>match z12 with|.inl p13=>some (.inl p13)|.inr y14=>some (.inr y14)) else (if a0.x_.Op=3 then (bQ.f (⟨a0.l_,a0.s_,a0.x_,a0.a_,a0.b_,a0.r_,(a0.s_.Stack.length:Int),a0.one_⟩:ah)>>=fun z16=>match z16 with|.inl p17=>some (.inl p17)|.inr y18=>some (.inr y18)) else (if a0.x_.Op=4 then (bQ.f (⟨a0.l_,a0.s_,a0.x_,a0.a_,a0.b_,a0.r_,(a0.s_.Stack.length:Int),a0.one_⟩:ah)>>=fun z20=>match z20 with|.inl p21=>some (.inl p21)|.inr y22=>some (.inr y22)) else (if a0.x_.Op=5 then (cO.f (⟨a0.l_,a0.s_,a0.x_,a0.a_,a0.b_,a0.r_,(a0.s_.Stack.length:Int),a0.one_⟩:ah)>>=fun z24=>match z24 with|.inl p25=>some (.inl p25)|.inr y26=>some (.inr y26)) else (if a0.x_.Op=6 then (cD.f (⟨a0.l_,a0.s_,a0.x_,a0.a_,a0.b_,a0.r_,(a0.s_.Stack.length:Int),a0.one_⟩:ah)>>=fun z28=>match z28 with|.inl p29=>some (.inl p29)|.inr y30=>some (.inr y30)) else (if a0.x_.Op=7 then (cq.f (⟨a0.l_,a0.s_,a0.x_,a0.a_,a0.b_,a0.r_,(a0.s_.Stack.length:Int),a0.one_⟩:ah)>>=fun z32=>match z32 with|.inl p33=>some (.inl p33)|.inr y34=>some (.inr y34)) else (if a0.x_.Op=8 then (aW.f (⟨a0.l_,a0.s_,a0.x_,a0.a_,a0.b_,a0.r_,(a0.s_.Stack.length:Int),a0.one_⟩:ah)>>=fun z36=>match z36 with|.inl p37=>some (.inl p37)|.inr y38=>some (.inr y38)) else (if a0.x_.Op=9 then (bg.f (⟨a0.l_,a0.s_,a0.x_,a0.a_,a0.b_,a0.r_,(a0.s_.Stack.length:Int),a0.one_⟩:ah)>>=fun z40=>match z40 with|.inl p41=>some (.inl p41)|.inr y42=>some (.inr y42)) else (if a0.x_.Op=10 then (aG.f (⟨a0.l_,a0.s_,a0.x_,a0.a_,a0.b_,a0.r_,(a0.s_.Stack.length:Int),a0.one_⟩:ah)>>=fun z44=>match z44 with|.inl p45=>some (.inl p45)|.inr y46=>some (.inr y46)) else (none)))))))))))))
def fA.f(a0:Int)(a1:ab):Option Bool:=
 ((if a0<0 then (some true) else (some (decide (a0>=(a1.Up.length:Int)))):Option Bool)>>=fun x2=>some x2)
def fo.f(a0:ab)(a1:List Int)(a2:List Int)(a3:Bool):Option Int:=
 bK.f a0>>=fun y1=>if y1=0 then (dI.f a1 a3>>=fun y3=>if (!y3)=true then (some 1) else (((if (a2.length:Int)=4 then (bH.f a2 (fun z0=>fA.f z0 a0)>>=fun y9=>some y9) else (some true):Option Bool)>>=fun x7=>if x7=true then (some 9) else (some 0)))) else (some y1)
def bI.f(a0:bb)(a1:If221):Option bb:=
 if (a0.pile_.length+([a1]:List If221).length)*16<=big then (some (⟨a0.l_,a0.labels_,a0.pile_++([a1]:List If221)⟩:bb)) else none
def fu.f(a0:Int):Option Int:=
 if (0:Int)<=bShr .u32 a0 24/\bShr .u32 a0 24<(ks0.length:Int) then (if (0:Int)<=bAnd .u32 (bShr .u32 a0 16) 255/\bAnd .u32 (bShr .u32 a0 16) 255<(ks0.length:Int) then (if (0:Int)<=bAnd .u32 (bShr .u32 a0 8) 255/\bAnd .u32 (bShr .u32 a0 8) 255<(ks0.length:Int) then (if (0:Int)<=bAnd .u32 a0 255/\bAnd .u32 a0 255<(ks0.length:Int) then (some (IntKind.i64.wrap (IntKind.u8.wrap ((IntKind.u8.wrap ((IntKind.u8.wrap ((sAt ks0 (bShr .u32 a0 24))+(sAt ks0 (bAnd .u32 (bShr .u32 a0 16) 255))))+(sAt ks0 (bAnd .u32 (bShr .u32 a0 8) 255))))+(sAt ks0 (bAnd .u32 a0 255)))))) else none) else none) else none) else none
def eu.f(a0:Int):Option Bool:=
 fu.f a0>>=fun y1=>some (decide (y1=1))
def eL.f(a0:ab):Option (Int×Int):=
 df.f a0 []>>=fun y1=>if y1=0 then (az.f a0.Up eu.f>>=fun y3=>some (y3,0)) else (some (0,y1))
def eU.f(a0:bb):Option (bb×If221×If221):=
 lAt a0.pile_ (IntKind.i64.wrap ((a0.pile_.length:Int)-2))>>=fun y1=>lAt a0.pile_ (IntKind.i64.wrap ((IntKind.i64.wrap ((a0.pile_.length:Int)-2))+1))>>=fun y2=>if (0:Int)<=IntKind.i64.wrap ((a0.pile_.length:Int)-2)/\IntKind.i64.wrap ((a0.pile_.length:Int)-2)<=(a0.pile_.length:Int) then (some ((⟨a0.l_,a0.labels_,a0.pile_.take (IntKind.i64.wrap ((a0.pile_.length:Int)-2)).toNat⟩:bb),y1,y2)) else none
def dq.f(a0:ab)(a1:Int)(a2:Int):Option (Bool×Int):=
 df.f a0 ([a1,a2]:List Int)>>=fun y1=>if y1=0 then (dg.f a0 a1 a2>>=fun y3=>some (y3,0)) else (some (false,y1))
def ez.f(a0:ab)(a1:Int)(a2:Int):Option (Int×Int):=
 df.f a0 ([a1,a2]:List Int)>>=fun y1=>if y1=0 then (ed.f a0 a1 a2>>=fun y3=>some (y3,0)) else (some (0,y1))
def eA.f(a0:ab)(a1:Int)(a2:Int):Option (Int×Int):=
 df.f a0 ([a1,a2]:List Int)>>=fun y1=>if y1=0 then (b4.f a0 a1 a2>>=fun y3=>some (y3,0)) else (some (0,y1))
def dE.f(a0:bb)(a1:Int)(a2:If221)(a3:If221):Option (bb×If221):=
 if ((eV a2).2)=true then (if a1=3 then (((if ((eV a2).1)=true then (some (If221.c218 ((eV a3).1))) else (some (If221.c218 false)):Option If221)>>=fun x4=>some (a0,x4))) else (((if ((eV a2).1)=true then (some (If221.c218 true)) else (some (If221.c218 ((eV a3).1))):Option If221)>>=fun x7=>some (a0,x7)))) else (if ((fO a2).2)=true then (if a1=5 then (dq.f a0.l_ ((fO a2).1) ((fO a3).1)>>=fun y11=>some (a0,If221.c218 y11.1)) else (if a1=12 then (ez.f a0.l_ ((fO a2).1) ((fO a3).1)>>=fun y13=>some (a0,If221.c227 y13.1)) else (eA.f a0.l_ ((fO a2).1) ((fO a3).1)>>=fun y14=>some (a0,If221.c227 y14.1)))) else (some (a0,a2)))
def bf.l0(a1:List Int)(v231:List Str)(v232:List Int)(v233:List Int)(v234:List If221)(v235:Int):Option ((List Str)×(List Int)×(List Int)×(List If221)):=
 if v235<(a1.length:Int) then (((lAt a1 v235>>=fun y300=>((if y300=1 then (bI.f (⟨⟨v231,v232⟩,v233,v234⟩:bb) (If221.c218 (decide (y300=1)))>>=fun y331=>some (y331.l_.Names,y331.l_.Up,y331.labels_,y331.pile_)) else (if y300=2 then (bI.f (⟨⟨v231,v232⟩,v233,v234⟩:bb) (If221.c218 (decide (y300=1)))>>=fun y333=>some (y333.l_.Names,y333.l_.Up,y333.labels_,y333.pile_)) else (if y300=6 then (cR.f (⟨v231,v232⟩:ab)>>=fun y335=>bI.f (⟨⟨v231,v232⟩,v233,v234⟩:bb) (If221.c227 y335.1)>>=fun y336=>some (y336.l_.Names,y336.l_.Up,y336.labels_,y336.pile_)) else (if y300=7 then (eL.f (⟨v231,v232⟩:ab)>>=fun y338=>bI.f (⟨⟨v231,v232⟩,v233,v234⟩:bb) (If221.c227 y338.1)>>=fun y339=>some (y339.l_.Names,y339.l_.Up,y339.labels_,y339.pile_)) else (if y300=8 then (lAt v233 (IntKind.i64.wrap (y300-8))>>=fun y341=>bI.f (⟨⟨v231,v232⟩,v233,v234⟩:bb) (If221.c227 y341)>>=fun y342=>some (y342.l_.Names,y342.l_.Up,y342.labels_,y342.pile_)) else (if y300=9 then (lAt v233 (IntKind.i64.wrap (y300-8))>>=fun y344=>bI.f (⟨⟨v231,v232⟩,v233,v234⟩:bb) (If221.c227 y344)>>=fun y345=>some (y345.l_.Names,y345.l_.Up,y345.labels_,y345.pile_)) else (if y300=10 then (lAt v233 (IntKind.i64.wrap (y300-8))>>=fun y347=>bI.f (⟨⟨v231,v232⟩,v233,v234⟩:bb) (If221.c227 y347)>>=fun y348=>some (y348.l_.Names,y348.l_.Up,y348.labels_,y348.pile_)) else (if y300=11 then (lAt v233 (IntKind.i64.wrap (y300-8))>>=fun y350=>bI.f (⟨⟨v231,v232⟩,v233,v234⟩:bb) (If221.c227 y350)>>=fun y351=>some (y351.l_.Names,y351.l_.Up,y351.labels_,y351.pile_)) else (eU.f (⟨⟨v231,v232⟩,v233,v234⟩:bb)>>=fun y352=>dE.f y352.1 y300 y352.2.1 y352.2.2>>=fun y353=>bI.f y353.1 y353.2>>=fun y354=>some (y354.l_.Names,y354.l_.Up,y354.labels_,y354.pile_))))))))):Option ((List Str)×(List Int)×(List Int)×(List If221)))>>=fun o=>match o with|(x326,x327,x328,x329)=>some (x326,x327,x328,x329)):Option ((List Str)×(List Int)×(List Int)×(List If221)))>>=fun o=>match o with|(x296,x297,x298,x299)=>bf.l0 a1 x296 x297 x298 x299 (IntKind.i64.wrap (v235+1)))) else (some (v231,v232,v233,v234))
partial_fixpoint
def bf.f(a0:bb)(a1:List Int):Option (bb×If221):=
 (bf.l0 a1 a0.l_.Names a0.l_.Up a0.labels_ a0.pile_ 0>>=fun o=>match o with|(x236,x237,x238,x239)=>lAt x239 0>>=fun y355=>some ((⟨⟨x236,x237⟩,x238,x239⟩:bb),y355))
def dU.f(a0:ab)(a1:List Int)(a2:List Int):Option (Bool×Int):=
 fo.f a0 a1 a2 false>>=fun y1=>if y1=0 then (bf.f (⟨a0,a2,([]:List If221)⟩:bb) a1>>=fun y3=>some ((eV y3.2).1,0)) else (some (false,y1))
def cT.f(a0:ab)(a1:List Int)(a2:List Int):Option (Int×Int):=
 fo.f a0 a1 a2 true>>=fun y1=>if y1=0 then (bf.f (⟨a0,a2,([]:List If221)⟩:bb) a1>>=fun y3=>some ((fO y3.2).1,0)) else (some (0,y1))
def bP.f(a0:ah)(a1:Int)(a2:Int):Option ah:=
 if (a0.s_.Stack.length+([(⟨false,a1,a2⟩:al)]:List al).length)*24<=big then (some (⟨a0.l_,⟨a0.s_.Pc,a0.s_.Code,a0.s_.Mem,a0.s_.Stack++([(⟨false,a1,a2⟩:al)]:List al),a0.s_.Out⟩,a0.x_,a0.a_,a0.b_,a0.r_,a0.below_,a0.one_⟩:ah)) else none
def cU.f(a1:Int):Option (List al):=
 if a1<0 then (none) else (if IntKind.i64.wrap (a1-(IntKind.i64.wrap (0-(([]:List al).length:Int))))>0 then (if 0<IntKind.i64.wrap (a1-(IntKind.i64.wrap (0-(([]:List al).length:Int))))/\(IntKind.i64.wrap (a1-(IntKind.i64.wrap (0-(([]:List al).length:Int))))).toNat*24<=big then (if (0:Int)<=(([]:List al).length:Int)/\(([]:List al).length:Int)<=((List.replicate (IntKind.i64.wrap (a1-(IntKind.i64.wrap (0-(([]:List al).length:Int))))).toNat ((⟨false,0,0⟩:al):al)).length:Int) then (some ((List.replicate (IntKind.i64.wrap (a1-(IntKind.i64.wrap (0-(([]:List al).length:Int))))).toNat ((⟨false,0,0⟩:al):al)).take (([]:List al).length:Int).toNat)) else none) else none) else (some ([]:List al)))
def aA.l0(a0:List (List al))(v13:Int)(v14:Int):Option Int:=
 if v13<(a0.length:Int) then (((lAt a0 v13>>=fun y20=>if IntKind.i64.wrap (v14+(y20.length:Int))<0 then (none) else (some (IntKind.i64.wrap (v14+(y20.length:Int)))):Option Int)>>=fun x19=>aA.l0 a0 (IntKind.i64.wrap (v13+1)) x19)) else (some v14)
partial_fixpoint
def aA.l1(a0:List (List al))(v29:List al)(v30:Int):Option (List al):=
 if v30<(a0.length:Int) then (lAt a0 v30>>=fun y33=>if (v29.length+y33.length)*24<=big then (aA.l1 a0 (v29++y33) (IntKind.i64.wrap (v30+1))) else none) else (some v29)
partial_fixpoint
def aA.f(a0:List (List al)):Option (List al):=
 (aA.l0 a0 0 0>>=fun x15=>cU.f x15>>=fun y22=>(aA.l1 a0 y22 0>>=fun x31=>some x31))
def bB.f(a0:List al):Option (List al):=
 if (([]:List al).length+a0.length)*24<=big then (some (([]:List al)++a0)) else none
def aQ.f(a0:List am):Option (List am):=
 if (([]:List am).length+a0.length)*16<=big then (some (([]:List am)++a0)) else none
def dn.f(a0:ah)(a1:Int):Option ah:=
 if (0:Int)<=a0.below_/\a0.below_<=(a0.s_.Stack.length:Int) then (bB.f (lCut a0.s_.Stack 0 a0.below_)>>=fun y2=>((if a0.x_.Op=1 then (bP.f (⟨a0.l_,⟨a0.s_.Pc,a0.s_.Code,a0.s_.Mem,y2,a0.s_.Out⟩,a0.x_,a0.a_,a0.b_,a0.r_,a0.below_,a0.one_⟩:ah) a0.x_.N a1>>=fun y31=>some (y31,IntKind.i64.wrap (a0.s_.Pc.V+1))) else (if a0.x_.Op=3 then (bP.f (⟨a0.l_,⟨a0.s_.Pc,a0.s_.Code,a0.s_.Mem,y2,a0.s_.Out⟩,a0.x_,a0.a_,a0.b_,a0.r_,a0.below_,a0.one_⟩:ah) (IntKind.i64.wrap (a0.b_.V+a0.a_.V)) a1>>=fun y33=>some (y33,IntKind.i64.wrap (a0.s_.Pc.V+1))) else (if a0.x_.Op=4 then (bP.f (⟨a0.l_,⟨a0.s_.Pc,a0.s_.Code,a0.s_.Mem,y2,a0.s_.Out⟩,a0.x_,a0.a_,a0.b_,a0.r_,a0.below_,a0.one_⟩:ah) (IntKind.i64.wrap (a0.b_.V-a0.a_.V)) a1>>=fun y35=>some (y35,IntKind.i64.wrap (a0.s_.Pc.V+1))) else (if a0.x_.Op=5 then (lAt a0.s_.Mem a0.a_.V>>=fun y37=>bP.f (⟨a0.l_,⟨a0.s_.Pc,a0.s_.Code,a0.s_.Mem,y2,a0.s_.Out⟩,a0.x_,a0.a_,a0.b_,a0.r_,a0.below_,a0.one_⟩:ah) y37.V a1>>=fun y38=>some (y38,IntKind.i64.wrap (a0.s_.Pc.V+1))) else (if a0.x_.Op=6 then (aQ.f a0.s_.Mem>>=fun y40=>lAt y40 a0.a_.V>>=fun y41=>some ((⟨a0.l_,⟨a0.s_.Pc,a0.s_.Code,y40.set a0.a_.V.toNat (⟨a0.b_.V,a1⟩:am),y2,a0.s_.Out⟩,a0.x_,a0.a_,a0.b_,a0.r_,a0.below_,a0.one_⟩:ah),IntKind.i64.wrap (a0.s_.Pc.V+1))) else (if a0.x_.Op=11 then (aQ.f a0.s_.Out>>=fun y43=>if (y43.length+([(⟨a0.a_.V,a1⟩:am)]:List am).length)*16<=big then (some ((⟨a0.l_,⟨a0.s_.Pc,a0.s_.Code,a0.s_.Mem,y2,y43++([(⟨a0.a_.V,a1⟩:am)]:List am)⟩,a0.x_,a0.a_,a0.b_,a0.r_,a0.below_,a0.one_⟩:ah),IntKind.i64.wrap (a0.s_.Pc.V+1))) else none) else (if a0.x_.Op=7 then (some ((⟨a0.l_,⟨a0.s_.Pc,a0.s_.Code,a0.s_.Mem,y2,a0.s_.Out⟩,a0.x_,a0.a_,a0.b_,a0.r_,a0.below_,a0.one_⟩:ah),a0.a_.V)) else (if a0.x_.Op=8 then (if a0.a_.V=0 then (some ((⟨a0.l_,⟨a0.s_.Pc,a0.s_.Code,a0.s_.Mem,y2,a0.s_.Out⟩,a0.x_,a0.a_,a0.b_,a0.r_,a0.below_,a0.one_⟩:ah),IntKind.i64.wrap (a0.s_.Pc.V+1))) else (some ((⟨a0.l_,⟨a0.s_.Pc,a0.s_.Code,a0.s_.Mem,y2,a0.s_.Out⟩,a0.x_,a0.a_,a0.b_,a0.r_,a0.below_,a0.one_⟩:ah),a0.x_.N))) else (if a0.x_.Op=9 then (if (0:Int)<=IntKind.i64.wrap (a0.below_-a0.x_.N)/\IntKind.i64.wrap (a0.below_-a0.x_.N)<=a0.below_/\a0.below_<=(a0.s_.Stack.length:Int) then (if (0:Int)<=IntKind.i64.wrap (a0.below_-a0.x_.N)/\IntKind.i64.wrap (a0.below_-a0.x_.N)<=(a0.s_.Stack.length:Int) then (aA.f ([lCut a0.s_.Stack 0 (IntKind.i64.wrap (a0.below_-a0.x_.N)),([(⟨true,IntKind.i64.wrap (a0.s_.Pc.V+1),a0.s_.Pc.L⟩:al)]:List al),lCut a0.s_.Stack (IntKind.i64.wrap (a0.below_-a0.x_.N)) a0.below_]:List (List al))>>=fun y51=>some ((⟨a0.l_,⟨a0.s_.Pc,a0.s_.Code,a0.s_.Mem,y51,a0.s_.Out⟩,a0.x_,a0.a_,a0.b_,a0.r_,a0.below_,a0.one_⟩:ah),a0.a_.V)) else none) else none) else (if a0.x_.Op=10 then (if a0.x_.N=1 then (bP.f (⟨a0.l_,⟨a0.s_.Pc,a0.s_.Code,a0.s_.Mem,y2,a0.s_.Out⟩,a0.x_,a0.a_,a0.b_,a0.r_,a0.below_,a0.one_⟩:ah) a0.a_.V a1>>=fun y54=>some (y54,y54.r_.V)) else (some ((⟨a0.l_,⟨a0.s_.Pc,a0.s_.Code,a0.s_.Mem,y2,a0.s_.Out⟩,a0.x_,a0.a_,a0.b_,a0.r_,a0.below_,a0.one_⟩:ah),a0.r_.V))) else (some ((⟨a0.l_,⟨a0.s_.Pc,a0.s_.Code,a0.s_.Mem,y2,a0.s_.Out⟩,a0.x_,a0.a_,a0.b_,a0.r_,a0.below_,a0.one_⟩:ah),IntKind.i64.wrap (a0.s_.Pc.V+1)))))))))))):Option (ah×Int))>>=fun o=>match o with|(x28,x29)=>some (⟨x28.l_,⟨⟨x29,x28.s_.Pc.L⟩,x28.s_.Code,x28.s_.Mem,x28.s_.Stack,x28.s_.Out⟩,x28.x_,x28.a_,x28.b_,x28.r_,x28.below_,x28.one_⟩:ah))) else none
def cW.B(a0:ab)(a1:aZ)(a2:aa):Option (Pn⊕(aa×Int)):=
 bF.f (decide (a2.Pc.V<(a2.Code.length:Int)))>>=fun z1=>match z1 with|.inl p2=>some (.inl p2)|.inr y3=>cR.f a0>>=fun y4=>lAt a2.Code a2.Pc.V>>=fun y5=>bG.f (⟨a0,a2,y5,⟨false,0,0⟩,⟨false,0,0⟩,⟨false,0,0⟩,0,⟨y4.1,y4.1,y4.1⟩⟩:ah)>>=fun z6=>match z6 with|.inl p7=>some (.inl p7)|.inr y8=>if y8.x_.Op=12 then (some (.inl 1)) else (lAt a1.Rows y8.x_.Op>>=fun y10=>dU.f a0 y10.May ([a2.Pc.L,y8.one_.x0_,y8.one_.x1_,y8.one_.x2_]:List Int)>>=fun y11=>if (!y11.1)=true then (some (.inl 2)) else (cT.f a0 y10.Res ([a2.Pc.L,y8.one_.x0_,y8.one_.x1_,y8.one_.x2_]:List Int)>>=fun y13=>cT.f a0 y10.Pc ([a2.Pc.L,y8.one_.x0_,y8.one_.x1_,y8.one_.x2_]:List Int)>>=fun y14=>dn.f y8 y13.1>>=fun y15=>dW.f a0 (⟨⟨y15.s_.Pc.V,y14.1⟩,y15.s_.Code,y15.s_.Mem,y15.s_.Stack,y15.s_.Out⟩:aa)>>=fun y16=>bF.f y16>>=fun z17=>match z17 with|.inl p18=>some (.inl p18)|.inr y19=>some (.inr ((⟨⟨y15.s_.Pc.V,y14.1⟩,y15.s_.Code,y15.s_.Mem,y15.s_.Stack,y15.s_.Out⟩:aa),0))))
def cW.f(a0:ab)(a1:aZ)(a2:aa):Option (aa×Int):=
 cW.B a0 a1 a2>>=fun z=>some (finD a2 z)
def dM.f(a0:ab)(a1:aZ)(a2:aa):Option (aa×Int×Int):=
 bK.f a0>>=fun y1=>if y1=0 then (di.f a1>>=fun y3=>if y3.2=0 then (dW.f a0 a2>>=fun y5=>if (!y5)=true then (some ((⟨⟨0,0⟩,[],[],[],[]⟩:aa),0,1)) else (cW.f a0 a1 a2>>=fun y7=>some (y7.1,y7.2,0))) else (some ((⟨⟨0,0⟩,[],[],[],[]⟩:aa),0,y3.2))) else (some ((⟨⟨0,0⟩,[],[],[],[]⟩:aa),0,y1))
def fl.f(a0:ab)(a1:aZ)(a2:aa)(a3:Int):Option Int:=
 dM.f a0 a1 a2>>=fun y1=>if y1.2.2=0 then (((if a3<0 then (some true) else (some (decide (a3>40))):Option Bool)>>=fun x4=>if x4=true then (some 1) else (some 0))) else (some y1.2.2)
def bt.l0{σ:Type}(a_y:σ->aa->Int->Option (Bool×σ))(a1:Int)(a2:ab)(a3:aZ)(v19:aa)(v20:σ)(v21:Int):Option (σ⊕(aa×σ)):=
 if v21<a1 then (dM.f a2 a3 v19>>=fun y25=>((a_y v20 v19 y25.2.1>>=fun y30=>if (!y30.1)=true then (some (y30.2,true)) else (some (y30.2,!decide (y25.2.1=0))):Option (σ×Bool))>>=fun o=>match o with|(x28,x29)=>if x29=true then (some (.inl x28)) else (bt.l0 a_y a1 a2 a3 y25.1 x28 (IntKind.i64.wrap (v21+1))))) else (some (.inr (v19,v20)))
partial_fixpoint
def bt.f{σ:Type}(a_y:σ->aa->Int->Option (Bool×σ))(a_s:σ)(a1:Int)(a2:ab)(a3:aZ)(a4:aa):Option σ:=
 (bt.l0 a_y a1 a2 a3 a4 a_s 0>>=fun o=>match o with|.inl r=>some r|.inr (x22,x23)=>a_y x23 x22 0>>=fun y33=>some y33.2)
def fk.f(a0:ab)(a1:aZ)(a2:aa)(a3:Int):Option (Int×ab×aZ×aa):=
 some (a3,a0,a1,a2)
def cJ.y0(v4:aa×Int×Int×Int×(List ap)×(List am)×(List al)×(List am))(v5:aa)(v6:Int):Option (Bool×((aa×Int×Int×Int×(List ap)×(List am)×(List al)×(List am))×Nat)):=
 some (true,((v5,v6,v5.Pc.V,v5.Pc.L,v5.Code,v5.Mem,v5.Stack,v5.Out),0))
def cJ.f(a0:ab)(a1:aZ)(a2:aa)(a3:Int):Option (aa×Int×Int):=
 fl.f a0 a1 a2 a3>>=fun y1=>if y1=0 then (fk.f a0 a1 a2 a3>>=fun y3=>(bt.f (yOf (cJ.y0)) ((a2,0,a2.Pc.V,a2.Pc.L,a2.Code,a2.Mem,a2.Stack,a2.Out),0) y3.1 y3.2.1 y3.2.2.1 y3.2.2.2>>=fun y7=>if y7.2=0 then (some (y7.1.1,y7.1.2.1,0)) else none)) else (some ((⟨⟨0,0⟩,[],[],[],[]⟩:aa),0,y1))
def gL.y0(v6:Int×(List aa))(v7:aa)(v8:Int):Option (Bool×((Int×(List aa))×Nat)):=
 if (v6.2.length+([v7]:List aa).length)*112<=big then (some (true,((v8,v6.2++([v7]:List aa)),0))) else none
def gL.f(a0:ab)(a1:aZ)(a2:aa)(a3:Int):Option ((List aa)×Int×Int):=
 fl.f a0 a1 a2 a3>>=fun y1=>if y1=0 then (fk.f a0 a1 a2 a3>>=fun y3=>(bt.f (yOf (gL.y0)) ((0,([]:List aa)),0) y3.1 y3.2.1 y3.2.2.1 y3.2.2.2>>=fun y10=>if y10.2=0 then (some (y10.1.2,y10.1.1,0)) else none)) else (some (([]:List aa),0,y1))
def bE.f(a0:ce)(a1:aa):Option Bool:=
 dq.f a0.l_ a1.Pc.L a0.o_>>=fun y1=>some y1.1
def aD.l0(a0:List aa)(a1:aa->Option Bool)(v9:Int):Option (Int⊕Unit):=
 if v9<(a0.length:Int) then (lAt a0 v9>>=fun y11=>a1 y11>>=fun y12=>if y12=true then (some (.inl v9)) else (aD.l0 a0 a1 (IntKind.i64.wrap (v9+1)))) else (some (.inr ()))
partial_fixpoint
def aD.f(a0:List aa)(a1:aa->Option Bool):Option Int:=
 (aD.l0 a0 a1 0>>=fun o=>match o with|.inl r=>some r|.inr ()=>some (-1))
def ci.y0(v6:Int×(List aa))(v7:aa)(v8:Int):Option (Bool×((Int×(List aa))×Nat)):=
 if (v6.2.length+([v7]:List aa).length)*112<=big then (some (true,((v8,v6.2++([v7]:List aa)),0))) else none
def ci.f(a0:ab)(a1:aZ)(a2:aa)(a3:Int):Option ((List aa)×Int×Int):=
 fl.f a0 a1 a2 a3>>=fun y1=>if y1=0 then (fk.f a0 a1 a2 a3>>=fun y3=>(bt.f (yOf (ci.y0)) ((0,([]:List aa)),0) y3.1 y3.2.1 y3.2.2.1 y3.2.2.2>>=fun y10=>if y10.2=0 then (some (y10.1.2,y10.1.1,0)) else none)) else (some (([]:List aa),0,y1))
def dr.f(a0:aa)(a1:ce):Option Bool:=
 bE.f a1 a0>>=fun y1=>some (!y1)
def av.l0(a1:aa->Option Bool)(v25:List aa)(v26:Int)(v27:Int):Option ((List aa)×Int):=
 if v27<(v25.length:Int) then (((lAt v25 v27>>=fun y37=>a1 y37>>=fun y38=>if (!y38)=true then (lAt v25 v26>>=fun y40=>some (v25.set v26.toNat y37,IntKind.i64.wrap (v26+1))) else (some (v25,v26)):Option ((List aa)×Int))>>=fun o=>match o with|(x35,x36)=>av.l0 a1 x35 x36 (IntKind.i64.wrap (v27+1)))) else (some (v25,v26))
partial_fixpoint
def av.f(a0:List aa)(a1:aa->Option Bool):Option (List aa):=
 aD.f a0 a1>>=fun y1=>if y1=(-1) then (some a0) else ((av.l0 a1 a0 y1 (IntKind.i64.wrap (y1+1))>>=fun o=>match o with|(x28,x29)=>if (0:Int)<=x29/\x29<=(x28.length:Int) then (if (0:Int)<=x29/\x29<=((x28.take x29.toNat++List.replicate (x28.length-x29.toNat) ((⟨(⟨0,0⟩:am),[],[],[],[]⟩:aa):aa)).length:Int) then (some ((x28.take x29.toNat++List.replicate (x28.length-x29.toNat) ((⟨(⟨0,0⟩:am),[],[],[],[]⟩:aa):aa)).take x29.toNat)) else none) else none))
def dm.f(a0:ce)(a1:aa):Option (List aa):=
 ci.f a0.l_ a0.t_ a1 a0.fuel_>>=fun y1=>av.f y1.1 (fun z0=>dr.f z0 a0)>>=fun y2=>some y2
def fm.f(a0:ab)(a1:aZ)(a2:Int)(a3:aa)(a4:Int):Option ((List aa)×Int):=
 cJ.f a0 a1 a3 a4>>=fun y1=>if y1.2.2=0 then (((if a2<0 then (some true) else (some (decide (a2>=(a0.Up.length:Int)))):Option Bool)>>=fun x4=>if x4=true then (some (([]:List aa),9)) else (dm.f (⟨a0,a1,a2,a4,(⟨(⟨0,0⟩:am),[],[],[],[]⟩:aa),(⟨(⟨0,0⟩:am),[],[],[],[]⟩:aa)⟩:ce) a3>>=fun y7=>some (y7,0)))) else (some (([]:List aa),y1.2.2))
def bU.l0(a0:Str)(v19:Int):Option (Bool⊕Unit):=
 if v19<(a0.length:Int) then (((if (0:Int)<=v19/\v19<(a0.length:Int) then (if sAt a0 v19<97 then (some true) else (if (0:Int)<=v19/\v19<(a0.length:Int) then (some (decide (sAt a0 v19>122))) else none)) else none:Option Bool)>>=fun x24=>if x24=true then (some (.inl false)) else (bU.l0 a0 (IntKind.i64.wrap (v19+1))))) else (some (.inr ()))
partial_fixpoint
def bU.f(a0:Str):Option Bool:=
 (bU.l0 a0 0>>=fun o=>match o with|.inl r=>some r|.inr ()=>((if (a0.length:Int)>0 then (some (decide ((a0.length:Int)<=12))) else (some false):Option Bool)>>=fun x30=>some x30))
def cP.l0(a1:Int)(v3:Int)(v4:Int):Option Int:=
 if v4<a1 then (cP.l0 a1 (IntKind.u32.wrap (v3.tdiv 2)) (IntKind.i64.wrap (v4+1))) else (some v3)
partial_fixpoint
def cP.f(a0:Int)(a1:Int):Option Bool:=
 (cP.l0 a1 a0 0>>=fun x5=>some (decide (x5>0)))
def br.l3(a0:ab)(v53:Int)(y55:Str)(v73:Int):Option (Bool⊕Unit):=
 if v73<((lCut a0.Names 0 v53).length:Int) then (lAt (lCut a0.Names 0 v53) v73>>=fun y75=>if y75=y55 then (some (.inl false)) else (br.l3 a0 v53 y55 (IntKind.i64.wrap (v73+1)))) else (some (.inr ()))
partial_fixpoint
def br.l2(a0:ab)(v53:Int):Option (Bool⊕Unit):=
 if v53<(a0.Names.length:Int) then (lAt a0.Names v53>>=fun y55=>((bU.f y55>>=fun y61=>if (!y61)=true then (some true) else (lAt a0.Up v53>>=fun y63=>cP.f y63 (a0.Up.length:Int)>>=fun y64=>some y64):Option Bool)>>=fun x60=>if x60=true then (some (.inl false)) else (if (0:Int)<=v53/\v53<=(a0.Names.length:Int) then ((br.l3 a0 v53 y55 0>>=fun o=>match o with|.inl r=>some (.inl r)|.inr ()=>br.l2 a0 (IntKind.i64.wrap (v53+1)))) else none))) else (some (.inr ()))
partial_fixpoint
def br.f(a0:ab):Option Bool:=
 ((if (a0.Up.length:Int)<1 then (some true) else (if (a0.Up.length:Int)>8 then (some true) else (some (!decide ((a0.Names.length:Int)=(a0.Up.length:Int))))):Option Bool)>>=fun x3=>if x3=true then (some false) else ((br.l2 a0 0>>=fun o=>match o with|.inl r=>some r|.inr ()=>some true)))
def au.l0(a2:Int)(v4:Int)(v5:Int):Option Int:=
 if v5<a2 then (au.l0 a2 (IntKind.u32.wrap (v4.tdiv 2)) (IntKind.i64.wrap (v5+1))) else (some v4)
partial_fixpoint
def au.f(a0:ab)(a1:Int)(a2:Int):Option Bool:=
 lAt a0.Up a1>>=fun y1=>(au.l0 a2 y1 0>>=fun x6=>some (decide (x6.tmod 2=1)))
def aN.l12(a0:ab)(v315:Int)(v421:Int)(v459:Int):Option (Bool⊕Unit):=
 if v459<(a0.Up.length:Int) then (((au.f a0 v315 v421>>=fun y467=>if y467=true then (au.f a0 v421 v459>>=fun y469=>if y469=true then (au.f a0 v315 v459>>=fun y471=>some (!y471)) else (some false)) else (some false):Option Bool)>>=fun x466=>if x466=true then (some (.inl false)) else (aN.l12 a0 v315 v421 (IntKind.i64.wrap (v459+1))))) else (some (.inr ()))
partial_fixpoint
def aN.l11(a0:ab)(v315:Int)(v421:Int):Option (Bool⊕Unit):=
 if v421<(a0.Up.length:Int) then (((if v315=v421 then (some false) else (au.f a0 v315 v421>>=fun y429=>if y429=true then (au.f a0 v421 v315>>=fun y431=>some y431) else (some false)):Option Bool)>>=fun x427=>if x427=true then (some (.inl false)) else ((aN.l12 a0 v315 v421 0>>=fun o=>match o with|.inl r=>some (.inl r)|.inr ()=>aN.l11 a0 v315 (IntKind.i64.wrap (v421+1)))))) else (some (.inr ()))
partial_fixpoint
def aN.l8(a0:ab)(v315:Int):Option (Bool⊕Unit):=
 if v315<(a0.Up.length:Int) then (au.f a0 v315 v315>>=fun y317=>if (!y317)=true then (some (.inl false)) else ((aN.l11 a0 v315 0>>=fun o=>match o with|.inl r=>some (.inl r)|.inr ()=>aN.l8 a0 (IntKind.i64.wrap (v315+1))))) else (some (.inr ()))
partial_fixpoint
def aN.f(a0:ab):Option Bool:=
 (aN.l8 a0 0>>=fun o=>match o with|.inl r=>some r|.inr ()=>some true)
def aT.l3(a0:ab)(a1:Int)(a2:Int)(v181:Int)(v242:Int)(v243:Bool):Option Bool:=
 if v242<(a0.Up.length:Int) then (((((au.f a0 a1 v242>>=fun y265=>if y265=true then (au.f a0 a2 v242>>=fun y267=>if y267=true then (au.f a0 v181 v242>>=fun y269=>some (!y269)) else (some false)) else (some false):Option Bool)>>=fun x264=>if x264=true then (some false) else (some v243)):Option Bool)>>=fun x258=>aT.l3 a0 a1 a2 v181 (IntKind.i64.wrap (v242+1)) x258)) else (some v243)
partial_fixpoint
def aT.l2(a0:ab)(a1:Int)(a2:Int)(v181:Int):Option (Int⊕Unit):=
 if v181<(a0.Up.length:Int) then (((au.f a0 a1 v181>>=fun y187=>if y187=true then (au.f a0 a2 v181>>=fun y189=>some y189) else (some false):Option Bool)>>=fun x186=>(aT.l3 a0 a1 a2 v181 0 x186>>=fun x244=>if x244=true then (some (.inl v181)) else (aT.l2 a0 a1 a2 (IntKind.i64.wrap (v181+1)))))) else (some (.inr ()))
partial_fixpoint
def aT.f(a0:ab)(a1:Int)(a2:Int):Option Int:=
 (aT.l2 a0 a1 a2 0>>=fun o=>match o with|.inl r=>some r|.inr ()=>some (-1))
def aU.l3(a0:ab)(a1:Int)(a2:Int)(v181:Int)(v242:Int)(v243:Bool):Option Bool:=
 if v242<(a0.Up.length:Int) then (((((au.f a0 v242 a1>>=fun y265=>if y265=true then (au.f a0 v242 a2>>=fun y267=>if y267=true then (au.f a0 v242 v181>>=fun y269=>some (!y269)) else (some false)) else (some false):Option Bool)>>=fun x264=>if x264=true then (some false) else (some v243)):Option Bool)>>=fun x258=>aU.l3 a0 a1 a2 v181 (IntKind.i64.wrap (v242+1)) x258)) else (some v243)
partial_fixpoint
def aU.l2(a0:ab)(a1:Int)(a2:Int)(v181:Int):Option (Int⊕Unit):=
 if v181<(a0.Up.length:Int) then (((au.f a0 v181 a1>>=fun y187=>if y187=true then (au.f a0 v181 a2>>=fun y189=>some y189) else (some false):Option Bool)>>=fun x186=>(aU.l3 a0 a1 a2 v181 0 x186>>=fun x244=>if x244=true then (some (.inl v181)) else (aU.l2 a0 a1 a2 (IntKind.i64.wrap (v181+1)))))) else (some (.inr ()))
partial_fixpoint
def aU.f(a0:ab)(a1:Int)(a2:Int):Option Int:=
 (aU.l2 a0 a1 a2 0>>=fun o=>match o with|.inl r=>some r|.inr ()=>some (-1))
def bk.l3(a0:ab)(v63:Int)(v83:Int):Option (Int⊕Unit):=
 if v83<(a0.Up.length:Int) then (((aT.f a0 v63 v83>>=fun y89=>if y89<0 then (some true) else (aU.f a0 v63 v83>>=fun y91=>some (decide (y91<0))):Option Bool)>>=fun x88=>if x88=true then (some (.inl 3)) else (bk.l3 a0 v63 (IntKind.i64.wrap (v83+1))))) else (some (.inr ()))
partial_fixpoint
def bk.l2(a0:ab)(v63:Int):Option (Int⊕Unit):=
 if v63<(a0.Up.length:Int) then ((bk.l3 a0 v63 0>>=fun o=>match o with|.inl r=>some (.inl r)|.inr ()=>bk.l2 a0 (IntKind.i64.wrap (v63+1)))) else (some (.inr ()))
partial_fixpoint
def bk.f(a0:ab):Option Int:=
 br.f a0>>=fun y1=>if (!y1)=true then (some 1) else (aN.f a0>>=fun y3=>if (!y3)=true then (some 2) else ((bk.l2 a0 0>>=fun o=>match o with|.inl r=>some r|.inr ()=>some 0)))
def ct.f(a0:List Int)(a1:Int):Option Bool:=
 ((if (a0.length:Int)>=2 then (lAt a0 (IntKind.i64.wrap ((a0.length:Int)-1))>>=fun y7=>if y7=a1 then (lAt a0 (IntKind.i64.wrap ((a0.length:Int)-2))>>=fun y9=>some (decide (y9=a1))) else (some false)) else (some false):Option Bool)>>=fun x5=>some x5)
def bV.l0(a0:List Int)(v169:List Int)(v170:Int):Option (Int⊕(List Int)):=
 if v170<(a0.length:Int) then (((lAt a0 v170>>=fun y215=>((if y215=1 then (some true) else (some (decide (y215=2))):Option Bool)>>=fun x217=>if x217=true then (if (v169.length+([1]:List Int).length)*8<=big then (some (.inr (v169++([1]:List Int)))) else none) else (((if y215>=6 then (some (decide (y215<=11))) else (some false):Option Bool)>>=fun x222=>if x222=true then (if (v169.length+([2]:List Int).length)*8<=big then (some (.inr (v169++([2]:List Int)))) else none) else (((if y215=3 then (ct.f v169 1>>=fun y232=>some y232) else (if y215=4 then (ct.f v169 1>>=fun y234=>some y234) else (some false)):Option Bool)>>=fun x230=>if x230=true then (if (0:Int)<=IntKind.i64.wrap ((v169.length:Int)-1)/\IntKind.i64.wrap ((v169.length:Int)-1)<=(v169.length:Int) then (some (.inr (v169.take (IntKind.i64.wrap ((v169.length:Int)-1)).toNat))) else none) else (((if y215=5 then (ct.f v169 2>>=fun y241=>some y241) else (some false):Option Bool)>>=fun x239=>if x239=true then (if (0:Int)<=IntKind.i64.wrap ((v169.length:Int)-2)/\IntKind.i64.wrap ((v169.length:Int)-2)<=(v169.length:Int) then (if ((v169.take (IntKind.i64.wrap ((v169.length:Int)-2)).toNat).length+([1]:List Int).length)*8<=big then (some (.inr ((v169.take (IntKind.i64.wrap ((v169.length:Int)-2)).toNat)++([1]:List Int)))) else none) else none) else (((if y215=12 then (ct.f v169 2>>=fun y251=>some y251) else (if y215=13 then (ct.f v169 2>>=fun y253=>some y253) else (some false)):Option Bool)>>=fun x249=>if x249=true then (if (0:Int)<=IntKind.i64.wrap ((v169.length:Int)-1)/\IntKind.i64.wrap ((v169.length:Int)-1)<=(v169.length:Int) then (some (.inr (v169.take (IntKind.i64.wrap ((v169.length:Int)-1)).toNat))) else none) else (some (.inl 0))))))))))):Option (Int⊕(List Int)))>>=fun o=>match o with|.inl r=>some (.inl r)|.inr x214=>bV.l0 a0 x214 (IntKind.i64.wrap (v170+1)))) else (some (.inr v169))
partial_fixpoint
def bV.f(a0:List Int):Option Int:=
 (bV.l0 a0 ([]:List Int) 0>>=fun o=>match o with|.inl r=>some r|.inr x171=>((if (x171.length:Int)=1 then (some (decide ((a0.length:Int)>40))) else (some true):Option Bool)>>=fun x257=>if x257=true then (some 0) else (lAt x171 0>>=fun y260=>some y260)))
def cA.f(a0:List Int)(a1:Bool):Option Bool:=
 if a1=true then (bV.f a0>>=fun y2=>some (decide (y2=2))) else (bV.f a0>>=fun y3=>some (decide (y3=1)))
def eX.f(a0:Int):Option Int:=
 lAt ([0,1,1,2,2,2,3,1,1,1,2,1,0]:List Int) a0>>=fun y1=>some y1
def da.l0(a0:List Int)(a1:Int)(v7:Int):Option (Bool⊕Unit):=
 if v7<(a0.length:Int) then (lAt a0 v7>>=fun y9=>if y9=IntKind.i64.wrap (8+a1) then (some (.inl true)) else (da.l0 a0 a1 (IntKind.i64.wrap (v7+1)))) else (some (.inr ()))
partial_fixpoint
def da.f(a0:List Int)(a1:Int):Option Bool:=
 (da.l0 a0 a1 0>>=fun o=>match o with|.inl r=>some r|.inr ()=>some false)
def bN.l0(a1:List Int)(v8:Int):Option (Bool⊕Unit):=
 if v8<4 then (da.f a1 v8>>=fun y10=>if y10=true then (some (.inl false)) else (bN.l0 a1 (IntKind.i64.wrap (v8+1)))) else (some (.inr ()))
partial_fixpoint
def bN.f(a0:Int)(a1:List Int):Option Bool:=
 eX.f a0>>=fun y1=>(bN.l0 a1 (IntKind.i64.wrap (y1+1))>>=fun o=>match o with|.inl r=>some r|.inr ()=>some true)
def eF.f(a0:Int)(a1:aE):Option Int:=
 ((cA.f a1.May false>>=fun y7=>if (!y7)=true then (some true) else (cA.f a1.Res true>>=fun y9=>if (!y9)=true then (some true) else (cA.f a1.Pc true>>=fun y11=>some (!y11))):Option Bool)>>=fun x6=>if x6=true then (some 1) else (((bN.f a0 a1.May>>=fun y19=>if (!y19)=true then (some true) else (bN.f a0 a1.Res>>=fun y21=>if (!y21)=true then (some true) else (bN.f a0 a1.Pc>>=fun y23=>some (!y23))):Option Bool)>>=fun x18=>if x18=true then (some 7) else (some 0))))
def b9.l0(a0:aZ)(v10:Int):Option (eH⊕Unit):=
 if v10<(a0.Rows.length:Int) then (lAt a0.Rows v10>>=fun y12=>eF.f v10 y12>>=fun y13=>if y13=0 then (b9.l0 a0 (IntKind.i64.wrap (v10+1))) else (some (.inl (⟨v10,y13⟩:eH)))) else (some (.inr ()))
partial_fixpoint
def b9.f(a0:aZ):Option eH:=
 if (a0.Rows.length:Int)=13 then ((b9.l0 a0 0>>=fun o=>match o with|.inl r=>some r|.inr ()=>some (⟨0,0⟩:eH))) else (some (⟨0,1⟩:eH))
def eG.f(a0:Int)(a1:ap):Option Bool:=
 if a1.Op=1 then (((if a1.N>=(-20) then (if a1.N<=20 then (if a1.L>=0 then (some (decide (a1.L<a0))) else (some false)) else (some false)) else (some false):Option Bool)>>=fun x5=>some x5)) else (((if a1.Op<0 then (some true) else (if a1.Op>12 then (some true) else (some (!decide (a1.L=0)))):Option Bool)>>=fun x11=>if x11=true then (some false) else (if a1.Op=8 then (((if a1.N>=0 then (some (decide (a1.N<=12))) else (some false):Option Bool)>>=fun x17=>some x17)) else (if a1.Op=9 then (((if a1.N>=0 then (some (decide (a1.N<=3))) else (some false):Option Bool)>>=fun x21=>some x21)) else (if a1.Op=10 then (((if a1.N=0 then (some true) else (some (decide (a1.N=1))):Option Bool)>>=fun x25=>some x25)) else (some (decide (a1.N=0))))))))
def bT.l0(a0:ab)(a1:List ap)(v9:Int):Option (Bool⊕Unit):=
 if v9<(a1.length:Int) then (lAt a1 v9>>=fun y11=>eG.f (a0.Up.length:Int) y11>>=fun y12=>if (!y12)=true then (some (.inl false)) else (bT.l0 a0 a1 (IntKind.i64.wrap (v9+1)))) else (some (.inr ()))
partial_fixpoint
def bT.f(a0:ab)(a1:List ap):Option Bool:=
 (bT.l0 a0 a1 0>>=fun o=>match o with|.inl r=>some r|.inr ()=>some (decide ((a1.length:Int)<=12)))
def cc.f(a0:ab)(a1:Int):Option Bool:=
 ((if a1>=0 then (some (decide (a1<(a0.Up.length:Int)))) else (some false):Option Bool)>>=fun x2=>some x2)
def bD.l0(a0:ab)(a1:List am)(v21:Int):Option (Bool⊕Unit):=
 if v21<(a1.length:Int) then (lAt a1 v21>>=fun y23=>((if y23.V<(-20) then (some true) else (if y23.V>20 then (some true) else (cc.f a0 y23.L>>=fun y30=>some (!y30))):Option Bool)>>=fun x27=>if x27=true then (some (.inl false)) else (bD.l0 a0 a1 (IntKind.i64.wrap (v21+1))))) else (some (.inr ()))
partial_fixpoint
def bD.f(a0:ab)(a1:List am):Option Bool:=
 (bD.l0 a0 a1 0>>=fun o=>match o with|.inl r=>some r|.inr ()=>some true)
def cd.l0(a0:ab)(a1:List al)(v33:Int):Option (Bool⊕Unit):=
 if v33<(a1.length:Int) then (lAt a1 v33>>=fun y35=>((if y35.V<(-20) then (some true) else (if y35.V>20 then (some true) else (cc.f a0 y35.L>>=fun y45=>if (!y45)=true then (some true) else (if y35.Ret=true then (if y35.V<0 then (some true) else (some (decide (y35.V>12)))) else (some false)))):Option Bool)>>=fun x42=>if x42=true then (some (.inl false)) else (cd.l0 a0 a1 (IntKind.i64.wrap (v33+1))))) else (some (.inr ()))
partial_fixpoint
def cd.f(a0:ab)(a1:List al):Option Bool:=
 (cd.l0 a0 a1 0>>=fun o=>match o with|.inl r=>some r|.inr ()=>some (decide ((a1.length:Int)<=12)))
def cu.f(a0:ab)(a1:aa):Option Bool:=
 ((bT.f a0 a1.Code>>=fun y7=>if (!y7)=true then (some true) else (if a1.Pc.V<0 then (some true) else (if a1.Pc.V>12 then (some true) else (cc.f a0 a1.Pc.L>>=fun y11=>some (!y11)))):Option Bool)>>=fun x6=>if x6=true then (some false) else (((bD.f a0 a1.Mem>>=fun y21=>if y21=true then (if (a1.Mem.length:Int)<=6 then (cd.f a0 a1.Stack>>=fun y24=>if y24=true then (bD.f a0 a1.Out>>=fun y26=>if y26=true then (some (decide ((a1.Out.length:Int)<=8))) else (some false)) else (some false)) else (some false)) else (some false):Option Bool)>>=fun x20=>some x20)))
def eS.f(a0:ab)(a1:aZ)(a2:aa):Option Int:=
 bk.f a0>>=fun y1=>if y1=0 then (b9.f a1>>=fun y3=>if y3.E=0 then (cu.f a0 a2>>=fun y5=>if (!y5)=true then (some 1) else (some 0)) else (b9.f a1>>=fun y7=>some y7.E)) else (some y1)
def eJ.f(a0:ab)(a1:aZ)(a2:aa)(a3:Int):Option Int:=
 eS.f a0 a1 a2>>=fun y1=>((if y1=0 then (if a3<0 then (some true) else (some (decide (a3>40)))) else (some false):Option Bool)>>=fun x4=>if x4=true then (some 1) else (some y1))
def gt.f:Option aZ:=
 some (⟨([(⟨([1]:List Int),([6]:List Int),([8]:List Int)⟩:aE),(⟨([1]:List Int),([9]:List Int),([8]:List Int)⟩:aE),(⟨([1]:List Int),([6]:List Int),([8]:List Int)⟩:aE),(⟨([1]:List Int),([9,10,12]:List Int),([8]:List Int)⟩:aE),(⟨([1]:List Int),([9,10,12]:List Int),([8]:List Int)⟩:aE),(⟨([1]:List Int),([9,10,12]:List Int),([8]:List Int)⟩:aE),(⟨([9,8,12,11,5]:List Int),([9,10,12,8,12]:List Int),([8]:List Int)⟩:aE),(⟨([1]:List Int),([6]:List Int),([9,8,12]:List Int)⟩:aE),(⟨([1]:List Int),([6]:List Int),([9,8,12]:List Int)⟩:aE),(⟨([1]:List Int),([6]:List Int),([9,8,12]:List Int)⟩:aE),(⟨([1]:List Int),([9,8,12]:List Int),([10]:List Int)⟩:aE),(⟨([1]:List Int),([9,8,12]:List Int),([8]:List Int)⟩:aE),(⟨([1]:List Int),([6]:List Int),([8]:List Int)⟩:aE)]:List aE)⟩:aZ)
def eg.f(a0:ap)(a1:ap):Option Bool:=
 ((if a0.Op=a1.Op then (if a0.Op=1 then (some true) else (some (decide (a0.N=a1.N)))) else (some false):Option Bool)>>=fun x3=>some x3)
def eh.f(a0:ap):Option Int:=
 some a0.L
def er.f(a0:ap)(a1:ap):Option Bool:=
 some (decide (a0.N=a1.N))
def dR.f:Option dx:=
 some (⟨(some eg.f),(some eh.f),(some er.f)⟩:dx)
def bi.l3(a0:dx)(y45:List ap)(v56:List Int)(v57:Int):Option (List Int):=
 if v57<(y45.length:Int) then (lAt y45 v57>>=fun y60=>a0.label_>>=fun y61=>y61 y60>>=fun y62=>if (v56.length+([y62]:List Int).length)*8<=big then (bi.l3 a0 y45 (v56++([y62]:List Int)) (IntKind.i64.wrap (v57+1))) else none) else (some v56)
partial_fixpoint
def bi.l2(a0:dx)(a1:List (List ap))(v41:List Int)(v42:Int):Option (List Int):=
 if v42<(a1.length:Int) then (lAt a1 v42>>=fun y45=>(bi.l3 a0 y45 v41 0>>=fun x58=>bi.l2 a0 a1 x58 (IntKind.i64.wrap (v42+1)))) else (some v41)
partial_fixpoint
def bi.f(a0:dx)(a1:List (List ap)):Option (List Int):=
 (bi.l2 a0 a1 ([]:List Int) 0>>=fun x43=>some x43)
def fD.f(a0:am)(a1:am):Option Bool:=
 some true
def fE.f(a0:am):Option Int:=
 some a0.L
def fF.f(a0:am)(a1:am):Option Bool:=
 some (decide (a0.V=a1.V))
def fN.f:Option dy:=
 some (⟨(some fD.f),(some fE.f),(some fF.f)⟩:dy)
def bl.l3(a0:dy)(y45:List am)(v56:List Int)(v57:Int):Option (List Int):=
 if v57<(y45.length:Int) then (lAt y45 v57>>=fun y60=>a0.label_>>=fun y61=>y61 y60>>=fun y62=>if (v56.length+([y62]:List Int).length)*8<=big then (bl.l3 a0 y45 (v56++([y62]:List Int)) (IntKind.i64.wrap (v57+1))) else none) else (some v56)
partial_fixpoint
def bl.l2(a0:dy)(a1:List (List am))(v41:List Int)(v42:Int):Option (List Int):=
 if v42<(a1.length:Int) then (lAt a1 v42>>=fun y45=>(bl.l3 a0 y45 v41 0>>=fun x58=>bl.l2 a0 a1 x58 (IntKind.i64.wrap (v42+1)))) else (some v41)
partial_fixpoint
def bl.f(a0:dy)(a1:List (List am)):Option (List Int):=
 (bl.l2 a0 a1 ([]:List Int) 0>>=fun x43=>some x43)
def fG.f(a0:al)(a1:al):Option Bool:=
 some (decide (a0.Ret=a1.Ret))
def fH.f(a0:al):Option Int:=
 some a0.L
def fJ.f(a0:al)(a1:al):Option Bool:=
 some (decide (a0.V=a1.V))
def fz.f:Option dz:=
 some (⟨(some fG.f),(some fH.f),(some fJ.f)⟩:dz)
def bm.l3(a0:dz)(y45:List al)(v56:List Int)(v57:Int):Option (List Int):=
 if v57<(y45.length:Int) then (lAt y45 v57>>=fun y60=>a0.label_>>=fun y61=>y61 y60>>=fun y62=>if (v56.length+([y62]:List Int).length)*8<=big then (bm.l3 a0 y45 (v56++([y62]:List Int)) (IntKind.i64.wrap (v57+1))) else none) else (some v56)
partial_fixpoint
def bm.l2(a0:dz)(a1:List (List al))(v41:List Int)(v42:Int):Option (List Int):=
 if v42<(a1.length:Int) then (lAt a1 v42>>=fun y45=>(bm.l3 a0 y45 v41 0>>=fun x58=>bm.l2 a0 a1 x58 (IntKind.i64.wrap (v42+1)))) else (some v41)
partial_fixpoint
def bm.f(a0:dz)(a1:List (List al)):Option (List Int):=
 (bm.l2 a0 a1 ([]:List Int) 0>>=fun x43=>some x43)
def eP.f(a1:Int):Option (List Int):=
 if a1<0 then (none) else (if IntKind.i64.wrap (a1-(IntKind.i64.wrap (0-(([]:List Int).length:Int))))>0 then (if 0<IntKind.i64.wrap (a1-(IntKind.i64.wrap (0-(([]:List Int).length:Int))))/\(IntKind.i64.wrap (a1-(IntKind.i64.wrap (0-(([]:List Int).length:Int))))).toNat*8<=big then (if (0:Int)<=(([]:List Int).length:Int)/\(([]:List Int).length:Int)<=((List.replicate (IntKind.i64.wrap (a1-(IntKind.i64.wrap (0-(([]:List Int).length:Int))))).toNat (0:Int)).length:Int) then (some ((List.replicate (IntKind.i64.wrap (a1-(IntKind.i64.wrap (0-(([]:List Int).length:Int))))).toNat (0:Int)).take (([]:List Int).length:Int).toNat)) else none) else none) else (some ([]:List Int)))
def bn.l0(a0:List (List Int))(v13:Int)(v14:Int):Option Int:=
 if v13<(a0.length:Int) then (((lAt a0 v13>>=fun y20=>if IntKind.i64.wrap (v14+(y20.length:Int))<0 then (none) else (some (IntKind.i64.wrap (v14+(y20.length:Int)))):Option Int)>>=fun x19=>bn.l0 a0 (IntKind.i64.wrap (v13+1)) x19)) else (some v14)
partial_fixpoint
def bn.l1(a0:List (List Int))(v29:List Int)(v30:Int):Option (List Int):=
 if v30<(a0.length:Int) then (lAt a0 v30>>=fun y33=>if (v29.length+y33.length)*8<=big then (bn.l1 a0 (v29++y33) (IntKind.i64.wrap (v30+1))) else none) else (some v29)
partial_fixpoint
def bn.f(a0:List (List Int)):Option (List Int):=
 (bn.l0 a0 0 0>>=fun x15=>eP.f x15>>=fun y22=>(bn.l1 a0 y22 0>>=fun x31=>some x31))
def f8.f(a0:Int)(a1:ab):Option Bool:=
 ((if a0<0 then (some true) else (some (decide (a0>=(a1.Up.length:Int)))):Option Bool)>>=fun x2=>some x2)
def fX.f(a0:ab)(a1:List Int):Option Int:=
 bK.f a0>>=fun y1=>if y1=0 then (bH.f a1 (fun z0=>f8.f z0 a0)>>=fun y3=>if y3=true then (some 9) else (some 0)) else (some y1)
def bw.f(a0:bp)(a1:Int):Option Bool:=
 dq.f a0.l_ a1 a0.o_>>=fun y1=>some y1.1
def aw.l0(a0:List ap)(a1:List ap)(a2:ap->ap->Option Bool)(v12:Int):Option (Bool⊕Unit):=
 if v12<(a0.length:Int) then (lAt a0 v12>>=fun y14=>lAt a1 v12>>=fun y15=>a2 y14 y15>>=fun y16=>if (!y16)=true then (some (.inl false)) else (aw.l0 a0 a1 a2 (IntKind.i64.wrap (v12+1)))) else (some (.inr ()))
partial_fixpoint
def aw.f(a0:List ap)(a1:List ap)(a2:ap->ap->Option Bool):Option Bool:=
 if (a0.length:Int)=(a1.length:Int) then ((aw.l0 a0 a1 a2 0>>=fun o=>match o with|.inl r=>some r|.inr ()=>some true)) else (some false)
def dw.f(a0:ap)(a1:ap)(a2:dx)(a3:bp):Option Bool:=
 ((a2.same_>>=fun y16=>y16 a0 a1>>=fun y17=>if y17=true then (a2.label_>>=fun y19=>y19 a0>>=fun y20=>a2.label_>>=fun y21=>y21 a1>>=fun y22=>if y20=y22 then (a2.label_>>=fun y24=>y24 a0>>=fun y25=>bw.f a3 y25>>=fun y26=>if (!y26)=true then (some true) else (a2.seen_>>=fun y28=>y28 a0 a1>>=fun y29=>some y29)) else (some false)) else (some false):Option Bool)>>=fun x15=>some x15)
def du.f(a0:bp)(a1:dx)(a2:List ap)(a3:List ap):Option Bool:=
 aw.f a2 a3 (fun z0 z1=>dw.f z0 z1 a1 a0)>>=fun y1=>some y1
def aB.l0(a0:List am)(a1:List am)(a2:am->am->Option Bool)(v12:Int):Option (Bool⊕Unit):=
 if v12<(a0.length:Int) then (lAt a0 v12>>=fun y14=>lAt a1 v12>>=fun y15=>a2 y14 y15>>=fun y16=>if (!y16)=true then (some (.inl false)) else (aB.l0 a0 a1 a2 (IntKind.i64.wrap (v12+1)))) else (some (.inr ()))
partial_fixpoint
def aB.f(a0:List am)(a1:List am)(a2:am->am->Option Bool):Option Bool:=
 if (a0.length:Int)=(a1.length:Int) then ((aB.l0 a0 a1 a2 0>>=fun o=>match o with|.inl r=>some r|.inr ()=>some true)) else (some false)
def dB.f(a0:am)(a1:am)(a2:dy)(a3:bp):Option Bool:=
 ((a2.same_>>=fun y16=>y16 a0 a1>>=fun y17=>if y17=true then (a2.label_>>=fun y19=>y19 a0>>=fun y20=>a2.label_>>=fun y21=>y21 a1>>=fun y22=>if y20=y22 then (a2.label_>>=fun y24=>y24 a0>>=fun y25=>bw.f a3 y25>>=fun y26=>if (!y26)=true then (some true) else (a2.seen_>>=fun y28=>y28 a0 a1>>=fun y29=>some y29)) else (some false)) else (some false):Option Bool)>>=fun x15=>some x15)
def dH.f(a0:bp)(a1:dy)(a2:List am)(a3:List am):Option Bool:=
 aB.f a2 a3 (fun z0 z1=>dB.f z0 z1 a1 a0)>>=fun y1=>some y1
def bq.l0(a0:List am)(a1:List am)(v10:Int):Option (Bool⊕Unit):=
 if v10<(a0.length:Int) then (lAt a0 v10>>=fun y12=>lAt a1 v10>>=fun y13=>if y12=y13 then (bq.l0 a0 a1 (IntKind.i64.wrap (v10+1))) else (some (.inl false))) else (some (.inr ()))
partial_fixpoint
def bq.f(a0:List am)(a1:List am):Option Bool:=
 if (a0.length:Int)=(a1.length:Int) then ((bq.l0 a0 a1 0>>=fun o=>match o with|.inl r=>some r|.inr ()=>some true)) else (some false)
def eY.f(a0:am)(a1:bp):Option Bool:=
 bw.f a1 a0.L>>=fun y1=>some (!y1)
def aI.l0(a1:am->Option Bool)(v25:List am)(v26:Int)(v27:Int):Option ((List am)×Int):=
 if v27<(v25.length:Int) then (((lAt v25 v27>>=fun y37=>a1 y37>>=fun y38=>if (!y38)=true then (lAt v25 v26>>=fun y40=>some (v25.set v26.toNat y37,IntKind.i64.wrap (v26+1))) else (some (v25,v26)):Option ((List am)×Int))>>=fun o=>match o with|(x35,x36)=>aI.l0 a1 x35 x36 (IntKind.i64.wrap (v27+1)))) else (some (v25,v26))
partial_fixpoint
def aI.f(a0:List am)(a1:am->Option Bool):Option (List am):=
 aF.f a0 a1>>=fun y1=>if y1=(-1) then (some a0) else ((aI.l0 a1 a0 y1 (IntKind.i64.wrap (y1+1))>>=fun o=>match o with|(x28,x29)=>if (0:Int)<=x29/\x29<=(x28.length:Int) then (if (0:Int)<=x29/\x29<=((x28.take x29.toNat++List.replicate (x28.length-x29.toNat) ((⟨0,0⟩:am):am)).length:Int) then (some ((x28.take x29.toNat++List.replicate (x28.length-x29.toNat) ((⟨0,0⟩:am):am)).take x29.toNat)) else none) else none))
def fR.f(a0:bp)(a1:List am)(a2:List am):Option Bool:=
 aQ.f a1>>=fun y1=>aI.f y1 (fun z0=>eY.f z0 a0)>>=fun y2=>aQ.f a2>>=fun y3=>aI.f y3 (fun z0=>eY.f z0 a0)>>=fun y4=>bq.f y2 y4>>=fun y5=>some y5
def aC.l0(a0:List al)(a1:List al)(a2:al->al->Option Bool)(v12:Int):Option (Bool⊕Unit):=
 if v12<(a0.length:Int) then (lAt a0 v12>>=fun y14=>lAt a1 v12>>=fun y15=>a2 y14 y15>>=fun y16=>if (!y16)=true then (some (.inl false)) else (aC.l0 a0 a1 a2 (IntKind.i64.wrap (v12+1)))) else (some (.inr ()))
partial_fixpoint
def aC.f(a0:List al)(a1:List al)(a2:al->al->Option Bool):Option Bool:=
 if (a0.length:Int)=(a1.length:Int) then ((aC.l0 a0 a1 a2 0>>=fun o=>match o with|.inl r=>some r|.inr ()=>some true)) else (some false)
def dC.f(a0:al)(a1:al)(a2:dz)(a3:bp):Option Bool:=
 ((a2.same_>>=fun y16=>y16 a0 a1>>=fun y17=>if y17=true then (a2.label_>>=fun y19=>y19 a0>>=fun y20=>a2.label_>>=fun y21=>y21 a1>>=fun y22=>if y20=y22 then (a2.label_>>=fun y24=>y24 a0>>=fun y25=>bw.f a3 y25>>=fun y26=>if (!y26)=true then (some true) else (a2.seen_>>=fun y28=>y28 a0 a1>>=fun y29=>some y29)) else (some false)) else (some false):Option Bool)>>=fun x15=>some x15)
def dD.f(a0:bp)(a1:dz)(a2:List al)(a3:List al):Option Bool:=
 aC.f a2 a3 (fun z0 z1=>dC.f z0 z1 a1 a0)>>=fun y1=>some y1
def dO.l0(a0:bp)(a1:List al)(v25:Int):Option ((List al)⊕Unit):=
 if v25>=0 then (((lAt a1 v25>>=fun y32=>if y32.Ret=true then (lAt a1 v25>>=fun y34=>bw.f a0 y34.L>>=fun y35=>some y35) else (some false):Option Bool)>>=fun x31=>if x31=true then (if (0:Int)<=IntKind.i64.wrap (v25+1)/\IntKind.i64.wrap (v25+1)<=(a1.length:Int) then (some (.inl (lCut a1 0 (IntKind.i64.wrap (v25+1))))) else none) else (dO.l0 a0 a1 (IntKind.i64.wrap (v25-1))))) else (some (.inr ()))
partial_fixpoint
def dO.f(a0:bp)(a1:List al):Option (List al):=
 (dO.l0 a0 a1 (IntKind.i64.wrap ((a1.length:Int)-1))>>=fun o=>match o with|.inl r=>some r|.inr ()=>some ([]:List al))
def eZ.f(a0:ab)(a1:Int)(a2:aa)(a3:aa):Option (Bool×Int):=
 dR.f>>=fun y1=>bi.f y1 ([a2.Code,a3.Code]:List (List ap))>>=fun y2=>fN.f>>=fun y3=>bl.f y3 ([a2.Mem,a3.Mem,a2.Out,a3.Out]:List (List am))>>=fun y4=>fz.f>>=fun y5=>bm.f y5 ([a2.Stack,a3.Stack]:List (List al))>>=fun y6=>bn.f ([([a1,a2.Pc.L,a3.Pc.L]:List Int),y2,y4,y6]:List (List Int))>>=fun y7=>fX.f a0 y7>>=fun y8=>if y8=0 then (((dR.f>>=fun y18=>du.f (⟨a0,a1⟩:bp) y18 a2.Code a3.Code>>=fun y19=>if (!y19)=true then (some true) else (fN.f>>=fun y21=>dH.f (⟨a0,a1⟩:bp) y21 a2.Mem a3.Mem>>=fun y22=>if (!y22)=true then (some true) else (fR.f (⟨a0,a1⟩:bp) a2.Out a3.Out>>=fun y24=>some (!y24))):Option Bool)>>=fun x17=>if x17=true then (some (false,0)) else (bw.f (⟨a0,a1⟩:bp) a2.Pc.L>>=fun y26=>bw.f (⟨a0,a1⟩:bp) a3.Pc.L>>=fun y27=>if y26=y27 then (if y26=true then (((if a2.Pc=a3.Pc then (fz.f>>=fun y36=>dD.f (⟨a0,a1⟩:bp) y36 a2.Stack a3.Stack>>=fun y37=>some (y37,0)) else (some (false,0)):Option (Bool×Int))>>=fun o=>match o with|(x33,x34)=>some (x33,x34))) else (fz.f>>=fun y38=>dO.f (⟨a0,a1⟩:bp) a2.Stack>>=fun y39=>dO.f (⟨a0,a1⟩:bp) a3.Stack>>=fun y40=>dD.f (⟨a0,a1⟩:bp) y38 y39 y40>>=fun y41=>some (y41,0))) else (some (false,0))))) else (some (false,y8))
def dl.f(a0:ce)(a1:aa)(a2:aa):Option Int:=
 eZ.f a0.l_ a0.o_ a1 a2>>=fun y1=>if y1.1=true then (some 0) else (some 1)
def eT.f(a0:ce):Option Int:=
 cJ.f a0.l_ a0.t_ a0.a_ a0.fuel_>>=fun y1=>cJ.f a0.l_ a0.t_ a0.b_ a0.fuel_>>=fun y2=>((if y1.2.1=1 then (if y2.2.1=1 then (bE.f a0 y1.1>>=fun y11=>if (!y11)=true then (some true) else (bE.f a0 y2.1>>=fun y13=>some (!y13))) else (some true)) else (some true):Option Bool)>>=fun x8=>if x8=true then (some 2) else (dl.f a0 y1.1 y2.1>>=fun y15=>some y15))
def cK.l0(a0:ce)(y1:List aa)(y2:List aa)(v23:Int):Option (Int⊕Unit):=
 if v23<(y2.length:Int) then (lAt y2 v23>>=fun y25=>((if v23<(y1.length:Int) then (lAt y1 v23>>=fun y31=>dl.f a0 y25 y31>>=fun y32=>some (decide (y32=1))) else (some false):Option Bool)>>=fun x29=>if x29=true then (some (.inl 1)) else (cK.l0 a0 y1 y2 (IntKind.i64.wrap (v23+1))))) else (some (.inr ()))
partial_fixpoint
def cK.f(a0:ce):Option Int:=
 dm.f a0 a0.b_>>=fun y1=>dm.f a0 a0.a_>>=fun y2=>(cK.l0 a0 y1 y2 0>>=fun o=>match o with|.inl r=>some r|.inr ()=>some 0)
def eK.f(a0:ce):Option Int:=
 dM.f a0.l_ a0.t_ a0.a_>>=fun y1=>dM.f a0.l_ a0.t_ a0.b_>>=fun y2=>if y1.2.1=0 then (((bE.f a0 a0.a_>>=fun y8=>if (!y8)=true then (bE.f a0 y1.1>>=fun y10=>some (!y10)) else (some false):Option Bool)>>=fun x7=>if x7=true then (dl.f a0 a0.a_ y1.1>>=fun y12=>some y12) else (((if y2.2.1=0 then (bE.f a0 a0.a_>>=fun y19=>if (!y19)=true then (bE.f a0 y2.1>>=fun y21=>some (!y21)) else (some false)) else (some true):Option Bool)>>=fun x17=>if x17=true then (some 2) else (dl.f a0 y1.1 y2.1>>=fun y23=>some y23))))) else (some 2)
def gm.f:Option (List (Int×(Option (ce->Option Int)))):=
 some ([(0,(some eT.f)),(1,(some cK.f)),(2,(some eK.f))]:List (Int×(Option (ce->Option Int))))
def dX.l0(a0:ab)(a1:aZ)(a4:Int)(a5:aa)(a6:aa)(v9:Int):Option ((Int×Int)⊕Unit):=
 if v9<(([a5,a6]:List aa).length:Int) then (lAt ([a5,a6]:List aa) v9>>=fun y11=>cJ.f a0 a1 y11 a4>>=fun y12=>if y12.2.2=0 then (dX.l0 a0 a1 a4 a5 a6 (IntKind.i64.wrap (v9+1))) else (some (.inl (0,y12.2.2)))) else (some (.inr ()))
partial_fixpoint
def dX.f(a0:ab)(a1:aZ)(a2:Int)(a3:Int)(a4:Int)(a5:aa)(a6:aa):Option (Int×Int):=
 (dX.l0 a0 a1 a4 a5 a6 0>>=fun o=>match o with|.inl r=>some r|.inr ()=>gm.f>>=fun y14=>if (!((mGet y14 none a2).2))=true then (some (0,1)) else (eZ.f a0 a3 a5 a6>>=fun y16=>((if y16.2=0 then (some (!y16.1)) else (some true):Option Bool)>>=fun x18=>if x18=true then (some (0,9)) else ((mGet y14 none a2).1>>=fun y21=>y21 (⟨a0,a1,a3,a4,a5,a6⟩:ce)>>=fun y22=>some (y22,0)))))
def fS.f:Option (List aE):=
 some ([(⟨([1]:List Int),([6]:List Int),([8]:List Int)⟩:aE),(⟨([1]:List Int),([9]:List Int),([8]:List Int)⟩:aE),(⟨([1]:List Int),([6]:List Int),([8]:List Int)⟩:aE),(⟨([1]:List Int),([9,10,12]:List Int),([8]:List Int)⟩:aE),(⟨([1]:List Int),([9,10,12]:List Int),([8]:List Int)⟩:aE),(⟨([1]:List Int),([9,10,12]:List Int),([8]:List Int)⟩:aE),(⟨([9,8,12,11,5]:List Int),([9,10,12,8,12]:List Int),([8]:List Int)⟩:aE),(⟨([1]:List Int),([6]:List Int),([9,8,12]:List Int)⟩:aE),(⟨([1]:List Int),([6]:List Int),([9,8,12]:List Int)⟩:aE),(⟨([1]:List Int),([6]:List Int),([9,8,12]:List Int)⟩:aE),(⟨([1]:List Int),([9,8,12]:List Int),([10]:List Int)⟩:aE),(⟨([1]:List Int),([9,8,12]:List Int),([8]:List Int)⟩:aE),(⟨([1]:List Int),([6]:List Int),([8]:List Int)⟩:aE)]:List aE)
def reticentlaw20_alive.f:Option Bool:=
 fS.f>>=fun y1=>if (y1.length:Int)=13 then (lAt y1 1>>=fun y3=>dX.f (⟨([([97]:Str),([98]:Str)]:List Str),([3,2]:List Int)⟩:ab) (⟨y1.set (1:Int).toNat (⟨y3.May,([6]:List Int),y3.Pc⟩:aE)⟩:aZ) 2 0 5 (⟨⟨0,0⟩,([(⟨1,1,1⟩:ap)]:List ap),[],[],[]⟩:aa) (⟨⟨0,0⟩,([(⟨1,2,1⟩:ap)]:List ap),[],[],[]⟩:aa)>>=fun y4=>gt.f>>=fun y5=>dX.f (⟨([([97]:Str),([98]:Str)]:List Str),([3,2]:List Int)⟩:ab) y5 2 0 5 (⟨⟨0,0⟩,([(⟨1,1,1⟩:ap)]:List ap),[],[],[]⟩:aa) (⟨⟨0,0⟩,([(⟨1,2,1⟩:ap)]:List ap),[],[],[]⟩:aa)>>=fun y6=>((if y4.2=0 then (if y6.2=0 then (if y4.1=1 then (some (decide (y6.1=0))) else (some false)) else (some false)) else (some false):Option Bool)>>=fun x10=>some x10)) else (some false)
def bA.l0(a0:ab)(v5:Int)(v6:Int):Option Int:=
 if v6<(a0.Up.length:Int) then (aU.f a0 v5 v6>>=fun y9=>bA.l0 a0 y9 (IntKind.i64.wrap (v6+1))) else (some v5)
partial_fixpoint
def bA.f(a0:ab):Option Int:=
 (bA.l0 a0 0 0>>=fun x7=>some x7)
def bJ.f(a0:ap):Option Int:=
 if a0.Op=10 then (some a0.N) else (lAt ([0,0,1,2,2,1,2,1,1,1,0,1,0]:List Int) a0.Op>>=fun y2=>some y2)
def dS.f(a0:aa)(a1:Int):Option Bool:=
 ((if IntKind.i64.wrap ((IntKind.i64.wrap ((a0.Stack.length:Int)-1))-a1)>=0 then (lAt a0.Stack (IntKind.i64.wrap ((IntKind.i64.wrap ((a0.Stack.length:Int)-1))-a1))>>=fun y5=>some (!y5.Ret)) else (some false):Option Bool)>>=fun x3=>some x3)
def cv.l0(a0:aa)(v7:Int):Option (Int⊕Unit):=
 if v7>=0 then (lAt a0.Stack v7>>=fun y9=>if y9.Ret=true then (some (.inl v7)) else (cv.l0 a0 (IntKind.i64.wrap (v7-1)))) else (some (.inr ()))
partial_fixpoint
def cv.f(a0:aa)(a1:Int):Option Int:=
 (cv.l0 a0 (IntKind.i64.wrap (a1-1))>>=fun o=>match o with|.inl r=>some r|.inr ()=>some (-1))
def aY.l0(a1:aa)(y1:ap)(v12:Int):Option (aq⊕Unit):=
 bJ.f y1>>=fun y13=>if v12<y13 then (dS.f a1 v12>>=fun y15=>if (!y15)=true then (some (.inl (⟨false,⟨false,0,0⟩,⟨false,0,0⟩,⟨false,0,0⟩,0,0,0,0⟩:aq))) else (aY.l0 a1 y1 (IntKind.i64.wrap (v12+1)))) else (some (.inr ()))
partial_fixpoint
def aY.l4(a1:aa)(y1:ap)(v162:Int):Option (aq⊕Unit):=
 if v162<y1.N then (dS.f a1 (IntKind.i64.wrap (1+v162))>>=fun y164=>if (!y164)=true then (some (.inl (⟨false,⟨false,0,0⟩,⟨false,0,0⟩,⟨false,0,0⟩,0,0,0,0⟩:aq))) else (aY.l4 a1 y1 (IntKind.i64.wrap (v162+1)))) else (some (.inr ()))
partial_fixpoint
def aY.f(a0:ab)(a1:aa):Option aq:=
 lAt a1.Code a1.Pc.V>>=fun y1=>bA.f a0>>=fun y2=>bJ.f y1>>=fun y3=>(aY.l0 a1 y1 0>>=fun o=>match o with|.inl r=>some r|.inr ()=>((bJ.f y1>>=fun y21=>if y21>0 then (lAt a1.Stack (IntKind.i64.wrap ((a1.Stack.length:Int)-1))>>=fun y23=>some (⟨false,y23,⟨false,0,0⟩,⟨false,0,0⟩,y23.L,y2,y2,IntKind.i64.wrap ((a1.Stack.length:Int)-y3)⟩:aq)) else (some (⟨false,⟨false,0,0⟩,⟨false,0,0⟩,⟨false,0,0⟩,y2,y2,y2,IntKind.i64.wrap ((a1.Stack.length:Int)-y3)⟩:aq)):Option aq)>>=fun x20=>((bJ.f y1>>=fun y28=>if y28>1 then (lAt a1.Stack (IntKind.i64.wrap ((a1.Stack.length:Int)-2))>>=fun y30=>some (⟨x20.Is,x20.A,y30,x20.R,x20.One,y30.L,x20.Three,x20.Below⟩:aq)) else (some x20):Option aq)>>=fun x27=>((((if y1.Op=1 then (some (.inr (⟨true,x27.A,x27.B,x27.R,y1.L,x27.Two,x27.Three,x27.Below⟩:aq))) else (((if y1.Op=5 then (some (decide (y1.Op=5))) else (some (decide (y1.Op=6))):Option Bool)>>=fun x138=>if x138=true then (((if x27.A.V<0 then (some true) else (some (decide (x27.A.V>=(a1.Mem.length:Int)))):Option Bool)>>=fun x142=>if x142=true then (some (.inl (⟨false,⟨false,0,0⟩,⟨false,0,0⟩,⟨false,0,0⟩,0,0,0,0⟩:aq))) else (if y1.Op=5 then (lAt a1.Mem x27.A.V>>=fun y146=>some (.inr (⟨true,x27.A,x27.B,x27.R,x27.One,y146.L,x27.Three,x27.Below⟩:aq))) else (lAt a1.Mem x27.A.V>>=fun y147=>some (.inr (⟨true,x27.A,x27.B,x27.R,x27.One,x27.Two,y147.L,x27.Below⟩:aq)))))) else (((if y1.Op=7 then (some (decide (y1.Op=7))) else (some (decide (y1.Op=9))):Option Bool)>>=fun x149=>if x149=true then (((if x27.A.V<0 then (some true) else (some (decide (x27.A.V>12))):Option Bool)>>=fun x153=>if x153=true then (some (.inl (⟨false,⟨false,0,0⟩,⟨false,0,0⟩,⟨false,0,0⟩,0,0,0,0⟩:aq))) else ((aY.l4 a1 y1 0>>=fun o=>match o with|.inl r=>some (.inl r)|.inr ()=>some (.inr (⟨true,x27.A,x27.B,x27.R,x27.One,x27.Two,x27.Three,x27.Below⟩:aq)))))) else (if y1.Op=10 then (cv.f a1 x27.Below>>=fun y167=>if y167<0 then (some (.inl (⟨false,⟨false,0,0⟩,⟨false,0,0⟩,⟨false,0,0⟩,0,0,0,0⟩:aq))) else (lAt a1.Stack y167>>=fun y169=>some (.inr (⟨true,x27.A,x27.B,y169,x27.One,y169.L,x27.Three,y167⟩:aq)))) else (some (.inr (⟨true,x27.A,x27.B,x27.R,x27.One,x27.Two,x27.Three,x27.Below⟩:aq)))))))):Option (aq⊕aq))>>=fun o=>match o with|.inl r=>some (.inl r)|.inr x135=>some (.inr x135)):Option (aq⊕aq))>>=fun o=>match o with|.inl r=>some r|.inr x100=>some x100))))
def cL.l0(a0:ab)(v5:Int)(v6:Int):Option Int:=
 if v6<(a0.Up.length:Int) then (aT.f a0 v5 v6>>=fun y9=>cL.l0 a0 y9 (IntKind.i64.wrap (v6+1))) else (some v5)
partial_fixpoint
def cL.f(a0:ab):Option Int:=
 (cL.l0 a0 0 0>>=fun x7=>some x7)
def bo.B(rc:ab->(List Int)->(List Int)->Int->Option bY)(a0:ab)(a1:List Int)(a2:List Int)(a3:Int):Option bY:=
 lAt a1 a3>>=fun y1=>if y1<=2 then (some (⟨decide (y1=1),0,a3⟩:bY)) else (if y1=6 then (bA.f a0>>=fun y4=>some (⟨false,y4,a3⟩:bY)) else (if y1=7 then (cL.f a0>>=fun y6=>some (⟨false,y6,a3⟩:bY)) else (((if y1>=8 then (some (decide (y1<=11))) else (some false):Option Bool)>>=fun x8=>if x8=true then (lAt a2 (IntKind.i64.wrap (y1-8))>>=fun y11=>some (⟨false,y11,a3⟩:bY)) else (rc a0 a1 a2 (IntKind.i64.wrap (a3-1))>>=fun y12=>rc a0 a1 a2 (IntKind.i64.wrap (y12.From-1))>>=fun y13=>((if y1=3 then (((if y13.Is=true then (some y12.Is) else (some false):Option Bool)>>=fun x32=>some (x32,0))) else (if y1=4 then (((if y13.Is=true then (some true) else (some y12.Is):Option Bool)>>=fun x36=>some (x36,0))) else (if y1=5 then (au.f a0 y13.A y12.A>>=fun y39=>some (y39,0)) else (if y1=12 then (aT.f a0 y13.A y12.A>>=fun y41=>some (false,y41)) else (if y1=13 then (aU.f a0 y13.A y12.A>>=fun y43=>some (false,y43)) else (some (false,0)))))):Option (Bool×Int))>>=fun o=>match o with|(x28,x29)=>some (⟨x28,x29,y13.From⟩:bY)))))))
def bo.F:Nat->ab->(List Int)->(List Int)->Int->Option bY
 |0=>fun _ _ _ _=>none
 |k+1=>bo.B (bo.F k)
def bo.f(a0:ab)(a1:List Int)(a2:List Int)(a3:Int):Option bY:=bo.F 1000 a0 a1 a2 a3
def bM.f(a0:ab)(a1:List Int)(a2:List Int):Option bY:=
 bo.f a0 a1 a2 (IntKind.i64.wrap ((a1.length:Int)-1))>>=fun y1=>some y1
def cx.l0(a0:aa)(a1:aq)(a2:Int)(v41:List am)(v42:Int):Option (List am):=
 if v42<(a0.Mem.length:Int) then (((lAt a0.Mem v42>>=fun y55=>((lAt a0.Code a0.Pc.V>>=fun y59=>if y59.Op=6 then (some (decide (v42=a1.A.V))) else (some false):Option Bool)>>=fun x58=>if x58=true then (if (v41.length+([(⟨a1.B.V,a2⟩:am)]:List am).length)*16<=big then (some (v41++([(⟨a1.B.V,a2⟩:am)]:List am))) else none) else (if (v41.length+([y55]:List am).length)*16<=big then (some (v41++([y55]:List am))) else none)):Option (List am))>>=fun x54=>cx.l0 a0 a1 a2 x54 (IntKind.i64.wrap (v42+1)))) else (some v41)
partial_fixpoint
def cx.f(a0:aa)(a1:aq)(a2:Int):Option (List am):=
 (cx.l0 a0 a1 a2 ([]:List am) 0>>=fun x43=>some x43)
def ck.f(a0:List al)(a1:al):Option (List al):=
 if (([]:List al).length+a0.length)*24<=big then (if ((([]:List al)++a0).length+([a1]:List al).length)*24<=big then (some ((([]:List al)++a0)++([a1]:List al))) else none) else none
def dV.f(a0:List al)(a1:al):Option (List al):=
 if (([]:List al).length+a0.length)*24<=big then (if ((([]:List al)++a0).length+([a1]:List al).length)*24<=big then (some ((([]:List al)++a0)++([a1]:List al))) else none) else none
def dN.f(a0:aa)(a1:aq)(a2:Int):Option (List al):=
 lAt a0.Code a0.Pc.V>>=fun y1=>if (0:Int)<=a1.Below/\a1.Below<=(a0.Stack.length:Int) then (((if y1.Op=1 then (ck.f (lCut a0.Stack 0 a1.Below) (⟨false,y1.N,a2⟩:al)>>=fun y21=>some (.inl y21)) else (if y1.Op=3 then (ck.f (lCut a0.Stack 0 a1.Below) (⟨false,IntKind.i64.wrap (a1.B.V+a1.A.V),a2⟩:al)>>=fun y23=>some (.inl y23)) else (if y1.Op=4 then (ck.f (lCut a0.Stack 0 a1.Below) (⟨false,IntKind.i64.wrap (a1.B.V-a1.A.V),a2⟩:al)>>=fun y25=>some (.inl y25)) else (if y1.Op=5 then (lAt a0.Mem a1.A.V>>=fun y27=>ck.f (lCut a0.Stack 0 a1.Below) (⟨false,y27.V,a2⟩:al)>>=fun y28=>some (.inl y28)) else (if y1.Op=9 then (if (0:Int)<=IntKind.i64.wrap (a1.Below-y1.N)/\IntKind.i64.wrap (a1.Below-y1.N)<=((lCut a0.Stack 0 a1.Below).length:Int) then (dV.f (lCut (lCut a0.Stack 0 a1.Below) 0 (IntKind.i64.wrap (a1.Below-y1.N))) (⟨true,IntKind.i64.wrap (a0.Pc.V+1),a0.Pc.L⟩:al)>>=fun y31=>if (0:Int)<=IntKind.i64.wrap (a1.Below-y1.N)/\IntKind.i64.wrap (a1.Below-y1.N)<=((lCut a0.Stack 0 a1.Below).length:Int) then (if (y31.length+(lCut (lCut a0.Stack 0 a1.Below) (IntKind.i64.wrap (a1.Below-y1.N)) ((lCut a0.Stack 0 a1.Below).length:Int)).length)*24<=big then (some (.inl (y31++(lCut (lCut a0.Stack 0 a1.Below) (IntKind.i64.wrap (a1.Below-y1.N)) ((lCut a0.Stack 0 a1.Below).length:Int))))) else none) else none) else none) else (if y1.Op=10 then (if y1.N=1 then (ck.f (lCut a0.Stack 0 a1.Below) (⟨false,a1.A.V,a2⟩:al)>>=fun y36=>some (.inl y36)) else (some (.inr ()))) else (some (.inr ()))))))):Option ((List al)⊕Unit))>>=fun o=>match o with|.inl r=>some r|.inr ()=>some (lCut a0.Stack 0 a1.Below))) else none
def ee.f(a0:aa)(a1:aq):Option Int:=
 lAt a0.Code a0.Pc.V>>=fun y1=>((if y1.Op=7 then (some true) else (some (decide (y1.Op=9))):Option Bool)>>=fun x3=>if x3=true then (some a1.A.V) else (if y1.Op=10 then (some a1.R.V) else (((if y1.Op=8 then (some (!decide (a1.A.V=0))) else (some false):Option Bool)>>=fun x8=>if x8=true then (some y1.N) else (some (IntKind.i64.wrap (a0.Pc.V+1)))))))
def dJ.f(a0:ab)(a1:aZ)(a2:aa):Option aP:=
 if a2.Pc.V>=(a2.Code.length:Int) then (some (⟨a2,3⟩:aP)) else (aY.f a0 a2>>=fun y2=>lAt a2.Code a2.Pc.V>>=fun y3=>if (!y2.Is)=true then (some (⟨a2,3⟩:aP)) else (if y3.Op=12 then (some (⟨a2,1⟩:aP)) else (lAt a1.Rows y3.Op>>=fun y6=>bM.f a0 y6.May ([a2.Pc.L,y2.One,y2.Two,y2.Three]:List Int)>>=fun y7=>if (!y7.Is)=true then (some (⟨a2,2⟩:aP)) else (bM.f a0 y6.Res ([a2.Pc.L,y2.One,y2.Two,y2.Three]:List Int)>>=fun y9=>cx.f a2 y2 y9.A>>=fun y10=>dN.f a2 y2 y9.A>>=fun y11=>ee.f a2 y2>>=fun y12=>bM.f a0 y6.Pc ([a2.Pc.L,y2.One,y2.Two,y2.Three]:List Int)>>=fun y13=>if y3.Op=11 then (if (([]:List am).length+a2.Out.length)*16<=big then (if ((([]:List am)++a2.Out).length+([(⟨y2.A.V,y9.A⟩:am)]:List am).length)*16<=big then (cu.f a0 (⟨⟨y12,y13.A⟩,a2.Code,y10,y11,(([]:List am)++a2.Out)++([(⟨y2.A.V,y9.A⟩:am)]:List am)⟩:aa)>>=fun y17=>if (!y17)=true then (some (⟨a2,3⟩:aP)) else (some (⟨⟨⟨y12,y13.A⟩,a2.Code,y10,y11,(([]:List am)++a2.Out)++([(⟨y2.A.V,y9.A⟩:am)]:List am)⟩,0⟩:aP))) else none) else none) else (cu.f a0 (⟨⟨y12,y13.A⟩,a2.Code,y10,y11,a2.Out⟩:aa)>>=fun y19=>if (!y19)=true then (some (⟨a2,3⟩:aP)) else (some (⟨⟨⟨y12,y13.A⟩,a2.Code,y10,y11,a2.Out⟩,0⟩:aP)))))))
def cG.l0(a0:ab)(a1:aZ)(a3:Int)(v10:aa)(v11:Int)(v12:List aa)(v13:Int):Option (dj⊕(aa×Int×(List aa))):=
 if v13<a3 then (dJ.f a0 a1 v10>>=fun y18=>if y18.What=0 then (if (v12.length+([y18.S]:List aa).length)*112<=big then (cG.l0 a0 a1 a3 y18.S y18.What (v12++([y18.S]:List aa)) (IntKind.i64.wrap (v13+1))) else none) else (some (.inl (⟨v12,y18.What⟩:dj)))) else (some (.inr (v10,v11,v12)))
partial_fixpoint
def cG.f(a0:ab)(a1:aZ)(a2:aa)(a3:Int):Option dj:=
 if (([]:List aa).length+([a2]:List aa).length)*112<=big then ((cG.l0 a0 a1 a3 a2 0 (([]:List aa)++([a2]:List aa)) 0>>=fun o=>match o with|.inl r=>some r|.inr (x14,x15,x16)=>some (⟨x16,x15⟩:dj))) else none
def fh.f(a0:ab)(a1:Int)(a2:Int):Option Bool:=
 au.f a0 a2 a1>>=fun y1=>some y1
def eI.f(a0:cY)(a1:aa):Option Bool:=
 fh.f a0.L a0.O a1.Pc.L>>=fun y1=>some y1
def cj.l0(a0:cY)(y1:dj)(v22:List aa)(v23:Int):Option (List aa):=
 if v23<(y1.L.length:Int) then (((lAt y1.L v23>>=fun y31=>eI.f a0 y31>>=fun y32=>if y32=true then (if (v22.length+([y31]:List aa).length)*112<=big then (some (v22++([y31]:List aa))) else none) else (some v22):Option (List aa))>>=fun x30=>cj.l0 a0 y1 x30 (IntKind.i64.wrap (v23+1)))) else (some v22)
partial_fixpoint
def cj.f(a0:cY)(a1:aa):Option (List aa):=
 cG.f a0.L a0.T a1 a0.Fuel>>=fun y1=>(cj.l0 a0 y1 ([]:List aa) 0>>=fun x24=>some x24)
def bS.l0(a0:List ap)(a1:List ap)(v10:Int):Option (Bool⊕Unit):=
 if v10<(a0.length:Int) then (lAt a0 v10>>=fun y12=>lAt a1 v10>>=fun y13=>if y12=y13 then (bS.l0 a0 a1 (IntKind.i64.wrap (v10+1))) else (some (.inl false))) else (some (.inr ()))
partial_fixpoint
def bS.f(a0:List ap)(a1:List ap):Option Bool:=
 if (a0.length:Int)=(a1.length:Int) then ((bS.l0 a0 a1 0>>=fun o=>match o with|.inl r=>some r|.inr ()=>some true)) else (some false)
def bv.l0(a0:List am)(a1:List am)(v10:Int):Option (Bool⊕Unit):=
 if v10<(a0.length:Int) then (lAt a0 v10>>=fun y12=>lAt a1 v10>>=fun y13=>if y12=y13 then (bv.l0 a0 a1 (IntKind.i64.wrap (v10+1))) else (some (.inl false))) else (some (.inr ()))
partial_fixpoint
def bv.f(a0:List am)(a1:List am):Option Bool:=
 if (a0.length:Int)=(a1.length:Int) then ((bv.l0 a0 a1 0>>=fun o=>match o with|.inl r=>some r|.inr ()=>some true)) else (some false)
def bZ.l0(a0:aa)(a1:aa)(v25:Int):Option (Bool⊕Unit):=
 if v25<(a0.Stack.length:Int) then (lAt a0.Stack v25>>=fun y27=>lAt a1.Stack v25>>=fun y28=>if y27=y28 then (bZ.l0 a0 a1 (IntKind.i64.wrap (v25+1))) else (some (.inl false))) else (some (.inr ()))
partial_fixpoint
def bZ.f(a0:aa)(a1:aa):Option Bool:=
 ((if a0.Pc=a1.Pc then (bS.f a0.Code a1.Code>>=fun y10=>if (!y10)=true then (some true) else (bv.f a0.Mem a1.Mem>>=fun y12=>if (!y12)=true then (some true) else (bv.f a0.Out a1.Out>>=fun y14=>if (!y14)=true then (some true) else (some (!decide ((a0.Stack.length:Int)=(a1.Stack.length:Int))))))) else (some true):Option Bool)>>=fun x8=>if x8=true then (some false) else ((bZ.l0 a0 a1 0>>=fun o=>match o with|.inl r=>some r|.inr ()=>some true)))
def bu.l0(y4:(List aa)×Int)(y13:List aa)(v32:Int):Option (Bool⊕Unit):=
 if v32<(y4.1.length:Int) then (lAt y4.1 v32>>=fun y34=>lAt y13 v32>>=fun y35=>bZ.f y34 y35>>=fun y36=>if (!y36)=true then (some (.inl false)) else (bu.l0 y4 y13 (IntKind.i64.wrap (v32+1)))) else (some (.inr ()))
partial_fixpoint
def bu.l1(y4:(List aa)×Int)(y46:List aa)(v65:Int):Option (Bool⊕Unit):=
 if v65<(y4.1.length:Int) then (lAt y4.1 v65>>=fun y67=>lAt y46 v65>>=fun y68=>bZ.f y67 y68>>=fun y69=>if (!y69)=true then (some (.inl false)) else (bu.l1 y4 y46 (IntKind.i64.wrap (v65+1)))) else (some (.inr ()))
partial_fixpoint
def bu.f(a0:ab)(a1:aZ)(a2:Int)(a3:aa)(a4:Int):Option Bool:=
 cZ.f a0>>=fun y1=>cM.f a1>>=fun y2=>eQ.f a3>>=fun y3=>fm.f y1 y2 a2 y3 a4>>=fun y4=>eJ.f y1 y2 y3 a4>>=fun y5=>((if y5=0 then (if a2<0 then (some true) else (some (decide (a2>=(y1.Up.length:Int))))) else (some false):Option Bool)>>=fun x8=>if x8=true then (if 9=0 then (cj.f (⟨y1,y2,a2,a4⟩:cY) y3>>=fun y13=>((if y4.2=0 then (if (y4.1.length:Int)=(y13.length:Int) then (reticentlaw20_alive.f>>=fun y20=>some (!y20)) else (some true)) else (some true):Option Bool)>>=fun x17=>if x17=true then (some false) else ((bu.l0 y4 y13 0>>=fun o=>match o with|.inl r=>some r|.inr ()=>some true)))) else (((reticentlaw20_alive.f>>=fun y42=>if y42=true then (if y4.2=9 then (some (decide ((y4.1.length:Int)=0))) else (some false)) else (some false):Option Bool)>>=fun x41=>some x41))) else (if y5=0 then (cj.f (⟨y1,y2,a2,a4⟩:cY) y3>>=fun y46=>((if y4.2=0 then (if (y4.1.length:Int)=(y46.length:Int) then (reticentlaw20_alive.f>>=fun y53=>some (!y53)) else (some true)) else (some true):Option Bool)>>=fun x50=>if x50=true then (some false) else ((bu.l1 y4 y46 0>>=fun o=>match o with|.inl r=>some r|.inr ()=>some true)))) else (((reticentlaw20_alive.f>>=fun y75=>if y75=true then (if y4.2=y5 then (some (decide ((y4.1.length:Int)=0))) else (some false)) else (some false):Option Bool)>>=fun x74=>some x74))))
end Go.Proofs.YtmjcpkmongafnaaGreatDoor.TT
