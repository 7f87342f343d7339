import Derived.Test.YtmjcpkmongafnaaGreatDoorCln
import Derived.Test.YtmjcpkmongafnaaGreatDoorWTTp2
import Derived.Test.YtmjcpkmongafnaaGreatDoorProg
set_option linter.unusedVariables false
set_option maxRecDepth 10000
set_option maxHeartbeats 2000000
set_option synthInstance.maxHeartbeats 200000
set_option synthInstance.maxSize 2000
namespace Go.Proofs.YtmjcpkmongafnaaGreatDoor.TT
open Go Go.Proofs.YtmjcpkmongafnaaGreatDoor.Ab
theorem bv.ok{i:bP} {r:Int}(h:bv.f i=some r):FnA PP 39 [(kR bM).sig i] (ki.sig r):=by
 refine fnIntro Tryz.func39 u (by kernel_rfl) fun H0 w0=>?_
 unfold bv.f at h
 refine wSeq<|rx (c2<|.nil)<|pSeq<|wSeq ?_
 obtain⟨p,v,h⟩:=bd h
 refine rx (c3<|cC (cJ.ok v)<|c1<|.nil)<|pSeq<|wSeq<|wSeq ?_
 obtain⟨j,w,h⟩:=bd h
 refine rx (c3<|cC (cJ.ok w)<|c2<|.nil)<|pSeq ?_
 obtain⟨x,h,o⟩:=bd h
 refine wK0 (.inr ()=x) ([]) ([]) ?_ ?_
 ·refine wBlock (wLoop ?_)
  refine lW (pc1 x (fun g=>[(1,.d (sP (kR bM) i)),(3,.d ((kL (kR ap)).sig p)),(13,.d ((kL (kR ap)).sig j)),(14,.d (ki.sig (j.length:Int))),(15,.d (ki.sig g))]) (fun g=>[]) (bv.l0.partial_correctness i p j) ?_ _ h) ⟨u,u,u,u,u,tv⟩ u
  clear h
  intro f' ih g h
  refine wSeq<|rx (c1<|.nil)<|pSeq<|wSeq ?_
  obtain⟨c,h⟩|⟨c,h⟩:=ik h
  ·refine wCT c.1 tm (s1 u)<|wSkip<|pSeq<|wSeq<|wBlock<|wSeq ?_
   obtain⟨l,q,h⟩:=bd h
   refine rx (c1<|cp (oIdx u49 z35 q tm tm) (s2 u u)<|c1<|cw (oAlloc (id:=5) (ls:=Z35) ze35 zl35) tv<|c1<|cwn (oStP (n:=0) (k:=0) (m:=6) (d:=(kR ap)) (u:=l) pt35 u u u z35 tm tm) (s2 u u)<|.nil)<|pSeq ?_
   obtain⟨z,h,y⟩:=bd h
   refine wJ1 (fun b=>b=z) (fun b=>[(1,.d (sP (kR bM) i)),(3,.d ((kL (kR ap)).sig p)),(13,.d ((kL (kR ap)).sig j)),(14,.d (ki.sig (j.length:Int))),(15,.d (ki.sig g)),(33,.d (kB.sig b))]) (fun b=>[.box 5 35 (L35 l)]) ?_ ?_
   ·obtain⟨a,h⟩|⟨a,h⟩:=ik h
    ·obtain⟨A,s,h⟩:=bd h
     obtain⟨B,t,h⟩:=bd h
     exact rdx hm (c6<|crgB (dT a.1) u u (oLdP (n:=0) (k:=0) (m:=6) (d:=(kR ap)) (u:=l) pt35 u u u t35 tm) (s1 u)<|c2<|cgB (dT a.1) u u (oIdx u49 z35 s tm tm) (s2 u u)<|c1<|cgB (dT a.1) u u (oCall u (b8.ok t) b76 (oc tm (oc tm (oc tm o0)))) (s3 u u u)<|c2<|.nil)<|pJ1 _ (so h) (sb u) u
    ·exact rdx hm (c12<|c2<|.nil)<|pJ1 _ (so h) (sb u) u
   ·rintro b rfl
    replace h:=y
    obtain⟨e,h⟩|⟨e,h⟩:=ik h
    ·refine wBT e.1 tm (s1 u)<|wSeq<|rx (c1<|.nil)<|pSeq<|wRet<|pBlkR<|pThenR<|pThenR<|pBlkR<|pThenR ?_
     obtain rfl:=so h
     replace h:=o
     refine pThenR ?_
     obtain rfl:=so h
     exact pR1 (.inl u) u (.tmp u<|.nil)
    ·exact wBF e.1 tm (s1 u)<|wSkip<|pBlkN<|pSeq<|rx (c2<|.nil)<|pDrop (.cons _ .slnil)<|pLoop (lW (ih _ h) ⟨u,u,u,u,u,tv⟩ u)
  ·exact wCF c.1 tm (s1 u)<|wExit<|pThenX<|pThenX<|pBlkX<|pJ0 (so h) tv u
 ·rintro rfl
  replace h:=o
  refine pSeq<|wSeq<|rx (c1<|.nil)<|pSeq<|wRet ?_
  obtain rfl:=so h
  exact pR1 (.inl u) u (.tmp u<|.nil)
theorem cK.ok{v:bP} {r:Int}(h:cK.f v=some r):FnA PP 40 [(kR bM).sig v] (ki.sig r):=by
 refine fnIntro Tryz.func40 u (by kernel_rfl) fun H0 w0=>?_
 unfold cK.f at h
 refine wSeq<|rx (c2<|.nil)<|pSeq<|wSeq ?_
 obtain⟨i,C,h⟩:=bd h
 refine rx (c6<|cC (df.ok C)<|c4<|cw (oAlloc (id:=3) (ls:=Z35) ze35 zl35) tv<|cwn (oStP (n:=0) (k:=0) (m:=6) (d:=(kR ap)) (u:=i.1) pt35 u u u z35 tm tm) (s2 u u)<|c2<|.nil)<|pSeq<|wSeq ?_
 obtain⟨j,D,h⟩:=bd h
 refine rx (c6<|cC (df.ok D)<|c4<|cw (oAlloc (id:=6) (ls:=Z35) ze35 zl35) tv<|cwn (oStP (n:=0) (k:=0) (m:=6) (d:=(kR ap)) (u:=j.1) pt35 u u u z35 tm tm) (s2 u u)<|c2<|.nil)<|pSeq<|wSeq<|wBlock<|wSeq<|rx (c3<|.nil)<|pSeq ?_
 obtain⟨l,h⟩|⟨l,h⟩:=ik h
 ·refine wNT l.1 tm (s1 u) ?_
  obtain⟨x,h,o⟩:=bd h
  refine wJ1 (fun q=>q=x) (fun q=>[(1,.d (sP (kR bM) v)),(3,.p 3 0),(6,.p 6 0),(7,.d (ki.sig j.2.1)),(34,.d (kB.sig q))]) (fun q=>[.box 6 35 (L35 j.1),.box 3 35 (L35 i.1)]) ?_ ?_
  ·obtain⟨J,w,h⟩:=bd h
   obtain⟨s,h⟩|⟨s,h⟩:=ik h
   ·obtain⟨E,y,h⟩:=bd h
    exact rx (c3<|cC (bz.ok w)<|c3<|crgB s.1 u u (oLdP (n:=1) (k:=0) (m:=6) (d:=(kR ap)) (u:=i.1) pt35 u u u t35 tm) (s1 u)<|cgB s.1 u u (oCall u (bz.ok y) b70 (oc tm (oc tm o0))) (s2 u u)<|c3<|.nil)<|pJ1 _ (so h) (sb u) u
   ·exact rx (c3<|cC (bz.ok w)<|c8<|.nil)<|pJ1 _ (so h) (sb u) u
  ·rintro q rfl
   replace h:=o
   obtain⟨b,h⟩|⟨b,h⟩:=ik h
   ·refine wBT b.1 tm (s1 u)<|wSeq ?_
    obtain⟨F,z,h⟩:=bd h
    refine rx (c3<|cr (oLdP (n:=1) (k:=0) (m:=6) (d:=(kR ap)) (u:=i.1) pt35 u u u t35 tm) (s1 u)<|cC (b8.ok z)<|c1<|.nil)<|pSeq<|wRet<|pBlkR<|pThenR ?_
    obtain rfl:=so h
    exact pR1 (.inl u) u (.tmp u<|.nil)
   ·refine wBF b.1 tm (s1 u) ?_
    obtain⟨x,h,o⟩:=bd h
    refine wJ1 (fun a=>a=x) (fun a=>[(1,.d (sP (kR bM) v)),(3,.p 3 0),(6,.p 6 0),(51,.d (kB.sig a))]) (fun a=>[.box 6 35 (L35 j.1),.box 3 35 (L35 i.1)]) ?_ ?_
    ·obtain⟨c,h⟩|⟨c,h⟩:=ik h
     ·obtain⟨G,t,h⟩:=bd h
      obtain⟨e,h⟩|⟨e,h⟩:=ik h
      ·obtain⟨H,A,h⟩:=bd h
       exact rx (c6<|cgB (nf c.1) u u (oCall u (bz.ok t) b70 (oc tm (oc tm o0))) (s2 u u)<|c3<|crgB e.1 u u (oLdP (n:=0) (k:=0) (m:=6) (d:=(kR ap)) (u:=j.1) pt35 u u u t35 tm) (s1 u)<|cgB e.1 u u (oCall u (bz.ok A) b70 (oc tm (oc tm o0))) (s2 u u)<|c4<|.nil)<|pJ1 _ (so h) (sb u) u
      ·exact rx (c6<|cgB (nf c.1) u u (oCall u (bz.ok t) b70 (oc tm (oc tm o0))) (s2 u u)<|c8<|c1<|.nil)<|pJ1 _ (so h) (sb u) u
     ·exact rx (c8<|c1<|csU u u<|csU u u<|csU u u<|csU u u<|c3<|.nil)<|pJ1 _ (so h) (sb u) u
    ·rintro a rfl
     replace h:=o
     obtain⟨g,h⟩|⟨g,h⟩:=ik h
     ·refine wBT g.1 tm (s1 u)<|wSeq<|rx (c1<|.nil)<|pSeq<|wRet<|pBlkR<|pThenR ?_
      obtain rfl:=so h
      exact pR1 (.inl u) u (.tmp u<|.nil)
     ·refine wBF g.1 tm (s1 u)<|wSkip<|pBlkN<|pSeq<|wSeq ?_
      obtain⟨I,B,h⟩:=bd h
      refine rx (c1<|cr (oLdP (n:=1) (k:=0) (m:=6) (d:=(kR ap)) (u:=i.1) pt35 u u u t35 tm) (s1 u)<|cr (oLdP (n:=0) (k:=0) (m:=6) (d:=(kR ap)) (u:=j.1) pt35 u u u t35 tm) (s1 u)<|cC (b8.ok B)<|c1<|.nil)<|pSeq<|wRet ?_
      obtain rfl:=so h
      exact pR1 (.inl u) u (.tmp u<|.nil)
 ·refine wNF l.1 tm (s1 u)<|wSeq<|rx (c1<|.nil)<|pSeq<|wRet<|pBlkR<|pThenR ?_
  obtain rfl:=so h
  exact pR1 (.inl u) u (.tmp u<|.nil)
theorem eT.ok{r:List (Int×(Option (bP->Option Int)))}(h:eT.f=some r):FnA PP 19 [] ((sMap ki (kFn PP (rl1 (kR bM) ki)) r)):=by
 refine fnIntro Tryz.func19 u (by kernel_rfl) fun H0 w0=>?_
 unfold eT.f at h
 refine wSeq<|rx (cp (oAs cV) tv<|.nil)<|pSeq<|wSeq<|rx (cw (oMkMap (id:=1) (dk:=ki) (dv:=(kFn PP (rl1 (kR bM) ki)))) tv<|cwn (oInsert (n:=0) (dk:=ki) (dv:=(kFn PP (rl1 (kR bM) ki))) u u63 mk3 u u tm (cI (by decide)) (oSome (oFn b38 (rl1n cT.ok)))) (s1 u)<|cwn (oInsert (n:=0) (dk:=ki) (dv:=(kFn PP (rl1 (kR bM) ki))) u u63 mk3 u u tm (cI (by decide)) (oSome (oFn b39 (rl1n bv.ok)))) (s1 u)<|cwn (oInsert (n:=0) (dk:=ki) (dv:=(kFn PP (rl1 (kR bM) ki))) u u63 mk3 u u tm (cI (by decide)) (oSome (oFn b40 (rl1n cK.ok)))) (s1 u)<|c2<|.nil)<|pSeq<|wFrzM (n:=0) (id:=1) 0 u u<|wRet ?_
 obtain rfl:=so h
 exact pR1 (.inl u) u (.tmp u<|.nil)
theorem bL.ok{e:aq} {a1:bw} {a2:Int} {a3:Int} {a4:Int} {a:ah} {b:ah} {r:Int×Int}(h:bL.f e a1 a2 a3 a4 a b=some r):FnA PP 9 [(kR aA).sig e,(kR bf).sig a1,ki.sig a2,ki.sig a3,ki.sig a4,(kR ap).sig a,(kR ap).sig b] (tup [ki.sig r.1,ki.sig r.2]):=by
 refine fnIntro Tryz.func9 u (by kernel_rfl) fun H0 w0=>?_
 unfold bL.f at h
 refine wSeq<|rx (c6<|.nil)<|pSeq<|wSeq<|wSeq<|rx (c2<|cp (oLit (d:=(kR ap)) el49 (by decide) u u u (e1 tm (e1 tm e0))) (s2 u u)<|c2<|.nil)<|pSeq ?_
 obtain⟨p,h,o⟩:=bd h
 refine wK0 (.inr ()=p) ([(2,.d (ki.sig a2)),(3,.d (ki.sig a3)),(4,.d (ki.sig a4)),(7,.d (sP (kR aA) e)),(8,.d (sP (kR bf) a1)),(12,.d (sP (kR ap) a)),(13,.d (sP (kR ap) b))]) ([]) ?_ ?_
 ·refine wBlock (wLoop ?_)
  refine lW (pc1 p (fun s=>[(2,.d (ki.sig a2)),(3,.d (ki.sig a3)),(4,.d (ki.sig a4)),(7,.d (sP (kR aA) e)),(8,.d (sP (kR bf) a1)),(12,.d (sP (kR ap) a)),(13,.d (sP (kR ap) b)),(27,.d ((kL (kR ap)).sig ([a,b]:List ah))),(28,.d (ki.sig (([a,b]:List ah).length:Int))),(29,.d (ki.sig s))]) (fun s=>[]) (bL.l0.partial_correctness e a1 a4 a b) ?_ _ h) ⟨u,u,u,u,u,u,u,u,u,u,tv⟩ u
  clear h
  intro f' ih s h
  refine wSeq<|rx (c1<|.nil)<|pSeq<|wSeq ?_
  obtain⟨g,h⟩|⟨g,h⟩:=ik h
  ·refine wCT g.1 tm (s1 u)<|wSkip<|pSeq<|wSeq<|wBlock<|wSeq ?_
   obtain⟨q,t,h⟩:=bd h
   refine rx (cp (oIdx u49 z35 t tm tm) (s2 u u)<|c1<|cw (oAlloc (id:=17) (ls:=Z35) ze35 zl35) tv<|cwn (oStP (n:=0) (k:=0) (m:=6) (d:=(kR ap)) (u:=q) pt35 u u u z35 tm tm) (s2 u u)<|.nil)<|pSeq<|wSeq ?_
   obtain⟨B,v,h⟩:=bd h
   refine rx (c2<|cr (oLdP (n:=0) (k:=0) (m:=6) (d:=(kR ap)) (u:=q) pt35 u u u t35 tm) (s1 u)<|c1<|cC (cd.ok v)<|c4<|cw (oAlloc (id:=18) (ls:=Z35) ze35 zl35) tv<|cwn (oStP (n:=0) (k:=0) (m:=6) (d:=(kR ap)) (u:=B.1) pt35 u u u z35 tm tm) (s2 u u)<|c2<|.nil)<|pSeq<|wSeq<|rx (c2<|.nil)<|pSeq ?_
   obtain⟨i,h⟩|⟨i,h⟩:=ik h
   ·exact wNT i.1 tm (s1 u)<|wSkip<|pBlkN<|pSeq<|rx (c2<|.nil)<|pDrop (.cons _ (.cons _ .slnil))<|pLoop (lW (ih _ h) ⟨u,u,u,u,u,u,u,u,u,u,tv⟩ u)
   ·refine wNF i.1 tm (s1 u)<|wSeq<|rx (c3<|.nil)<|pSeq<|wRet<|pBlkR<|pThenR<|pThenR<|pBlkR<|pThenR ?_
    obtain rfl:=so h
    replace h:=o
    refine pThenR ?_
    obtain rfl:=so h
    exact pRn (.inl u) u u (.tmp u<|.tmp u<|.nil)
  ·exact wCF g.1 tm (s1 u)<|wExit<|pThenX<|pThenX<|pBlkX<|pJ0 (so h) (sb u) u
 ·rintro rfl
  replace h:=o
  refine pSeq<|wSeq ?_
  obtain⟨y14,w,h⟩:=bd h
  refine rx (cC (eT.ok w)<|c1<|cp (oLookup u63 mk3 zv61 zFn u tm tm) (s2 u u)<|c4<|c1<|.nil)<|pSeq<|wSeq<|wSeq<|rx (c2<|.nil)<|pSeq ?_
  obtain⟨j,h⟩|⟨j,h⟩:=ik h
  ·refine wBT j.1 tm (s1 u)<|wSeq<|rx (c2<|.nil)<|pSeq<|wRet<|pThenR ?_
   obtain rfl:=so h
   exact pRn (.inl u) u u (.tmp u<|.tmp u<|.nil)
  ·refine wBF j.1 tm (s1 u)<|wSkip<|pSeq<|wSeq<|wSeq ?_
   obtain⟨y16,x,h⟩:=bd h
   refine rx (c4<|cC (dz.ok x)<|c4<|c1<|.nil)<|pSeq ?_
   obtain⟨p,h,o⟩:=bd h
   refine wJ1 (fun c=>c=p) (fun c=>[(3,.d (ki.sig a3)),(4,.d (ki.sig a4)),(7,.d (sP (kR aA) e)),(8,.d (sP (kR bf) a1)),(12,.d (sP (kR ap) a)),(13,.d (sP (kR ap) b)),(21,.d ((kFn PP (rl1 (kR bM) ki)).sig ((mGet y14 none a2).1))),(67,.d (kB.sig c))]) (fun c=>[]) ?_ ?_
   ·obtain⟨y,h⟩|⟨y,h⟩:=ik h
    ·exact rx (c6<|.nil)<|pJ1 _ (so h) (sb u) u
    ·exact rx (c6<|.nil)<|pJ1 _ (so h) (sb u) u
   ·rintro c rfl
    replace h:=o
    obtain⟨l,h⟩|⟨l,h⟩:=ik h
    ·refine wBT l.1 tm (s1 u)<|wSeq<|rx (c2<|.nil)<|pSeq<|wRet<|pThenR ?_
     obtain rfl:=so h
     exact pRn (.inl u) u u (.tmp u<|.tmp u<|.nil)
    ·refine wBF l.1 tm (s1 u)<|wSkip<|pSeq<|wSeq ?_
     obtain⟨C,z,h⟩:=bd h
     obtain⟨D,A,h⟩:=bd h
     refine rx (c6<|c1<|cp (oBuild (fs:=bM) (u:=⟨e,a1,a3,a4,a,b⟩) u ze68 pl68 po68 (.op (zc:=[(.slice none 0 0),(.slice none 0 0)]) tm u (.op (zc:=[(.slice none 0 0)]) tm u (.op (zc:=[(.int .i64 0)]) tm u (.op (zc:=[(.int .i64 0)]) tm u (.op (zc:=[(.int .i64 0),(.int .i64 0),(.slice none 0 0),(.slice none 0 0),(.slice none 0 0),(.slice none 0 0)]) tm u (.op (zc:=[(.int .i64 0),(.int .i64 0),(.slice none 0 0),(.slice none 0 0),(.slice none 0 0),(.slice none 0 0)]) tm u .nil))))))) ⟨u,u,u,u,u,u,tv⟩<|cp (oCallV u (rl1i (f:=C) A) (oGot z tm) (oc tm o0)) (s2 u u)<|c2<|.nil)<|pSeq<|wRet ?_
     obtain rfl:=so h
     exact pRn (.inl u) u u (.tmp u<|.tmp u<|.nil)
theorem eL.ok{r:(List aO)}(h:eL.f=some r):FnS PP 22 [] [] [] (.f [80000] sAg1) [.row 80000 58 (kR aU) r]:=by
 refine fnIntroS Tryz.func22 u (by kernel_rfl) fun X H0 w0 pv=>?_
 unfold eL.f at h
 refine wSeq<|rx (cw (oAlloc (id:=0) (ls:=[.d (kL (kR aU)) []]) ze28 (fun g=>⟨[(.slice none 0 0)],_,u,zL g.H,u⟩)) tv<|.nil)<|pSeq<|wSeq<|rx (cp (oLit (d:=ki) el56 (by decide) u u u (e1 (cI (by decide)) e0)) tv<|cp (oLit (d:=ki) el56 (by decide) u u u (e1 (cI (by decide)) e0)) tv<|cp (oLit (d:=ki) el56 (by decide) u u u (e1 (cI (by decide)) e0)) tv<|c3<|.nil)<|pSeq<|wSeq<|rx (cp (oLit (d:=ki) el56 (by decide) u u u (e1 (cI (by decide)) (e1 (cI (by decide)) (e1 (cI (by decide)) e0)))) tv<|c1<|.nil)<|pSeq<|wSeq<|rx (cp (oLit (d:=ki) el56 (by decide) u u u (e1 (cI (by decide)) (e1 (cI (by decide)) (e1 (cI (by decide)) e0)))) tv<|c1<|.nil)<|pSeq<|wSeq<|rx (c3<|cp (oBuild (fs:=aU) (u:=⟨([1]:List Int),([6]:List Int),([8]:List Int)⟩) u ze58 pl58 po58 (.op (zc:=[(.slice none 0 0)]) tm u (.op (zc:=[(.slice none 0 0)]) tm u (.op (zc:=[(.slice none 0 0)]) tm u .nil)))) (s3 u u u)<|cw (oAlloc (id:=6) (ls:=Z58) ze58 zl58) tv<|cwn (oStA (n:=0) (fs:=aU) u u z58 tm tm) (s2 u u)<|.nil)<|pSeq<|wSeq<|rx (c3<|cp (oBuild (fs:=aU) (u:=⟨([1]:List Int),([9,10,12]:List Int),([8]:List Int)⟩) u ze58 pl58 po58 (.op (zc:=[(.slice none 0 0)]) tm u (.op (zc:=[(.slice none 0 0)]) tm u (.op (zc:=[(.slice none 0 0)]) tm u .nil)))) (s3 u u u)<|cw (oAlloc (id:=7) (ls:=Z58) ze58 zl58) tv<|cwn (oStA (n:=0) (fs:=aU) u u z58 tm tm) (s2 u u)<|.nil)<|pSeq<|wSeq<|rx (c3<|cp (oBuild (fs:=aU) (u:=⟨([1]:List Int),([6]:List Int),([9,8,12]:List Int)⟩) u ze58 pl58 po58 (.op (zc:=[(.slice none 0 0)]) tm u (.op (zc:=[(.slice none 0 0)]) tm u (.op (zc:=[(.slice none 0 0)]) tm u .nil)))) (s3 u u u)<|cw (oAlloc (id:=8) (ls:=Z58) ze58 zl58) tv<|cwn (oStA (n:=0) (fs:=aU) u u z58 tm tm) (s2 u u)<|.nil)<|pSeq<|wSeq<|rx (cr (oLdA (n:=2) (fs:=aU) (u:=⟨([1]:List Int),([6]:List Int),([8]:List Int)⟩) u ⟨u,u,u,tv⟩ t58 tm) (s1 u)<|c1<|cp (oLit (d:=ki) el56 (by decide) u u u (e1 (cI (by decide)) e0)) tv<|c1<|cp (oBuild (fs:=aU) (u:=⟨([1]:List Int),([9]:List Int),([8]:List Int)⟩) u ze58 pl58 po58 (.op (zc:=[(.slice none 0 0)]) tm u (.op (zc:=[(.slice none 0 0)]) tm u (.op (zc:=[(.slice none 0 0)]) tm u .nil)))) (s3 u u u)<|cr (oLdA (n:=2) (fs:=aU) (u:=⟨([1]:List Int),([6]:List Int),([8]:List Int)⟩) u ⟨u,u,u,tv⟩ t58 tm) (s1 u)<|cr (oLdA (n:=1) (fs:=aU) (u:=⟨([1]:List Int),([9,10,12]:List Int),([8]:List Int)⟩) u ⟨u,u,u,tv⟩ t58 tm) (s1 u)<|cr (oLdA (n:=1) (fs:=aU) (u:=⟨([1]:List Int),([9,10,12]:List Int),([8]:List Int)⟩) u ⟨u,u,u,tv⟩ t58 tm) (s1 u)<|cr (oLdA (n:=1) (fs:=aU) (u:=⟨([1]:List Int),([9,10,12]:List Int),([8]:List Int)⟩) u ⟨u,u,u,tv⟩ t58 tm) (s1 u)<|cp (oLit (d:=ki) el56 (by decide) u u u (e1 (cI (by decide)) (e1 (cI (by decide)) (e1 (cI (by decide)) (e1 (cI (by decide)) (e1 (cI (by decide)) e0)))))) tv<|cp (oLit (d:=ki) el56 (by decide) u u u (e1 (cI (by decide)) (e1 (cI (by decide)) (e1 (cI (by decide)) (e1 (cI (by decide)) (e1 (cI (by decide)) e0)))))) tv<|c1<|cp (oBuild (fs:=aU) (u:=⟨([9,8,12,11,5]:List Int),([9,10,12,8,12]:List Int),([8]:List Int)⟩) u ze58 pl58 po58 (.op (zc:=[(.slice none 0 0)]) tm u (.op (zc:=[(.slice none 0 0)]) tm u (.op (zc:=[(.slice none 0 0)]) tm u .nil)))) (s3 u u u)<|cr (oLdA (n:=0) (fs:=aU) (u:=⟨([1]:List Int),([6]:List Int),([9,8,12]:List Int)⟩) u ⟨u,u,u,tv⟩ t58 tm) (s1 u)<|cr (oLdA (n:=0) (fs:=aU) (u:=⟨([1]:List Int),([6]:List Int),([9,8,12]:List Int)⟩) u ⟨u,u,u,tv⟩ t58 tm) (s1 u)<|cr (oLdA (n:=0) (fs:=aU) (u:=⟨([1]:List Int),([6]:List Int),([9,8,12]:List Int)⟩) u ⟨u,u,u,tv⟩ t58 tm) (s1 u)<|c2<|cp (oLit (d:=ki) el56 (by decide) u u u (e1 (cI (by decide)) e0)) tv<|cp (oBuild (fs:=aU) (u:=⟨([1]:List Int),([9,8,12]:List Int),([10]:List Int)⟩) u ze58 pl58 po58 (.op (zc:=[(.slice none 0 0)]) tm u (.op (zc:=[(.slice none 0 0)]) tm u (.op (zc:=[(.slice none 0 0)]) tm u .nil)))) (s3 u u u)<|c3<|cp (oBuild (fs:=aU) (u:=⟨([1]:List Int),([9,8,12]:List Int),([8]:List Int)⟩) u ze58 pl58 po58 (.op (zc:=[(.slice none 0 0)]) tm u (.op (zc:=[(.slice none 0 0)]) tm u (.op (zc:=[(.slice none 0 0)]) tm u .nil)))) (s3 u u u)<|cr (oLdA (n:=2) (fs:=aU) (u:=⟨([1]:List Int),([6]:List Int),([8]:List Int)⟩) u ⟨u,u,u,tv⟩ t58 tm) (s1 u)<|cw (oLitR (id:=51) (d:=(kR aU)) el26 (by decide) u u u (e1 tm (e1 tm (e1 tm (e1 tm (e1 tm (e1 tm (e1 tm (e1 tm (e1 tm (e1 tm (e1 tm (e1 tm (e1 tm e0)))))))))))))) ⟨u,u,u,u,u,u,u,u,u,u,u,u,u,tv⟩<|cr (oBuildW (n:=0) u ze28 pl28 tm) (s1 u)<|cwn (oStW (n:=4) (m:=0) u u z28 u tm tm) (s2 u u)<|.nil)<|pSeq<|wRet ?_
 obtain rfl:=so h
 exact pSub (Γ':=[(0,.p 0 0)]) (sb u)<|pRen 51 80000 u<|pSag (n:=4) [0] u u (.inl u) u u u t28
theorem reticentlaw20_alive.ok{r:Bool}(h:reticentlaw20_alive.f=some r):FnA PP 11 [] (kB.sig r):=by
 refine fnIntro Tryz.func11 u (by kernel_rfl) fun H0 w0=>?_
 unfold reticentlaw20_alive.f at h
 refine wSeq<|rx (c1<|.nil)<|pSeq<|wSeq<|rx (cp (oLit (d:=kS) el22 (by decide) u u u (e1 (cS (by decide)) (e1 (cS (by decide)) e0))) tv<|cp (oLit (d:=(kI .u32)) el23 (by decide) u u u (e1 (cI (by decide)) (e1 (cI (by decide)) e0))) tv<|cp (oBuild (fs:=aA) (u:=⟨([([97]:Str),([98]:Str)]:List Str),([3,2]:List Int)⟩) u ze25 pl25 po25 (.op (zc:=[(.slice none 0 0)]) tm u (.op (zc:=[(.slice none 0 0)]) tm u .nil))) (s2 u u)<|cw (oAlloc (id:=1) (ls:=Z25) ze25 zl25) tv<|cwn (oStA (n:=0) (fs:=aA) u u z25 tm tm) (s2 u u)<|.nil)<|pSeq<|wSeq ?_
 obtain⟨i,p,h⟩:=bd h
 refine rx (cm (oCallS (rest:=[.box 1 25 [.d (kL kS) ([([97]:Str),([98]:Str)]:List Str),.d (kL (kI .u32)) ([3,2]:List Int)]]) (R':=[.row 320000 58 (kR aU) i,.box 1 25 [.d (kL kS) ([([97]:Str),([98]:Str)]:List Str),.d (kL (kI .u32)) ([3,2]:List Int)]]) (out':=.f [320000] sAg1) [] [(80000,320000)] [] [0] [0,1] u (eL.ok p) b22 oE0 u u u u u u u u) tv<|cw (oAlloc (id:=2) (ls:=[.d (kL (kR aU)) []]) ze28 (fun g=>⟨[(.slice none 0 0)],_,u,zL g.H,u⟩)) tv<|cwn (oStW (n:=0) (m:=1) u u z28 u tm tm) (s2 u u)<|.nil)<|pSeq<|wSeq<|wSeq<|rx (c1<|cr (oLdN (n:=0) (k:=0) u u u t26 tm) (s1 u)<|cr (oLenR (n:=1) u26 u tm) (s1 u)<|c1<|.nil)<|pSeq ?_
 obtain⟨c,h⟩|⟨c,h⟩:=ik h
 ·refine wNT c.1 tm (s1 u)<|wSkip<|pSeq<|wSeq ?_
  obtain⟨b,e,h⟩:=bd h
  refine rx (c1<|cr (oLdN (n:=0) (k:=0) u u u t26 tm) (s1 u)<|cp (oLit (d:=ki) el56 (by decide) u u u (e1 (cI (by decide)) e0)) tv<|cr (oIdxR (n:=1) u26 z58 u e tm (cI (by decide))) (s1 u)<|cp (oFldE o58_1 tm) (s1 u)<|cwn (oStEF (n:=1) (k:=1) (fs:=aU) (u':=(⟨b.May,([6]:List Int),b.Pc⟩:aO)) u e u ⟨u,u,tv⟩ u z56 tm tm) (s2 u u)<|.nil)<|pSeq<|wSeq<|rx (cp (oBuild (fs:=aw) (u:=⟨1,1,1⟩) u ze73 pl73 po73 (.op (zc:=[(.int .i64 0)]) (cI (by decide)) u (.op (zc:=[(.int .i64 0)]) (cI (by decide)) u (.op (zc:=[(.int .i64 0)]) (cI (by decide)) u .nil)))) tv<|cp (oLit (d:=(kR aw)) el31 (by decide) u u u (e1 tm e0)) (s1 u)<|cp (oBuild (fs:=ap) (u:=⟨(⟨0,0⟩:az),([(⟨1,1,1⟩:aE)]:List aE),[],[],[]⟩) u ze35 pl35 po35 (.ze (zc:=[(.int .i64 0),(.int .i64 0)]) eG (.op (zc:=[(.slice none 0 0)]) tm u (.ze (zc:=[(.slice none 0 0)]) zL (.ze (zc:=[(.slice none 0 0)]) zL (.ze (zc:=[(.slice none 0 0)]) zL .nil)))))) (s1 u)<|cp (oBuild (fs:=aw) (u:=⟨1,2,1⟩) u ze73 pl73 po73 (.op (zc:=[(.int .i64 0)]) (cI (by decide)) u (.op (zc:=[(.int .i64 0)]) (cI (by decide)) u (.op (zc:=[(.int .i64 0)]) (cI (by decide)) u .nil)))) tv<|cp (oLit (d:=(kR aw)) el31 (by decide) u u u (e1 tm e0)) (s1 u)<|cp (oBuild (fs:=ap) (u:=⟨(⟨0,0⟩:az),([(⟨1,2,1⟩:aE)]:List aE),[],[],[]⟩) u ze35 pl35 po35 (.ze (zc:=[(.int .i64 0),(.int .i64 0)]) eG (.op (zc:=[(.slice none 0 0)]) tm u (.ze (zc:=[(.slice none 0 0)]) zL (.ze (zc:=[(.slice none 0 0)]) zL (.ze (zc:=[(.slice none 0 0)]) zL .nil)))))) (s1 u)<|cw (oAlloc (id:=3) (ls:=Z35) ze35 zl35) tv<|cw (oAlloc (id:=4) (ls:=Z35) ze35 zl35) tv<|cwn (oStP (n:=1) (k:=0) (m:=6) (d:=(kR ap)) (u:=(⟨(⟨0,0⟩:az),([(⟨1,1,1⟩:aE)]:List aE),[],[],[]⟩:ah)) pt35 u u u z35 tm tm) (s2 u u)<|cwn (oStP (n:=0) (k:=0) (m:=6) (d:=(kR ap)) (u:=(⟨(⟨0,0⟩:az),([(⟨1,2,1⟩:aE)]:List aE),[],[],[]⟩:ah)) pt35 u u u z35 tm tm) (s2 u u)<|.nil)<|pSeq<|wSeq<|wFrzR (n:=3) (id:=320000) [14,18] u u ⟨u,u,tv⟩ ?_
  obtain⟨x,q,h⟩:=bd h
  refine rx (cr (oLdA (n:=3) (fs:=aA) (u:=⟨([([97]:Str),([98]:Str)]:List Str),([3,2]:List Int)⟩) u ⟨u,u,tv⟩ t25 tm) (s1 u)<|cr (oLdA (n:=2) (fs:=bf) (u:=⟨i.set (1:Int).toNat (⟨b.May,([6]:List Int),b.Pc⟩:aO)⟩) u ⟨u,tv⟩ t28 tm) (s1 u)<|cr (oLdP (n:=1) (k:=0) (m:=6) (d:=(kR ap)) (u:=(⟨⟨0,0⟩,([(⟨1,1,1⟩:aE)]:List aE),[],[],[]⟩:ah)) pt35 u u u t35 tm) (s1 u)<|cr (oLdP (n:=0) (k:=0) (m:=6) (d:=(kR ap)) (u:=(⟨⟨0,0⟩,([(⟨1,2,1⟩:aE)]:List aE),[],[],[]⟩:ah)) pt35 u u u t35 tm) (s1 u)<|cC (bL.ok q)<|c4<|c1<|.nil)<|pSeq<|wSeq ?_
  obtain⟨y,s,h⟩:=bd h
  obtain⟨z,t,h⟩:=bd h
  refine rdx hm (cr (oLdA (n:=3) (fs:=aA) (u:=⟨([([97]:Str),([98]:Str)]:List Str),([3,2]:List Int)⟩) u ⟨u,u,tv⟩ t25 tm) (s1 u)<|cC (fl.ok s)<|cr (oLdP (n:=1) (k:=0) (m:=6) (d:=(kR ap)) (u:=(⟨⟨0,0⟩,([(⟨1,1,1⟩:aE)]:List aE),[],[],[]⟩:ah)) pt35 u u u t35 tm) (s1 u)<|cr (oLdP (n:=0) (k:=0) (m:=6) (d:=(kR ap)) (u:=(⟨⟨0,0⟩,([(⟨1,2,1⟩:aE)]:List aE),[],[],[]⟩:ah)) pt35 u u u t35 tm) (s1 u)<|cC (bL.ok t)<|c4<|c1<|.nil)<|pSeq ?_
  obtain⟨w,h,v⟩:=bd h
  refine wJ1 (fun a=>a=w) (fun a=>[(0,.d (kB.sig a))]) (fun a=>[.box 4 35 [.d ki 0,.d ki 0,.d (kL (kR aw)) ([(⟨1,2,1⟩:aE)]:List aE),.d (kL (kR am)) [],.d (kL (kR au)) [],.d (kL (kR am)) []],.box 3 35 [.d ki 0,.d ki 0,.d (kL (kR aw)) ([(⟨1,1,1⟩:aE)]:List aE),.d (kL (kR am)) [],.d (kL (kR au)) [],.d (kL (kR am)) []],.box 2 28 [.d (kL (kR aU)) (i.set (1:Int).toNat (⟨b.May,([6]:List Int),b.Pc⟩:aO))],.box 1 25 [.d (kL kS) ([([97]:Str),([98]:Str)]:List Str),.d (kL (kI .u32)) ([3,2]:List Int)]]) ?_ ?_
  ·obtain⟨j,h⟩|⟨j,h⟩:=ik h
   ·obtain⟨l,h⟩|⟨l,h⟩:=ik h
    ·obtain⟨o,h⟩|⟨o,h⟩:=ik h
     ·exact rx (c12<|c3<|.nil)<|pJ1 _ (so h) (sb u) u
     ·exact rx (c12<|c3<|.nil)<|pJ1 _ (so h) (sb u) u
    ·exact rx (c12<|c3<|.nil)<|pJ1 _ (so h) (sb u) u
   ·exact rx (c12<|c3<|.nil)<|pJ1 _ (so h) (sb u) u
  ·rintro a rfl
   replace h:=v
   refine wRet ?_
   obtain rfl:=so h
   exact pR1 (.inl u) u (.tmp u<|.nil)
 ·refine wNF c.1 tm (s1 u)<|wSeq<|rx (c1<|.nil)<|pSeq<|wRet<|pThenR ?_
  obtain rfl:=so h
  exact pR1 (.inl u) u (.tmp u<|.nil)
theorem dm.ok{x:aq} {a1:bw} {a2:Int} {a3:Int} {a4:Int} {c:ah} {e:ah} {r:Bool}(h:dm.f x a1 a2 a3 a4 c e=some r):FnA PP 4 [(kR aA).sig x,(kR bf).sig a1,ki.sig a2,ki.sig a3,ki.sig a4,(kR ap).sig c,(kR ap).sig e] (kB.sig r):=by
 refine fnIntro Tryz.func4 u (by kernel_rfl) fun H0 w0=>?_
 unfold dm.f at h
 refine wSeq<|rx (cw (oBoxS (id:=7) (fs:=aA) tm) (s1 u)<|cw (oBoxS (id:=8) (fs:=bf) tm) (s1 u)<|cw (oBoxP (id:=12) (d:=(kR ap)) (ls:=[.d ki c.Pc.V,.d ki c.Pc.L,.d (kL (kR aw)) c.Code,.d (kL (kR am)) c.Mem,.d (kL (kR au)) c.Stack,.d (kL (kR am)) c.Out]) pt35 u tm) (s1 u)<|cw (oBoxP (id:=13) (d:=(kR ap)) (ls:=[.d ki e.Pc.V,.d ki e.Pc.L,.d (kL (kR aw)) e.Code,.d (kL (kR am)) e.Mem,.d (kL (kR au)) e.Stack,.d (kL (kR am)) e.Out]) pt35 u tm) (s1 u)<|c1<|.nil)<|pSeq<|wSeq ?_
 obtain⟨a,J,h⟩:=bd h
 obtain⟨q,K,h⟩:=bd h
 obtain⟨g,M,h⟩:=bd h
 obtain⟨s,N,h⟩:=bd h
 refine rdx hm (cr (oLdA (n:=3) (fs:=aA) (u:=⟨x.Names,x.Up⟩) u ⟨u,u,tv⟩ t25 tm) (s1 u)<|cC (cu.ok J)<|cr (oLdA (n:=2) (fs:=bf) (u:=⟨a1.Rows⟩) u ⟨u,tv⟩ t28 tm) (s1 u)<|cC (ca.ok K)<|cr (oLdP (n:=1) (k:=0) (m:=6) (d:=(kR ap)) (u:=c) pt35 u u u t35 tm) (s1 u)<|cC (dn.ok M)<|cr (oLdP (n:=0) (k:=0) (m:=6) (d:=(kR ap)) (u:=e) pt35 u u u t35 tm) (s1 u)<|cC (dn.ok N)<|cwn (oStA (n:=3) (fs:=aA) u u z25 tm tm) (s2 u u)<|cwn (oStA (n:=2) (fs:=bf) u u z28 tm tm) (s2 u u)<|cwn (oStP (n:=1) (k:=0) (m:=6) (d:=(kR ap)) (u:=g) pt35 u u u z35 tm tm) (s2 u u)<|cwn (oStP (n:=0) (k:=0) (m:=6) (d:=(kR ap)) (u:=s) pt35 u u u z35 tm tm) (s2 u u)<|.nil)<|pSeq<|wSeq<|rx (c1<|cp (oRem (by decide) tm (cI (by decide))) (s1 u)<|c1<|cp (oRem (by decide) tm (cI (by decide))) (s1 u)<|c1<|.nil)<|pSeq<|wSeq ?_
 obtain⟨T,O,h⟩:=bd h
 refine rx (cr (oLdA (n:=3) (fs:=aA) (u:=⟨a.Names,a.Up⟩) u ⟨u,u,tv⟩ t25 tm) (s1 u)<|cC (dg.ok O)<|c4<|c1<|.nil)<|pSeq<|wSeq<|wSeq<|rx (c2<|.nil)<|pSeq ?_
 obtain⟨t,h⟩|⟨t,h⟩:=ik h
 ·refine wNT t.1 tm (s1 u)<|wSkip<|pSeq<|wSeq<|wSeq ?_
  obtain⟨U,P,h⟩:=bd h
  refine rx (cr (oLdA (n:=3) (fs:=aA) (u:=⟨a.Names,a.Up⟩) u ⟨u,u,tv⟩ t25 tm) (s1 u)<|cr (oLdA (n:=2) (fs:=bf) (u:=⟨q.Rows⟩) u ⟨u,tv⟩ t28 tm) (s1 u)<|c3<|cr (oLdP (n:=1) (k:=0) (m:=6) (d:=(kR ap)) (u:=g) pt35 u u u t35 tm) (s1 u)<|cr (oLdP (n:=1) (k:=0) (m:=6) (d:=(kR ap)) (u:=g) pt35 u u u t35 tm) (s1 u)<|cC (bL.ok P)<|c4<|c1<|.nil)<|pSeq ?_
  obtain⟨y,h,v⟩:=bd h
  refine wJ1 (fun w=>w=y) (fun w=>[(2,.d (ki.sig ((IntKind.i64.wrap ((a2.tmod 3)+3)).tmod 3))),(3,.d (ki.sig a3)),(4,.d (ki.sig a4)),(7,.p 7 0),(8,.p 8 0),(12,.p 12 0),(13,.p 13 0),(61,.d (kB.sig w))]) (fun w=>[.box 13 35 (L35 s),.box 12 35 (L35 g),.box 8 28 [.d (kL (kR aU)) q.Rows],.box 7 25 [.d (kL kS) a.Names,.d (kL (kI .u32)) a.Up]]) ?_ ?_
  ·obtain⟨z,h⟩|⟨z,h⟩:=ik h
   ·exact rx (c6<|.nil)<|pJ1 _ (so h) (sb u) u
   ·exact rx (c6<|.nil)<|pJ1 _ (so h) (sb u) u
  ·rintro w rfl
   replace h:=v
   obtain⟨j,h⟩|⟨j,h⟩:=ik h
   ·refine wBT j.1 tm (s1 u)<|wSeq<|rx (c1<|.nil)<|pSeq<|wRet<|pThenR ?_
    obtain rfl:=so h
    exact pR1 (.inl u) u (.tmp u<|.nil)
   ·refine wBF j.1 tm (s1 u)<|wSkip<|pSeq<|wSeq<|wSeq<|rx (c2<|.nil)<|pSeq ?_
    obtain⟨l,h⟩|⟨l,h⟩:=ik h
    ·refine wCT l.1 tm (s1 u)<|wSeq ?_
     obtain⟨Q,A,h⟩:=bd h
     refine rx (cC (reticentlaw20_alive.ok A)<|c1<|.nil)<|pSeq<|wRet<|pThenR ?_
     obtain rfl:=so h
     exact pR1 (.inl u) u (.tmp u<|.nil)
    ·refine wCF l.1 tm (s1 u)<|wSkip<|pSeq<|wSeq ?_
     obtain⟨y14,B,h⟩:=bd h
     refine rx (cr (oLdA (n:=3) (fs:=aA) (u:=⟨a.Names,a.Up⟩) u ⟨u,u,tv⟩ t25 tm) (s1 u)<|cr (oLdA (n:=2) (fs:=bf) (u:=⟨q.Rows⟩) u ⟨u,tv⟩ t28 tm) (s1 u)<|c3<|cr (oLdP (n:=1) (k:=0) (m:=6) (d:=(kR ap)) (u:=g) pt35 u u u t35 tm) (s1 u)<|cr (oLdP (n:=1) (k:=0) (m:=6) (d:=(kR ap)) (u:=g) pt35 u u u t35 tm) (s1 u)<|cC (bL.ok B)<|c4<|c1<|.nil)<|pSeq<|wSeq ?_
     obtain⟨y15,C,h⟩:=bd h
     refine rx (cr (oLdA (n:=3) (fs:=aA) (u:=⟨a.Names,a.Up⟩) u ⟨u,u,tv⟩ t25 tm) (s1 u)<|cr (oLdA (n:=2) (fs:=bf) (u:=⟨q.Rows⟩) u ⟨u,tv⟩ t28 tm) (s1 u)<|c3<|cr (oLdP (n:=1) (k:=0) (m:=6) (d:=(kR ap)) (u:=g) pt35 u u u t35 tm) (s1 u)<|cr (oLdP (n:=0) (k:=0) (m:=6) (d:=(kR ap)) (u:=s) pt35 u u u t35 tm) (s1 u)<|cC (bL.ok C)<|c4<|c1<|.nil)<|pSeq<|wSeq ?_
     obtain⟨y16,D,h⟩:=bd h
     refine rx (cr (oLdA (n:=3) (fs:=aA) (u:=⟨a.Names,a.Up⟩) u ⟨u,u,tv⟩ t25 tm) (s1 u)<|cr (oLdA (n:=2) (fs:=bf) (u:=⟨q.Rows⟩) u ⟨u,tv⟩ t28 tm) (s1 u)<|c3<|cr (oLdP (n:=0) (k:=0) (m:=6) (d:=(kR ap)) (u:=s) pt35 u u u t35 tm) (s1 u)<|cr (oLdP (n:=1) (k:=0) (m:=6) (d:=(kR ap)) (u:=g) pt35 u u u t35 tm) (s1 u)<|cC (bL.ok D)<|c4<|c1<|.nil)<|pSeq ?_
     obtain⟨y,h,v⟩:=bd h
     refine wJ1 (fun i=>i=y) (fun i=>[(14,.d (kB.sig i))]) (fun i=>[.box 13 35 (L35 s),.box 12 35 (L35 g),.box 8 28 [.d (kL (kR aU)) q.Rows],.box 7 25 [.d (kL kS) a.Names,.d (kL (kI .u32)) a.Up]]) ?_ ?_
     ·obtain⟨R,b,h⟩:=bd h
      obtain⟨E,h⟩|⟨E,h⟩:=ik h
      ·obtain⟨F,h⟩|⟨F,h⟩:=ik h
       ·obtain⟨o,h⟩|⟨o,h⟩:=ik h
        ·exact rx (cC (reticentlaw20_alive.ok b)<|c12<|c8<|c1<|.nil)<|pJ1 _ (so h) (sb u) u
        ·obtain⟨G,h⟩|⟨G,h⟩:=ik h
         ·exact rx (cC (reticentlaw20_alive.ok b)<|c12<|c1<|cgB (nt o.1) u u (oBEq u4 u tm tm) (s2 u u)<|c6<|c1<|.nil)<|pJ1 _ (so h) (sb u) u
         ·exact rx (cC (reticentlaw20_alive.ok b)<|c12<|c1<|cgB (nt o.1) u u (oBEq u4 u tm tm) (s2 u u)<|c6<|c1<|.nil)<|pJ1 _ (so h) (sb u) u
       ·obtain⟨H,h⟩|⟨H,h⟩:=ik h
        ·exact rx (cC (reticentlaw20_alive.ok b)<|c12<|c1<|cgB u u u (oBEq u4 u tm tm) (s2 u u)<|c6<|c1<|.nil)<|pJ1 _ (so h) (sb u) u
        ·exact rx (cC (reticentlaw20_alive.ok b)<|c12<|c1<|cgB u u u (oBEq u4 u tm tm) (s2 u u)<|c6<|c1<|.nil)<|pJ1 _ (so h) (sb u) u
      ·exact rx (cC (reticentlaw20_alive.ok b)<|c4<|csU u u<|csU u u<|c12<|c3<|.nil)<|pJ1 _ (so h) (sb u) u
     ·rintro i rfl
      replace h:=v
      refine wRet ?_
      obtain rfl:=so h
      exact pR1 (.inl u) u (.tmp u<|.nil)
 ·refine wNF t.1 tm (s1 u)<|wSeq ?_
  obtain⟨S,I,h⟩:=bd h
  refine rx (cC (reticentlaw20_alive.ok I)<|c1<|.nil)<|pSeq<|wRet<|pThenR ?_
  obtain rfl:=so h
  exact pR1 (.inl u) u (.tmp u<|.nil)
end Go.Proofs.YtmjcpkmongafnaaGreatDoor.TT
