import Derived.Test.YtmjcpkmongafnaaGreatDoorCln
import Derived.Test.YtmjcpkmongafnaaGreatDoorWTTp2
import Derived.Test.YtmjcpkmongafnaaGreatDoorProg
set_option linter.unusedVariables false
set_option maxRecDepth 10000
set_option maxHeartbeats 2000000
set_option synthInstance.maxHeartbeats 200000
set_option synthInstance.maxSize 2000
namespace Go.Proofs.YtmjcpkmongafnaaGreatDoor.TT
open Go Go.Proofs.YtmjcpkmongafnaaGreatDoor.Ab
theorem eF.ok{a0:Int} {a1:aE} {r:Int}(h:eF.f a0 a1=some r):FnA PP 118 [ki.sig a0,(kR aJ).sig a1] (ki.sig r):=by
 refine fnIntro Tryz.func118 u (by kernel_rfl) fun H0 w0=>?_
 unfold eF.f at h
 refine wSeq<|rx (c2<|.nil)<|pSeq<|wSeq ?_
 obtain⟨o1,h,hk1⟩:=bd h
 refine wJ1 (fun x6=>x6=o1) (fun x6=>[(0,.d (ki.sig a0)),(3,.d (sP (kR aJ) a1)),(20,.d (kB.sig x6))]) (fun x6=>[]) ?_ ?_
 ·obtain⟨y7,hy7,h⟩:=bd h
  obtain⟨hp8,h⟩|⟨hp8,h⟩:=ik h
  ·exact rx (c2<|cC (cA.ok hy7)<|c12<|c1<|.nil)<|pJ1 _ (so h) (sb u) u
  ·obtain⟨y9,hy9,h⟩:=bd h
   obtain⟨hp10,h⟩|⟨hp10,h⟩:=ik h
   ·exact rx (c2<|cC (cA.ok hy7)<|c4<|cgB (nb hp8.1) u u (oCall u (cA.ok hy9) b141 (oc tm (oc cB o0))) (s1 u)<|c8<|.nil)<|pJ1 _ (so h) (sb u) u
   ·obtain⟨y11,hy11,h⟩:=bd h
    exact rx (c2<|cC (cA.ok hy7)<|c4<|cgB (nb hp8.1) u u (oCall u (cA.ok hy9) b141 (oc tm (oc cB o0))) (s1 u)<|c4<|c1<|cgB (nb hp10.1) u u (oCall u (cA.ok hy11) b141 (oc tm (oc cB o0))) (s1 u)<|c2<|.nil)<|pJ1 _ (so h) (sb u) u
 ·rintro x6 rfl
  replace h:=hk1
  obtain⟨hp12,h⟩|⟨hp12,h⟩:=ik h
  ·refine wBT hp12.1 tm (s1 u)<|wSeq<|rx (c1<|.nil)<|pSeq<|wRet<|pThenR ?_
   obtain rfl:=so h
   exact pR1 (.inl u) u (.tmp u<|.nil)
  ·refine wBF hp12.1 tm (s1 u)<|wSkip<|pSeq<|wSeq ?_
   obtain⟨o1,h,hk1⟩:=bd h
   refine wJ1 (fun x18=>x18=o1) (fun x18=>[(39,.d (kB.sig x18))]) (fun x18=>[]) ?_ ?_
   ·obtain⟨y19,hy19,h⟩:=bd h
    obtain⟨hp20,h⟩|⟨hp20,h⟩:=ik h
    ·exact rx (c3<|cC (bN.ok hy19)<|c12<|c3<|.nil)<|pJ1 _ (so h) (sb u) u
    ·obtain⟨y21,hy21,h⟩:=bd h
     obtain⟨hp22,h⟩|⟨hp22,h⟩:=ik h
     ·exact rx (c3<|cC (bN.ok hy19)<|c4<|c1<|cgB (nb hp20.1) u u (oCall u (bN.ok hy21) b142 (oc tm (oc tm o0))) (s2 u u)<|c8<|c1<|.nil)<|pJ1 _ (so h) (sb u) u
     ·obtain⟨y23,hy23,h⟩:=bd h
      exact rx (c3<|cC (bN.ok hy19)<|c4<|c1<|cgB (nb hp20.1) u u (oCall u (bN.ok hy21) b142 (oc tm (oc tm o0))) (s2 u u)<|c6<|cgB (nb hp22.1) u u (oCall u (bN.ok hy23) b142 (oc tm (oc tm o0))) (s2 u u)<|c2<|.nil)<|pJ1 _ (so h) (sb u) u
   ·rintro x18 rfl
    replace h:=hk1
    obtain⟨hp24,h⟩|⟨hp24,h⟩:=ik h
    ·refine wBT hp24.1 tm (s1 u)<|wSeq<|rx (c1<|.nil)<|pSeq<|wRet<|pThenR ?_
     obtain rfl:=so h
     exact pR1 (.inl u) u (.tmp u<|.nil)
    ·refine wBF hp24.1 tm (s1 u)<|wSkip<|pSeq<|wSeq<|rx (c1<|.nil)<|pSeq<|wRet ?_
     obtain rfl:=so h
     exact pR1 (.inl u) u (.tmp u<|.nil)
theorem b9.ok{a0:aZ} {r:eH}(h:b9.f a0=some r):FnA PP 72 [(kR aL).sig a0] ((kR cH).sig r):=by
 refine fnIntro Tryz.func72 u (by kernel_rfl) fun H0 w0=>?_
 unfold b9.f at h
 refine wSeq<|rx (c1<|cw (oAlloc (id:=2) (ls:=Z137) ze137 zl137) tv<|.nil)<|pSeq<|wSeq<|wSeq<|rx (c4<|.nil)<|pSeq ?_
 obtain⟨hp1,h⟩|⟨hp1,h⟩:=ik h
 ·refine wNT hp1.1 tm (s1 u)<|wSkip<|pSeq<|wSeq<|wSeq<|rx (c4<|.nil)<|pSeq ?_
  obtain⟨o1,h,hk1⟩:=bd h
  refine wK0 (.inr ()=o1) ([(2,.p 2 0)]) ([.box 2 137 [.d ki 0,.d ki 0]]) ?_ ?_
  ·refine wBlock (wLoop ?_)
   refine lW (pc1 o1 (fun v10=>[(2,.p 2 0),(12,.d ((kL (kR aJ)).sig a0.Rows)),(13,.d (ki.sig (a0.Rows.length:Int))),(14,.d (ki.sig v10))]) (fun v10=>[.box 2 137 [.d ki 0,.d ki 0]]) (b9.l0.partial_correctness a0) ?_ _ h) ⟨u,u,u,u,tv⟩ u
   clear h
   intro f' ih v10 h
   refine wSeq<|rx (c1<|.nil)<|pSeq<|wSeq ?_
   obtain⟨hp11,h⟩|⟨hp11,h⟩:=ik h
   ·refine wCT hp11.1 tm (s1 u)<|wSkip<|pSeq<|wSeq<|wBlock<|wSeq ?_
    obtain⟨y12,hy12,h⟩:=bd h
    refine rx (c1<|cp (oIdx u26 z58 hy12 tm tm) (s2 u u)<|c1<|cw (oAlloc (id:=4) (ls:=Z58) ze58 zl58) tv<|c1<|cwn (oStA (n:=0) (fs:=aJ) u u z58 tm tm) (s2 u u)<|.nil)<|pSeq<|wSeq ?_
    obtain⟨y13,hy13,h⟩:=bd h
    refine rx (c1<|cr (oLdA (n:=0) (fs:=aJ) (u:=⟨y12.May,y12.Res,y12.Pc⟩) u ⟨u,u,u,tv⟩ t58 tm) (s1 u)<|cC (eF.ok hy13)<|c1<|.nil)<|pSeq<|wSeq<|rx (c2<|.nil)<|pSeq ?_
    obtain⟨hp14,h⟩|⟨hp14,h⟩:=ik h
    ·exact wNT hp14.1 tm (s1 u)<|wSkip<|pBlkN<|pSeq<|rx (c2<|.nil)<|pDrop (.cons _ (.cons_cons _ .slnil))<|pLoop (lW (ih _ h) ⟨u,u,u,u,tv⟩ u)
    ·refine wNF hp14.1 tm (s1 u)<|wSeq<|rx (c2<|cp (oBuild (fs:=cH) (u:=⟨v10,y13⟩) u ze137 pl137 po137 (.op (zc:=[(.int .i64 0)]) tm u (.op (zc:=[(.int .i64 0)]) tm u .nil))) (s2 u u)<|cwn (oStA (n:=1) (fs:=cH) u u z137 tm tm) (s2 u u)<|.nil)<|pSeq<|wRet<|pBlkR<|pThenR<|pThenR<|pBlkR<|pThenR ?_
     obtain rfl:=so h
     replace h:=hk1
     refine pThenR ?_
     obtain rfl:=so h
     exact pR1 (.inl u) u (.box (n:=1) (fs:=cH) (u:=⟨v10,y13⟩) u u ⟨u,u,tv⟩ t137<|.nil)
   ·exact wCF hp11.1 tm (s1 u)<|wExit<|pThenX<|pThenX<|pBlkX<|pJ0 (so h) (sb u) u
  ·rintro rfl
   replace h:=hk1
   refine pSeq<|wSeq<|rx (cp (oBuild (fs:=cH) (u:=⟨0,0⟩) u ze137 pl137 po137 (.ze (zc:=[(.int .i64 0)]) zI_i64 (.ze (zc:=[(.int .i64 0)]) zI_i64 .nil))) tv<|cwn (oStA (n:=0) (fs:=cH) u u z137 tm tm) (s2 u u)<|.nil)<|pSeq<|wRet ?_
   obtain rfl:=so h
   exact pR1 (.inl u) u (.box (n:=0) (fs:=cH) (u:=⟨0,0⟩) u u ⟨u,u,tv⟩ t137<|.nil)
 ·refine wNF hp1.1 tm (s1 u)<|wSeq<|rx (cp (oBuild (fs:=cH) (u:=⟨0,1⟩) u ze137 pl137 po137 (.ze (zc:=[(.int .i64 0)]) zI_i64 (.op (zc:=[(.int .i64 0)]) (cI (by decide)) u .nil))) tv<|cwn (oStA (n:=0) (fs:=cH) u u z137 tm tm) (s2 u u)<|.nil)<|pSeq<|wRet<|pThenR ?_
  obtain rfl:=so h
  exact pR1 (.inl u) u (.box (n:=0) (fs:=cH) (u:=⟨0,1⟩) u u ⟨u,u,tv⟩ t137<|.nil)
theorem eG.ok{a0:Int} {a1:ap} {r:Bool}(h:eG.f a0 a1=some r):FnA PP 143 [ki.sig a0,(kR ao).sig a1] (kB.sig r):=by
 refine fnIntro Tryz.func143 u (by kernel_rfl) fun H0 w0=>?_
 unfold eG.f at h
 refine wSeq<|rx (c2<|.nil)<|pSeq<|wSeq<|wSeq<|rx (c3<|.nil)<|pSeq ?_
 obtain⟨hp1,h⟩|⟨hp1,h⟩:=ik h
 ·refine wCT hp1.1 tm (s1 u) ?_
  obtain⟨o1,h,hk1⟩:=bd h
  refine wJ1 (fun x5=>x5=o1) (fun x5=>[(4,.d (kB.sig x5))]) (fun x5=>[]) ?_ ?_
  ·obtain⟨hp6,h⟩|⟨hp6,h⟩:=ik h
   ·obtain⟨hp7,h⟩|⟨hp7,h⟩:=ik h
    ·obtain⟨hp8,h⟩|⟨hp8,h⟩:=ik h
     ·exact rx (c12<|c8<|.nil)<|pJ1 _ (so h) (sb u) u
     ·exact rx (c12<|c8<|.nil)<|pJ1 _ (so h) (sb u) u
    ·exact rx (c12<|c8<|.nil)<|pJ1 _ (so h) (sb u) u
   ·exact rx (c12<|c8<|.nil)<|pJ1 _ (so h) (sb u) u
  ·rintro x5 rfl
   replace h:=hk1
   refine wRet<|pThenR ?_
   obtain rfl:=so h
   exact pR1 (.inl u) u (.tmp u<|.nil)
 ·refine wCF hp1.1 tm (s1 u)<|wSkip<|pSeq<|wSeq ?_
  obtain⟨o1,h,hk1⟩:=bd h
  refine wJ1 (fun x11=>x11=o1) (fun x11=>[(3,.d (sP (kR ao) a1)),(39,.d (kB.sig x11))]) (fun x11=>[]) ?_ ?_
  ·obtain⟨hp12,h⟩|⟨hp12,h⟩:=ik h
   ·exact rx (c12<|c1<|.nil)<|pJ1 _ (so h) (sb u) u
   ·obtain⟨hp13,h⟩|⟨hp13,h⟩:=ik h
    ·exact rx (c12<|c1<|.nil)<|pJ1 _ (so h) (sb u) u
    ·exact rx (c12<|c1<|.nil)<|pJ1 _ (so h) (sb u) u
  ·rintro x11 rfl
   replace h:=hk1
   obtain⟨hp14,h⟩|⟨hp14,h⟩:=ik h
   ·refine wBT hp14.1 tm (s1 u)<|wSeq<|rx (c1<|.nil)<|pSeq<|wRet<|pThenR ?_
    obtain rfl:=so h
    exact pR1 (.inl u) u (.tmp u<|.nil)
   ·refine wBF hp14.1 tm (s1 u)<|wSkip<|pSeq<|wSeq<|wSeq<|rx (c3<|.nil)<|pSeq ?_
    obtain⟨hp15,h⟩|⟨hp15,h⟩:=ik h
    ·refine wCT hp15.1 tm (s1 u) ?_
     obtain⟨o1,h,hk1⟩:=bd h
     refine wJ1 (fun x17=>x17=o1) (fun x17=>[(4,.d (kB.sig x17))]) (fun x17=>[]) ?_ ?_
     ·obtain⟨hp18,h⟩|⟨hp18,h⟩:=ik h
      ·exact rx (c8<|c1<|.nil)<|pJ1 _ (so h) (sb u) u
      ·exact rx (c8<|c1<|.nil)<|pJ1 _ (so h) (sb u) u
     ·rintro x17 rfl
      replace h:=hk1
      refine wRet<|pThenR ?_
      obtain rfl:=so h
      exact pR1 (.inl u) u (.tmp u<|.nil)
    ·refine wCF hp15.1 tm (s1 u)<|wSkip<|pSeq<|wSeq<|wSeq<|rx (c3<|.nil)<|pSeq ?_
     obtain⟨hp19,h⟩|⟨hp19,h⟩:=ik h
     ·refine wCT hp19.1 tm (s1 u) ?_
      obtain⟨o1,h,hk1⟩:=bd h
      refine wJ1 (fun x21=>x21=o1) (fun x21=>[(4,.d (kB.sig x21))]) (fun x21=>[]) ?_ ?_
      ·obtain⟨hp22,h⟩|⟨hp22,h⟩:=ik h
       ·exact rx (c8<|c1<|.nil)<|pJ1 _ (so h) (sb u) u
       ·exact rx (c8<|c1<|.nil)<|pJ1 _ (so h) (sb u) u
      ·rintro x21 rfl
       replace h:=hk1
       refine wRet<|pThenR ?_
       obtain rfl:=so h
       exact pR1 (.inl u) u (.tmp u<|.nil)
     ·refine wCF hp19.1 tm (s1 u)<|wSkip<|pSeq<|wSeq<|wSeq<|rx (c3<|.nil)<|pSeq ?_
      obtain⟨hp23,h⟩|⟨hp23,h⟩:=ik h
      ·refine wCT hp23.1 tm (s1 u) ?_
       obtain⟨o1,h,hk1⟩:=bd h
       refine wJ1 (fun x25=>x25=o1) (fun x25=>[(4,.d (kB.sig x25))]) (fun x25=>[]) ?_ ?_
       ·obtain⟨hp26,h⟩|⟨hp26,h⟩:=ik h
        ·exact rx (c8<|c1<|.nil)<|pJ1 _ (so h) (sb u) u
        ·exact rx (c8<|c1<|.nil)<|pJ1 _ (so h) (sb u) u
       ·rintro x25 rfl
        replace h:=hk1
        refine wRet<|pThenR ?_
        obtain rfl:=so h
        exact pR1 (.inl u) u (.tmp u<|.nil)
      ·refine wCF hp23.1 tm (s1 u)<|wSkip<|pSeq<|wSeq<|rx (c4<|.nil)<|pSeq<|wRet ?_
       obtain rfl:=so h
       exact pR1 (.inl u) u (.tmp u<|.nil)
theorem bT.ok{a0:ab} {a1:List ap} {r:Bool}(h:bT.f a0 a1=some r):FnA PP 119 [(kR aj).sig a0,(kL (kR ao)).sig a1] (kB.sig r):=by
 refine fnIntro Tryz.func119 u (by kernel_rfl) fun H0 w0=>?_
 unfold bT.f at h
 refine wSeq<|rx (c2<|.nil)<|pSeq<|wSeq<|wSeq<|rx (c3<|.nil)<|pSeq ?_
 obtain⟨o1,h,hk1⟩:=bd h
 refine wK0 (.inr ()=o1) ([(1,.d ((kL (kR ao)).sig a1))]) ([]) ?_ ?_
 ·refine wBlock (wLoop ?_)
  refine lW (pc1 o1 (fun v9=>[(1,.d ((kL (kR ao)).sig a1)),(2,.d (sP (kR aj) a0)),(7,.d ((kL (kR ao)).sig a1)),(8,.d (ki.sig (a1.length:Int))),(9,.d (ki.sig v9))]) (fun v9=>[]) (bT.l0.partial_correctness a0 a1) ?_ _ h) ⟨u,u,u,u,u,tv⟩ u
  clear h
  intro f' ih v9 h
  refine wSeq<|rx (c1<|.nil)<|pSeq<|wSeq ?_
  obtain⟨hp10,h⟩|⟨hp10,h⟩:=ik h
  ·refine wCT hp10.1 tm (s1 u)<|wSkip<|pSeq<|wSeq<|wBlock<|wSeq ?_
   obtain⟨y11,hy11,h⟩:=bd h
   refine rx (cp (oIdx u31 z73 hy11 tm tm) (s2 u u)<|c1<|cw (oAlloc (id:=6) (ls:=Z73) ze73 zl73) tv<|cwn (oStA (n:=0) (fs:=ao) u u z73 tm tm) (s2 u u)<|.nil)<|pSeq<|wSeq ?_
   obtain⟨y12,hy12,h⟩:=bd h
   refine rx (c3<|cr (oLdA (n:=0) (fs:=ao) (u:=⟨y11.Op,y11.N,y11.L⟩) u ⟨u,u,u,tv⟩ t73 tm) (s1 u)<|cC (eG.ok hy12)<|c1<|.nil)<|pSeq ?_
   obtain⟨hp13,h⟩|⟨hp13,h⟩:=ik h
   ·refine wBT hp13.1 tm (s1 u)<|wSeq<|rx (c1<|.nil)<|pSeq<|wRet<|pBlkR<|pThenR<|pThenR<|pBlkR<|pThenR ?_
    obtain rfl:=so h
    replace h:=hk1
    refine pThenR ?_
    obtain rfl:=so h
    exact pR1 (.inl u) u (.tmp u<|.nil)
   ·exact wBF hp13.1 tm (s1 u)<|wSkip<|pBlkN<|pSeq<|rx (c2<|.nil)<|pDrop (.cons _ .slnil)<|pLoop (lW (ih _ h) ⟨u,u,u,u,u,tv⟩ u)
  ·exact wCF hp10.1 tm (s1 u)<|wExit<|pThenX<|pThenX<|pBlkX<|pJ0 (so h) (sb u) u
 ·rintro rfl
  replace h:=hk1
  refine pSeq<|wSeq<|rx (c4<|.nil)<|pSeq<|wRet ?_
  obtain rfl:=so h
  exact pR1 (.inl u) u (.tmp u<|.nil)
theorem cc.ok{a0:ab} {a1:Int} {r:Bool}(h:cc.f a0 a1=some r):FnA PP 120 [(kR aj).sig a0,ki.sig a1] (kB.sig r):=by
 refine fnIntro Tryz.func120 u (by kernel_rfl) fun H0 w0=>?_
 unfold cc.f at h
 refine wSeq<|rx (c2<|.nil)<|pSeq ?_
 obtain⟨o1,h,hk1⟩:=bd h
 refine wJ1 (fun x2=>x2=o1) (fun x2=>[(4,.d (kB.sig x2))]) (fun x2=>[]) ?_ ?_
 ·obtain⟨hp3,h⟩|⟨hp3,h⟩:=ik h
  ·exact rx (c8<|c2<|.nil)<|pJ1 _ (so h) (sb u) u
  ·exact rx (c8<|c2<|.nil)<|pJ1 _ (so h) (sb u) u
 ·rintro x2 rfl
  replace h:=hk1
  refine wRet ?_
  obtain rfl:=so h
  exact pR1 (.inl u) u (.tmp u<|.nil)
theorem bD.ok{a0:ab} {a1:List am} {r:Bool}(h:bD.f a0 a1=some r):FnA PP 121 [(kR aj).sig a0,(kL (kR ai)).sig a1] (kB.sig r):=by
 refine fnIntro Tryz.func121 u (by kernel_rfl) fun H0 w0=>?_
 unfold bD.f at h
 refine wSeq<|rx (c2<|.nil)<|pSeq<|wSeq<|wSeq<|rx (c3<|.nil)<|pSeq ?_
 obtain⟨o1,h,hk1⟩:=bd h
 refine wK0 (.inr ()=o1) ([]) ([]) ?_ ?_
 ·refine wBlock (wLoop ?_)
  refine lW (pc1 o1 (fun v21=>[(2,.d (sP (kR aj) a0)),(7,.d ((kL (kR ai)).sig a1)),(8,.d (ki.sig (a1.length:Int))),(9,.d (ki.sig v21))]) (fun v21=>[]) (bD.l0.partial_correctness a0 a1) ?_ _ h) ⟨u,u,u,u,tv⟩ u
  clear h
  intro f' ih v21 h
  refine wSeq<|rx (c1<|.nil)<|pSeq<|wSeq ?_
  obtain⟨hp22,h⟩|⟨hp22,h⟩:=ik h
  ·refine wCT hp22.1 tm (s1 u)<|wSkip<|pSeq<|wSeq<|wBlock<|wSeq ?_
   obtain⟨y23,hy23,h⟩:=bd h
   refine rx (cp (oIdx u32 z30 hy23 tm tm) (s2 u u)<|c1<|cw (oAlloc (id:=6) (ls:=Z30) ze30 zl30) tv<|cwn (oStA (n:=0) (fs:=ai) u u z30 tm tm) (s2 u u)<|.nil)<|pSeq ?_
   obtain⟨o2,h,hk2⟩:=bd h
   refine wJ1 (fun x27=>x27=o2) (fun x27=>[(2,.d (sP (kR aj) a0)),(7,.d ((kL (kR ai)).sig a1)),(8,.d (ki.sig (a1.length:Int))),(9,.d (ki.sig v21)),(27,.d (kB.sig x27))]) (fun x27=>[.box 6 30 [.d ki y23.V,.d ki y23.L]]) ?_ ?_
   ·obtain⟨hp28,h⟩|⟨hp28,h⟩:=ik h
    ·exact rx (c1<|cr (oLdB (n:=0) (k:=0) u u u t3 tm) (s1 u)<|c12<|c1<|.nil)<|pJ1 _ (so h) (sb u) u
    ·obtain⟨hp29,h⟩|⟨hp29,h⟩:=ik h
     ·exact rx (c1<|cr (oLdB (n:=0) (k:=0) u u u t3 tm) (s1 u)<|c3<|crgB (dF hp28.1) u u (oLdB (n:=0) (k:=0) u u u t3 tm) (s1 u)<|c8<|c1<|.nil)<|pJ1 _ (so h) (sb u) u
     ·obtain⟨y30,hy30,h⟩:=bd h
      exact rx (c1<|cr (oLdB (n:=0) (k:=0) u u u t3 tm) (s1 u)<|c3<|crgB (dF hp28.1) u u (oLdB (n:=0) (k:=0) u u u t3 tm) (s1 u)<|c4<|c1<|crgB (dF hp29.1) u u (oLdB (n:=0) (k:=1) u u u t3 tm) (s1 u)<|cgB (dF hp29.1) u u (oCall u (cc.ok hy30) b120 (oc tm (oc tm o0))) (s2 u u)<|c2<|.nil)<|pJ1 _ (so h) (sb u) u
   ·rintro x27 rfl
    replace h:=hk2
    obtain⟨hp31,h⟩|⟨hp31,h⟩:=ik h
    ·refine wBT hp31.1 tm (s1 u)<|wSeq<|rx (c1<|.nil)<|pSeq<|wRet<|pBlkR<|pThenR<|pThenR<|pBlkR<|pThenR ?_
     obtain rfl:=so h
     replace h:=hk1
     refine pThenR ?_
     obtain rfl:=so h
     exact pR1 (.inl u) u (.tmp u<|.nil)
    ·exact wBF hp31.1 tm (s1 u)<|wSkip<|pBlkN<|pSeq<|rx (c2<|.nil)<|pDrop (.cons _ .slnil)<|pLoop (lW (ih _ h) ⟨u,u,u,u,tv⟩ u)
  ·exact wCF hp22.1 tm (s1 u)<|wExit<|pThenX<|pThenX<|pBlkX<|pJ0 (so h) tv u
 ·rintro rfl
  replace h:=hk1
  refine pSeq<|wSeq<|rx (c1<|.nil)<|pSeq<|wRet ?_
  obtain rfl:=so h
  exact pR1 (.inl u) u (.tmp u<|.nil)
theorem cd.ok{a0:ab} {a1:List al} {r:Bool}(h:cd.f a0 a1=some r):FnA PP 122 [(kR aj).sig a0,(kL (kR ak)).sig a1] (kB.sig r):=by
 refine fnIntro Tryz.func122 u (by kernel_rfl) fun H0 w0=>?_
 unfold cd.f at h
 refine wSeq<|rx (c2<|.nil)<|pSeq<|wSeq<|wSeq<|rx (c3<|.nil)<|pSeq ?_
 obtain⟨o1,h,hk1⟩:=bd h
 refine wK0 (.inr ()=o1) ([(1,.d ((kL (kR ak)).sig a1))]) ([]) ?_ ?_
 ·refine wBlock (wLoop ?_)
  refine lW (pc1 o1 (fun v33=>[(1,.d ((kL (kR ak)).sig a1)),(2,.d (sP (kR aj) a0)),(7,.d ((kL (kR ak)).sig a1)),(8,.d (ki.sig (a1.length:Int))),(9,.d (ki.sig v33))]) (fun v33=>[]) (cd.l0.partial_correctness a0 a1) ?_ _ h) ⟨u,u,u,u,u,tv⟩ u
  clear h
  intro f' ih v33 h
  refine wSeq<|rx (c1<|.nil)<|pSeq<|wSeq ?_
  obtain⟨hp34,h⟩|⟨hp34,h⟩:=ik h
  ·refine wCT hp34.1 tm (s1 u)<|wSkip<|pSeq<|wSeq<|wBlock<|wSeq ?_
   obtain⟨y35,hy35,h⟩:=bd h
   refine rx (cp (oIdx u33 z88 hy35 tm tm) (s2 u u)<|c1<|cw (oAlloc (id:=6) (ls:=Z88) ze88 zl88) tv<|cwn (oStA (n:=0) (fs:=ak) u u z88 tm tm) (s2 u u)<|.nil)<|pSeq ?_
   obtain⟨o2,h,hk2⟩:=bd h
   refine wJ1 (fun x42=>x42=o2) (fun x42=>[(1,.d ((kL (kR ak)).sig a1)),(2,.d (sP (kR aj) a0)),(7,.d ((kL (kR ak)).sig a1)),(8,.d (ki.sig (a1.length:Int))),(9,.d (ki.sig v33)),(41,.d (kB.sig x42))]) (fun x42=>[.box 6 88 (L88 y35)]) ?_ ?_
   ·obtain⟨hp43,h⟩|⟨hp43,h⟩:=ik h
    ·exact rx (c1<|cr (oLdB (n:=0) (k:=1) u u u t3 tm) (s1 u)<|c12<|c4<|c1<|csU u u<|csU u u<|csU u u<|csU u u<|csU u u<|csU u u<|csU u u<|csU u u<|c2<|.nil)<|pJ1 _ (so h) (sb u) u
    ·obtain⟨hp44,h⟩|⟨hp44,h⟩:=ik h
     ·exact rx (c1<|cr (oLdB (n:=0) (k:=1) u u u t3 tm) (s1 u)<|c3<|crgB (dF hp43.1) u u (oLdB (n:=0) (k:=1) u u u t3 tm) (s1 u)<|c12<|c1<|csU u u<|csU u u<|csU u u<|csU u u<|csU u u<|csU u u<|csU u u<|csU u u<|c2<|.nil)<|pJ1 _ (so h) (sb u) u
     ·obtain⟨y45,hy45,h⟩:=bd h
      obtain⟨hp46,h⟩|⟨hp46,h⟩:=ik h
      ·exact rx (c1<|cr (oLdB (n:=0) (k:=1) u u u t3 tm) (s1 u)<|c3<|crgB (dF hp43.1) u u (oLdB (n:=0) (k:=1) u u u t3 tm) (s1 u)<|c4<|c1<|crgB (dF hp44.1) u u (oLdB (n:=0) (k:=2) u u u t3 tm) (s1 u)<|cgB (dF hp44.1) u u (oCall u (cc.ok hy45) b120 (oc tm (oc tm o0))) (s2 u u)<|c6<|csU u u<|csU u u<|csU u u<|csU u u<|csU u u<|csU u u<|csU u u<|csU u u<|c2<|.nil)<|pJ1 _ (so h) (sb u) u
      ·obtain⟨hp47,h⟩|⟨hp47,h⟩:=ik h
       ·obtain⟨hp48,h⟩|⟨hp48,h⟩:=ik h
        ·exact rx (c1<|cr (oLdB (n:=0) (k:=1) u u u t3 tm) (s1 u)<|c3<|crgB (dF hp43.1) u u (oLdB (n:=0) (k:=1) u u u t3 tm) (s1 u)<|c4<|c1<|crgB (dF hp44.1) u u (oLdB (n:=0) (k:=2) u u u t3 tm) (s1 u)<|cgB (dF hp44.1) u u (oCall u (cc.ok hy45) b120 (oc tm (oc tm o0))) (s2 u u)<|c4<|crgB (nb hp46.1) u u (oLdB (n:=0) (k:=0) u u u t4 tm) (s1 u)<|c2<|crgB hp47.1 u u (oLdB (n:=0) (k:=1) u u u t3 tm) (s1 u)<|c8<|.nil)<|pJ1 _ (so h) (sb u) u
        ·exact rx (c1<|cr (oLdB (n:=0) (k:=1) u u u t3 tm) (s1 u)<|c3<|crgB (dF hp43.1) u u (oLdB (n:=0) (k:=1) u u u t3 tm) (s1 u)<|c4<|c1<|crgB (dF hp44.1) u u (oLdB (n:=0) (k:=2) u u u t3 tm) (s1 u)<|cgB (dF hp44.1) u u (oCall u (cc.ok hy45) b120 (oc tm (oc tm o0))) (s2 u u)<|c4<|crgB (nb hp46.1) u u (oLdB (n:=0) (k:=0) u u u t4 tm) (s1 u)<|c2<|crgB hp47.1 u u (oLdB (n:=0) (k:=1) u u u t3 tm) (s1 u)<|c3<|crgB (dF hp48.1) u u (oLdB (n:=0) (k:=1) u u u t3 tm) (s1 u)<|c4<|.nil)<|pJ1 _ (so h) (sb u) u
       ·exact rx (c1<|cr (oLdB (n:=0) (k:=1) u u u t3 tm) (s1 u)<|c3<|crgB (dF hp43.1) u u (oLdB (n:=0) (k:=1) u u u t3 tm) (s1 u)<|c4<|c1<|crgB (dF hp44.1) u u (oLdB (n:=0) (k:=2) u u u t3 tm) (s1 u)<|cgB (dF hp44.1) u u (oCall u (cc.ok hy45) b120 (oc tm (oc tm o0))) (s2 u u)<|c4<|crgB (nb hp46.1) u u (oLdB (n:=0) (k:=0) u u u t4 tm) (s1 u)<|c4<|c1<|csU u u<|csU u u<|csU u u<|c3<|.nil)<|pJ1 _ (so h) (sb u) u
   ·rintro x42 rfl
    replace h:=hk2
    obtain⟨hp49,h⟩|⟨hp49,h⟩:=ik h
    ·refine wBT hp49.1 tm (s1 u)<|wSeq<|rx (c1<|.nil)<|pSeq<|wRet<|pBlkR<|pThenR<|pThenR<|pBlkR<|pThenR ?_
     obtain rfl:=so h
     replace h:=hk1
     refine pThenR ?_
     obtain rfl:=so h
     exact pR1 (.inl u) u (.tmp u<|.nil)
    ·exact wBF hp49.1 tm (s1 u)<|wSkip<|pBlkN<|pSeq<|rx (c2<|.nil)<|pDrop (.cons _ .slnil)<|pLoop (lW (ih _ h) ⟨u,u,u,u,u,tv⟩ u)
  ·exact wCF hp34.1 tm (s1 u)<|wExit<|pThenX<|pThenX<|pBlkX<|pJ0 (so h) (sb u) u
 ·rintro rfl
  replace h:=hk1
  refine pSeq<|wSeq<|rx (c4<|.nil)<|pSeq<|wRet ?_
  obtain rfl:=so h
  exact pR1 (.inl u) u (.tmp u<|.nil)
theorem cu.ok{a0:ab} {a1:aa} {r:Bool}(h:cu.f a0 a1=some r):FnA PP 73 [(kR aj).sig a0,(kR ae).sig a1] (kB.sig r):=by
 refine fnIntro Tryz.func73 u (by kernel_rfl) fun H0 w0=>?_
 unfold cu.f at h
 refine wSeq<|rx (c3<|.nil)<|pSeq<|wSeq ?_
 obtain⟨o1,h,hk1⟩:=bd h
 refine wJ1 (fun x6=>x6=o1) (fun x6=>[(2,.d (sP (kR aj) a0)),(3,.d (sP (kR ae) a1)),(29,.d (kB.sig x6))]) (fun x6=>[]) ?_ ?_
 ·obtain⟨y7,hy7,h⟩:=bd h
  obtain⟨hp8,h⟩|⟨hp8,h⟩:=ik h
  ·exact rx (c3<|cC (bT.ok hy7)<|c12<|c8<|c1<|.nil)<|pJ1 _ (so h) (sb u) u
  ·obtain⟨hp9,h⟩|⟨hp9,h⟩:=ik h
   ·exact rx (c3<|cC (bT.ok hy7)<|c12<|c8<|c1<|.nil)<|pJ1 _ (so h) (sb u) u
   ·obtain⟨hp10,h⟩|⟨hp10,h⟩:=ik h
    ·exact rx (c3<|cC (bT.ok hy7)<|c12<|c8<|c1<|.nil)<|pJ1 _ (so h) (sb u) u
    ·obtain⟨y11,hy11,h⟩:=bd h
     exact rx (c3<|cC (bT.ok hy7)<|c12<|c6<|cgB (dF hp10.1) u u (oCall u (cc.ok hy11) b120 (oc tm (oc tm o0))) (s2 u u)<|c2<|.nil)<|pJ1 _ (so h) (sb u) u
 ·rintro x6 rfl
  replace h:=hk1
  obtain⟨hp12,h⟩|⟨hp12,h⟩:=ik h
  ·refine wBT hp12.1 tm (s1 u)<|wSeq<|rx (c1<|.nil)<|pSeq<|wRet<|pThenR ?_
   obtain rfl:=so h
   exact pR1 (.inl u) u (.tmp u<|.nil)
  ·refine wBF hp12.1 tm (s1 u)<|wSkip<|pSeq ?_
   obtain⟨o1,h,hk1⟩:=bd h
   refine wJ1 (fun x20=>x20=o1) (fun x20=>[(4,.d (kB.sig x20))]) (fun x20=>[]) ?_ ?_
   ·obtain⟨y21,hy21,h⟩:=bd h
    obtain⟨hp22,h⟩|⟨hp22,h⟩:=ik h
    ·obtain⟨hp23,h⟩|⟨hp23,h⟩:=ik h
     ·obtain⟨y24,hy24,h⟩:=bd h
      obtain⟨hp25,h⟩|⟨hp25,h⟩:=ik h
      ·obtain⟨y26,hy26,h⟩:=bd h
       obtain⟨hp27,h⟩|⟨hp27,h⟩:=ik h
       ·exact rx (c3<|cC (bD.ok hy21)<|c8<|c2<|cgB (dT hp23.1) u u (oCall u (cd.ok hy24) b122 (oc tm (oc tm o0))) (s2 u u)<|c4<|c1<|cgB hp25.1 u u (oCall u (bD.ok hy26) b121 (oc tm (oc tm o0))) (s2 u u)<|c8<|.nil)<|pJ1 _ (so h) (sb u) u
       ·exact rx (c3<|cC (bD.ok hy21)<|c8<|c2<|cgB (dT hp23.1) u u (oCall u (cd.ok hy24) b122 (oc tm (oc tm o0))) (s2 u u)<|c4<|c1<|cgB hp25.1 u u (oCall u (bD.ok hy26) b121 (oc tm (oc tm o0))) (s2 u u)<|c8<|.nil)<|pJ1 _ (so h) (sb u) u
      ·exact rx (c3<|cC (bD.ok hy21)<|c8<|c2<|cgB (dT hp23.1) u u (oCall u (cd.ok hy24) b122 (oc tm (oc tm o0))) (s2 u u)<|c12<|c2<|.nil)<|pJ1 _ (so h) (sb u) u
     ·exact rx (c3<|cC (bD.ok hy21)<|c12<|c12<|c1<|.nil)<|pJ1 _ (so h) (sb u) u
    ·exact rx (c3<|cC (bD.ok hy21)<|c12<|c12<|c1<|.nil)<|pJ1 _ (so h) (sb u) u
   ·rintro x20 rfl
    replace h:=hk1
    refine wRet ?_
    obtain rfl:=so h
    exact pR1 (.inl u) u (.tmp u<|.nil)
theorem eS.ok{a0:ab} {a1:aZ} {a2:aa} {r:Int}(h:eS.f a0 a1 a2=some r):FnA PP 31 [(kR aj).sig a0,(kR aL).sig a1,(kR ae).sig a2] (ki.sig r):=by
 refine fnIntro Tryz.func31 u (by kernel_rfl) fun H0 w0=>?_
 unfold eS.f at h
 refine wSeq<|rx (c4<|.nil)<|pSeq<|wSeq ?_
 obtain⟨y1,hy1,h⟩:=bd h
 refine rx (c1<|cC (bk.ok hy1)<|c1<|.nil)<|pSeq<|wSeq<|wSeq<|rx (c2<|.nil)<|pSeq ?_
 obtain⟨hp2,h⟩|⟨hp2,h⟩:=ik h
 ·refine wNT hp2.1 tm (s1 u)<|wSkip<|pSeq<|wSeq<|wSeq ?_
  obtain⟨y3,hy3,h⟩:=bd h
  refine rx (c1<|cC (b9.ok hy3)<|cp (oField (fs:=cH) (k:=1) u ff137_1 t39 tm) (s1 u)<|c1<|.nil)<|pSeq ?_
  obtain⟨hp4,h⟩|⟨hp4,h⟩:=ik h
  ·refine wNT hp4.1 tm (s1 u)<|wSkip<|pSeq<|wSeq<|wSeq ?_
   obtain⟨y5,hy5,h⟩:=bd h
   refine rx (c2<|cC (cu.ok hy5)<|c1<|.nil)<|pSeq ?_
   obtain⟨hp6,h⟩|⟨hp6,h⟩:=ik h
   ·refine wBT hp6.1 tm (s1 u)<|wSeq<|rx (c1<|.nil)<|pSeq<|wRet<|pThenR ?_
    obtain rfl:=so h
    exact pR1 (.inl u) u (.tmp u<|.nil)
   ·refine wBF hp6.1 tm (s1 u)<|wSkip<|pSeq<|wSeq<|rx (c1<|.nil)<|pSeq<|wRet ?_
    obtain rfl:=so h
    exact pR1 (.inl u) u (.tmp u<|.nil)
  ·refine wNF hp4.1 tm (s1 u)<|wSeq ?_
   obtain⟨y7,hy7,h⟩:=bd h
   refine rx (c1<|cC (b9.ok hy7)<|cp (oField (fs:=cH) (k:=1) u ff137_1 t39 tm) (s1 u)<|c1<|.nil)<|pSeq<|wRet<|pThenR ?_
   obtain rfl:=so h
   exact pR1 (.inl u) u (.tmp u<|.nil)
 ·refine wNF hp2.1 tm (s1 u)<|wSeq<|rx (c2<|.nil)<|pSeq<|wRet<|pThenR ?_
  obtain rfl:=so h
  exact pR1 (.inl u) u (.tmp u<|.nil)
theorem eJ.ok{a0:ab} {a1:aZ} {a2:aa} {a3:Int} {r:Int}(h:eJ.f a0 a1 a2 a3=some r):FnA PP 15 [(kR aj).sig a0,(kR aL).sig a1,(kR ae).sig a2,ki.sig a3] (ki.sig r):=by
 refine fnIntro Tryz.func15 u (by kernel_rfl) fun H0 w0=>?_
 unfold eJ.f at h
 refine wSeq<|rx (c4<|.nil)<|pSeq<|wSeq ?_
 obtain⟨y1,hy1,h⟩:=bd h
 refine rx (c3<|cC (eS.ok hy1)<|c1<|.nil)<|pSeq<|wSeq ?_
 obtain⟨o1,h,hk1⟩:=bd h
 refine wJ1 (fun x4=>x4=o1) (fun x4=>[(9,.d (ki.sig y1)),(23,.d (kB.sig x4))]) (fun x4=>[]) ?_ ?_
 ·obtain⟨hp5,h⟩|⟨hp5,h⟩:=ik h
  ·obtain⟨hp6,h⟩|⟨hp6,h⟩:=ik h
   ·exact rx (c8<|c2<|.nil)<|pJ1 _ (so h) (sb u) u
   ·exact rx (c8<|c2<|.nil)<|pJ1 _ (so h) (sb u) u
  ·exact rx (c6<|csU u u<|csU u u<|c2<|.nil)<|pJ1 _ (so h) (sb u) u
 ·rintro x4 rfl
  replace h:=hk1
  obtain⟨hp7,h⟩|⟨hp7,h⟩:=ik h
  ·refine wBT hp7.1 tm (s1 u)<|wSeq<|rx (c1<|.nil)<|pSeq<|wRet<|pThenR ?_
   obtain rfl:=so h
   exact pR1 (.inl u) u (.tmp u<|.nil)
  ·refine wBF hp7.1 tm (s1 u)<|wSkip<|pSeq<|wSeq<|rx (c2<|.nil)<|pSeq<|wRet ?_
   obtain rfl:=so h
   exact pR1 (.inl u) u (.tmp u<|.nil)
theorem gt.ok{r:aZ}(h:gt.f=some r):FnA PP 22 [] ((kR aL).sig r):=by
 refine fnIntro Tryz.func22 u (by kernel_rfl) fun H0 w0=>?_
 unfold gt.f at h
 refine wSeq<|rx (cw (oAlloc (id:=0) (ls:=[.d (kL (kR aJ)) []]) ze28 (fun g=>⟨[(.slice none 0 0)],_,u,zL g.H,u⟩)) tv<|.nil)<|pSeq<|wSeq<|rx (cp (oLit (d:=ki) el56 (by decide) u u u (e1 (cI (by decide)) e0)) tv<|cp (oLit (d:=ki) el56 (by decide) u u u (e1 (cI (by decide)) e0)) tv<|cp (oLit (d:=ki) el56 (by decide) u u u (e1 (cI (by decide)) e0)) tv<|c3<|.nil)<|pSeq<|wSeq<|rx (cp (oLit (d:=ki) el56 (by decide) u u u (e1 (cI (by decide)) (e1 (cI (by decide)) (e1 (cI (by decide)) e0)))) tv<|c1<|.nil)<|pSeq<|wSeq<|rx (cp (oLit (d:=ki) el56 (by decide) u u u (e1 (cI (by decide)) (e1 (cI (by decide)) (e1 (cI (by decide)) e0)))) tv<|c1<|.nil)<|pSeq<|wSeq<|rx (c3<|cp (oBuild (fs:=aJ) (u:=⟨([1]:List Int),([6]:List Int),([8]:List Int)⟩) u ze58 pl58 po58 (.op (zc:=[(.slice none 0 0)]) tm u (.op (zc:=[(.slice none 0 0)]) tm u (.op (zc:=[(.slice none 0 0)]) tm u .nil)))) (s3 u u u)<|cw (oAlloc (id:=6) (ls:=Z58) ze58 zl58) tv<|cwn (oStA (n:=0) (fs:=aJ) u u z58 tm tm) (s2 u u)<|.nil)<|pSeq<|wSeq<|rx (c3<|cp (oBuild (fs:=aJ) (u:=⟨([1]:List Int),([9,10,12]:List Int),([8]:List Int)⟩) u ze58 pl58 po58 (.op (zc:=[(.slice none 0 0)]) tm u (.op (zc:=[(.slice none 0 0)]) tm u (.op (zc:=[(.slice none 0 0)]) tm u .nil)))) (s3 u u u)<|cw (oAlloc (id:=7) (ls:=Z58) ze58 zl58) tv<|cwn (oStA (n:=0) (fs:=aJ) u u z58 tm tm) (s2 u u)<|.nil)<|pSeq<|wSeq<|rx (c3<|cp (oBuild (fs:=aJ) (u:=⟨([1]:List Int),([6]:List Int),([9,8,12]:List Int)⟩) u ze58 pl58 po58 (.op (zc:=[(.slice none 0 0)]) tm u (.op (zc:=[(.slice none 0 0)]) tm u (.op (zc:=[(.slice none 0 0)]) tm u .nil)))) (s3 u u u)<|cw (oAlloc (id:=8) (ls:=Z58) ze58 zl58) tv<|cwn (oStA (n:=0) (fs:=aJ) u u z58 tm tm) (s2 u u)<|.nil)<|pSeq<|wSeq<|rx (cr (oLdA (n:=2) (fs:=aJ) (u:=⟨([1]:List Int),([6]:List Int),([8]:List Int)⟩) u ⟨u,u,u,tv⟩ t58 tm) (s1 u)<|c1<|cp (oLit (d:=ki) el56 (by decide) u u u (e1 (cI (by decide)) e0)) tv<|c1<|cp (oBuild (fs:=aJ) (u:=⟨([1]:List Int),([9]:List Int),([8]:List Int)⟩) u ze58 pl58 po58 (.op (zc:=[(.slice none 0 0)]) tm u (.op (zc:=[(.slice none 0 0)]) tm u (.op (zc:=[(.slice none 0 0)]) tm u .nil)))) (s3 u u u)<|cr (oLdA (n:=2) (fs:=aJ) (u:=⟨([1]:List Int),([6]:List Int),([8]:List Int)⟩) u ⟨u,u,u,tv⟩ t58 tm) (s1 u)<|cr (oLdA (n:=1) (fs:=aJ) (u:=⟨([1]:List Int),([9,10,12]:List Int),([8]:List Int)⟩) u ⟨u,u,u,tv⟩ t58 tm) (s1 u)<|cr (oLdA (n:=1) (fs:=aJ) (u:=⟨([1]:List Int),([9,10,12]:List Int),([8]:List Int)⟩) u ⟨u,u,u,tv⟩ t58 tm) (s1 u)<|cr (oLdA (n:=1) (fs:=aJ) (u:=⟨([1]:List Int),([9,10,12]:List Int),([8]:List Int)⟩) u ⟨u,u,u,tv⟩ t58 tm) (s1 u)<|cp (oLit (d:=ki) el56 (by decide) u u u (e1 (cI (by decide)) (e1 (cI (by decide)) (e1 (cI (by decide)) (e1 (cI (by decide)) (e1 (cI (by decide)) e0)))))) tv<|cp (oLit (d:=ki) el56 (by decide) u u u (e1 (cI (by decide)) (e1 (cI (by decide)) (e1 (cI (by decide)) (e1 (cI (by decide)) (e1 (cI (by decide)) e0)))))) tv<|c1<|cp (oBuild (fs:=aJ) (u:=⟨([9,8,12,11,5]:List Int),([9,10,12,8,12]:List Int),([8]:List Int)⟩) u ze58 pl58 po58 (.op (zc:=[(.slice none 0 0)]) tm u (.op (zc:=[(.slice none 0 0)]) tm u (.op (zc:=[(.slice none 0 0)]) tm u .nil)))) (s3 u u u)<|cr (oLdA (n:=0) (fs:=aJ) (u:=⟨([1]:List Int),([6]:List Int),([9,8,12]:List Int)⟩) u ⟨u,u,u,tv⟩ t58 tm) (s1 u)<|cr (oLdA (n:=0) (fs:=aJ) (u:=⟨([1]:List Int),([6]:List Int),([9,8,12]:List Int)⟩) u ⟨u,u,u,tv⟩ t58 tm) (s1 u)<|cr (oLdA (n:=0) (fs:=aJ) (u:=⟨([1]:List Int),([6]:List Int),([9,8,12]:List Int)⟩) u ⟨u,u,u,tv⟩ t58 tm) (s1 u)<|c2<|cp (oLit (d:=ki) el56 (by decide) u u u (e1 (cI (by decide)) e0)) tv<|cp (oBuild (fs:=aJ) (u:=⟨([1]:List Int),([9,8,12]:List Int),([10]:List Int)⟩) u ze58 pl58 po58 (.op (zc:=[(.slice none 0 0)]) tm u (.op (zc:=[(.slice none 0 0)]) tm u (.op (zc:=[(.slice none 0 0)]) tm u .nil)))) (s3 u u u)<|c3<|cp (oBuild (fs:=aJ) (u:=⟨([1]:List Int),([9,8,12]:List Int),([8]:List Int)⟩) u ze58 pl58 po58 (.op (zc:=[(.slice none 0 0)]) tm u (.op (zc:=[(.slice none 0 0)]) tm u (.op (zc:=[(.slice none 0 0)]) tm u .nil)))) (s3 u u u)<|cr (oLdA (n:=2) (fs:=aJ) (u:=⟨([1]:List Int),([6]:List Int),([8]:List Int)⟩) u ⟨u,u,u,tv⟩ t58 tm) (s1 u)<|cp (oLit (d:=(kR aJ)) el26 (by decide) u u u (e1 tm (e1 tm (e1 tm (e1 tm (e1 tm (e1 tm (e1 tm (e1 tm (e1 tm (e1 tm (e1 tm (e1 tm (e1 tm e0)))))))))))))) ⟨u,u,u,u,u,u,u,u,u,u,u,u,u,tv⟩<|cp (oBuild (fs:=aL) (u:=⟨([(⟨([1]:List Int),([6]:List Int),([8]:List Int)⟩:aE),(⟨([1]:List Int),([9]:List Int),([8]:List Int)⟩:aE),(⟨([1]:List Int),([6]:List Int),([8]:List Int)⟩:aE),(⟨([1]:List Int),([9,10,12]:List Int),([8]:List Int)⟩:aE),(⟨([1]:List Int),([9,10,12]:List Int),([8]:List Int)⟩:aE),(⟨([1]:List Int),([9,10,12]:List Int),([8]:List Int)⟩:aE),(⟨([9,8,12,11,5]:List Int),([9,10,12,8,12]:List Int),([8]:List Int)⟩:aE),(⟨([1]:List Int),([6]:List Int),([9,8,12]:List Int)⟩:aE),(⟨([1]:List Int),([6]:List Int),([9,8,12]:List Int)⟩:aE),(⟨([1]:List Int),([6]:List Int),([9,8,12]:List Int)⟩:aE),(⟨([1]:List Int),([9,8,12]:List Int),([10]:List Int)⟩:aE),(⟨([1]:List Int),([9,8,12]:List Int),([8]:List Int)⟩:aE),(⟨([1]:List Int),([6]:List Int),([8]:List Int)⟩:aE)]:List aE)⟩) u ze28 pl28 po28 (.op (zc:=[(.slice none 0 0)]) tm u .nil)) (s1 u)<|cwn (oStA (n:=3) (fs:=aL) u u z28 tm tm) (s2 u u)<|.nil)<|pSeq<|wRet ?_
 obtain rfl:=so h
 exact pR1 (.inl u) u (.box (n:=3) (fs:=aL) (u:=⟨([(⟨([1]:List Int),([6]:List Int),([8]:List Int)⟩:aE),(⟨([1]:List Int),([9]:List Int),([8]:List Int)⟩:aE),(⟨([1]:List Int),([6]:List Int),([8]:List Int)⟩:aE),(⟨([1]:List Int),([9,10,12]:List Int),([8]:List Int)⟩:aE),(⟨([1]:List Int),([9,10,12]:List Int),([8]:List Int)⟩:aE),(⟨([1]:List Int),([9,10,12]:List Int),([8]:List Int)⟩:aE),(⟨([9,8,12,11,5]:List Int),([9,10,12,8,12]:List Int),([8]:List Int)⟩:aE),(⟨([1]:List Int),([6]:List Int),([9,8,12]:List Int)⟩:aE),(⟨([1]:List Int),([6]:List Int),([9,8,12]:List Int)⟩:aE),(⟨([1]:List Int),([6]:List Int),([9,8,12]:List Int)⟩:aE),(⟨([1]:List Int),([9,8,12]:List Int),([10]:List Int)⟩:aE),(⟨([1]:List Int),([9,8,12]:List Int),([8]:List Int)⟩:aE),(⟨([1]:List Int),([6]:List Int),([8]:List Int)⟩:aE)]:List aE)⟩) u u ⟨u,tv⟩ t28<|.nil)
theorem eg.ok{a0:ap} {a1:ap} {r:Bool}(h:eg.f a0 a1=some r):FnA PP 78 [(kR ao).sig a0,(kR ao).sig a1] (kB.sig r):=by
 refine fnIntro Tryz.func78 u (by kernel_rfl) fun H0 w0=>?_
 unfold eg.f at h
 refine wSeq<|rx (c3<|.nil)<|pSeq ?_
 obtain⟨o1,h,hk1⟩:=bd h
 refine wJ1 (fun x3=>x3=o1) (fun x3=>[(4,.d (kB.sig x3))]) (fun x3=>[]) ?_ ?_
 ·obtain⟨hp4,h⟩|⟨hp4,h⟩:=ik h
  ·obtain⟨hp5,h⟩|⟨hp5,h⟩:=ik h
   ·exact rx (c12<|c6<|.nil)<|pJ1 _ (so h) (sb u) u
   ·exact rx (c12<|c6<|.nil)<|pJ1 _ (so h) (sb u) u
  ·exact rx (c8<|c2<|csU u u<|csU u u<|csU u u<|csU u u<|csU u u<|c3<|.nil)<|pJ1 _ (so h) (sb u) u
 ·rintro x3 rfl
  replace h:=hk1
  refine wRet ?_
  obtain rfl:=so h
  exact pR1 (.inl u) u (.tmp u<|.nil)
theorem eh.ok{a0:ap} {r:Int}(h:eh.f a0=some r):FnA PP 79 [(kR ao).sig a0] (ki.sig r):=by
 refine fnIntro Tryz.func79 u (by kernel_rfl) fun H0 w0=>?_
 unfold eh.f at h
 refine wSeq<|rx (c2<|.nil)<|pSeq<|wSeq<|rx (c3<|.nil)<|pSeq<|wRet ?_
 obtain rfl:=so h
 exact pR1 (.inl u) u (.tmp u<|.nil)
theorem er.ok{a0:ap} {a1:ap} {r:Bool}(h:er.f a0 a1=some r):FnA PP 80 [(kR ao).sig a0,(kR ao).sig a1] (kB.sig r):=by
 refine fnIntro Tryz.func80 u (by kernel_rfl) fun H0 w0=>?_
 unfold er.f at h
 refine wSeq<|rx (c3<|.nil)<|pSeq<|wSeq<|rx (c6<|.nil)<|pSeq<|wRet ?_
 obtain rfl:=so h
 exact pR1 (.inl u) u (.tmp u<|.nil)
theorem dR.ok{r:dx}(h:dR.f=some r):FnA PP 43 [] ((kR dc).sig r):=by
 refine fnIntro Tryz.func43 u (by kernel_rfl) fun H0 w0=>?_
 unfold dR.f at h
 refine wSeq<|rx (cw (oAlloc (id:=0) (ls:=Z98) ze98 zl98) tv<|.nil)<|pSeq<|wSeq<|rx (cp (oBuild (fs:=dc) (u:=⟨(some eg.f),(some eh.f),(some er.f)⟩) u ze98 pl98 po98 (.op (zc:=[.nilFunc]) (oSome (oFn b78 (rl2n eg.ok))) u (.op (zc:=[.nilFunc]) (oSome (oFn b79 (rl1n eh.ok))) u (.op (zc:=[.nilFunc]) (oSome (oFn b80 (rl2n er.ok))) u .nil)))) tv<|cwn (oStA (n:=0) (fs:=dc) u u z98 tm tm) (s2 u u)<|.nil)<|pSeq<|wRet ?_
 obtain rfl:=so h
 exact pR1 (.inl u) u (.box (n:=0) (fs:=dc) (u:=⟨(some eg.f),(some eh.f),(some er.f)⟩) u u ⟨u,u,u,tv⟩ t98<|.nil)
theorem bi.ok{a0:dx} {a1:List (List ap)} {r:List Int}(h:bi.f a0 a1=some r):FnA PP 42 [(kR dc).sig a0,(kL (kL (kR ao))).sig a1] ((kL ki).sig r):=by
 refine fnIntro Tryz.func42 u (by kernel_rfl) fun H0 w0=>?_
 unfold bi.f at h
 refine wSeq<|rx (c1<|cp (oAs cV) tv<|.nil)<|pSeq<|wSeq<|rx (cp (oAs cV) tv<|.nil)<|pSeq<|wSeq<|wSeq<|rx (c3<|.nil)<|pSeq<|wNil ki 3 1005 5 u u ?_
 obtain⟨o1,h,hk1⟩:=bd h
 refine wK1 (fun x43=>x43=o1) (fun x43=>[(5,.v 1005)]) (fun x43=>[.row 1005 3 ki x43]) ?_ ?_
 ·refine wBlock (wLoop ?_)
  refine lW (pc2 o1 (fun v41 v42=>[(2,.d (sP (kR dc) a0)),(5,.v 1005),(10,.d ((kL (kL (kR ao))).sig a1)),(11,.d (ki.sig (a1.length:Int))),(12,.d (ki.sig v42))]) (fun v41 v42=>[.row 1005 3 ki v41]) (bi.l2.partial_correctness a0 a1) ?_ _ _ h) ⟨u,u,u,u,u,tv⟩ u
  clear h
  intro f' ih v41 v42 h
  refine wSeq<|rx (c1<|.nil)<|pSeq<|wSeq ?_
  obtain⟨hp44,h⟩|⟨hp44,h⟩:=ik h
  ·refine wCT hp44.1 tm (s1 u)<|wSkip<|pSeq<|wSeq<|wBlock<|wSeq ?_
   obtain⟨y45,hy45,h⟩:=bd h
   refine rx (cp (oIdx u145 z31 hy45 tm tm) (s2 u u)<|c2<|.nil)<|pSeq<|wSeq<|rx (c3<|.nil)<|pSeq ?_
   obtain⟨o2,h,hk2⟩:=bd h
   refine wK1 (fun x58=>x58=o2) (fun x58=>[(2,.d (sP (kR dc) a0)),(5,.v 1005),(10,.d ((kL (kL (kR ao))).sig a1)),(11,.d (ki.sig (a1.length:Int))),(12,.d (ki.sig v42))]) (fun x58=>[.row 1005 3 ki x58]) ?_ ?_
   ·refine wBlock (wLoop ?_)
    refine lW (pc2 o2 (fun v56 v57=>[(2,.d (sP (kR dc) a0)),(5,.v 1005),(10,.d ((kL (kL (kR ao))).sig a1)),(11,.d (ki.sig (a1.length:Int))),(12,.d (ki.sig v42)),(16,.d ((kL (kR ao)).sig y45)),(17,.d (ki.sig (y45.length:Int))),(18,.d (ki.sig v57))]) (fun v56 v57=>[.row 1005 3 ki v56]) (bi.l3.partial_correctness a0 y45) ?_ _ _ h) ⟨u,u,u,u,u,u,u,u,tv⟩ u
    clear h
    intro f' ih v56 v57 h
    refine wSeq<|rx (c1<|.nil)<|pSeq<|wSeq ?_
    obtain⟨hp59,h⟩|⟨hp59,h⟩:=ik h
    ·refine wCT hp59.1 tm (s1 u)<|wSkip<|pSeq<|wSeq<|wBlock<|wSeq ?_
     obtain⟨y60,hy60,h⟩:=bd h
     refine rx (cp (oIdx u31 z73 hy60 tm tm) (s2 u u)<|c1<|cw (oAlloc (id:=9) (ls:=Z73) ze73 zl73) tv<|cwn (oStA (n:=0) (fs:=ao) u u z73 tm tm) (s2 u u)<|.nil)<|pSeq ?_
     obtain⟨y61,hy61,h⟩:=bd h
     obtain⟨y62,hy62,h⟩:=bd h
     obtain⟨hc63,h⟩:=ib h
     exact rx (c3<|cr (oLdA (n:=0) (fs:=ao) (u:=⟨y60.Op,y60.N,y60.L⟩) u ⟨u,u,u,tv⟩ t73 tm) (s1 u)<|cp (oCallV u (rl1i (f:=y61) hy62) (oGot hy61 tm) (oc tm o0)) (s2 u u)<|cp (oLit (d:=ki) el56 (by decide) u u u (e1 tm e0)) (s1 u)<|cw (oApp (n:=1) (id':=28) el56 (by decide) u (by decide) hc63 tm tm) (s2 u u)<|c1<|.nil)<|pBlkN<|pSeq<|rx (c2<|.nil)<|pDrop (.cons _ (.cons_cons _ .slnil))<|pSub (Γ':=[(2,.d (sP (kR dc) a0)),(5,.v 28),(10,.d ((kL (kL (kR ao))).sig a1)),(11,.d (ki.sig (a1.length:Int))),(12,.d (ki.sig v42)),(16,.d ((kL (kR ao)).sig y45)),(17,.d (ki.sig (y45.length:Int))),(18,.d (ki.sig (IntKind.i64.wrap (v57+1))))]) (sb u)<|pRen 28 1005 u<|pLoop (lW (ih _ _ h) ⟨u,u,u,u,u,u,u,u,tv⟩ u)
    ·exact wCF hp59.1 tm (s1 u)<|wExit<|pThenX<|pThenX<|pBlkX<|pJ1 _ (so h) (sb u) u
   ·rintro x58 rfl
    replace h:=hk2
    exact pBlkN<|pSeq<|rx (c2<|.nil)<|pLoop (lW (ih _ _ h) ⟨u,u,u,u,u,tv⟩ u)
  ·exact wCF hp44.1 tm (s1 u)<|wExit<|pThenX<|pThenX<|pBlkX<|pJ1 _ (so h) (sb u) u
 ·rintro x43 rfl
  replace h:=hk1
  refine pSeq<|wSeq<|rx (c2<|.nil)<|pSeq<|wFrzR (n:=0) (id:=1005) [4] u u ⟨u,tv⟩<|wRet ?_
  obtain rfl:=so h
  exact pR1 (.inl u) u (.tmp u<|.nil)
theorem fD.ok{a0:am} {a1:am} {r:Bool}(h:fD.f a0 a1=some r):FnA PP 81 [(kR ai).sig a0,(kR ai).sig a1] (kB.sig r):=by
 refine fnIntro Tryz.func81 u (by kernel_rfl) fun H0 w0=>?_
 unfold fD.f at h
 refine wSeq<|rx (c3<|.nil)<|pSeq<|wSeq<|rx (c1<|.nil)<|pSeq<|wRet ?_
 obtain rfl:=so h
 exact pR1 (.inl u) u (.tmp u<|.nil)
theorem fE.ok{a0:am} {r:Int}(h:fE.f a0=some r):FnA PP 82 [(kR ai).sig a0] (ki.sig r):=by
 refine fnIntro Tryz.func82 u (by kernel_rfl) fun H0 w0=>?_
 unfold fE.f at h
 refine wSeq<|rx (c2<|.nil)<|pSeq<|wSeq<|rx (c3<|.nil)<|pSeq<|wRet ?_
 obtain rfl:=so h
 exact pR1 (.inl u) u (.tmp u<|.nil)
theorem fF.ok{a0:am} {a1:am} {r:Bool}(h:fF.f a0 a1=some r):FnA PP 83 [(kR ai).sig a0,(kR ai).sig a1] (kB.sig r):=by
 refine fnIntro Tryz.func83 u (by kernel_rfl) fun H0 w0=>?_
 unfold fF.f at h
 refine wSeq<|rx (c3<|.nil)<|pSeq<|wSeq<|rx (c6<|.nil)<|pSeq<|wRet ?_
 obtain rfl:=so h
 exact pR1 (.inl u) u (.tmp u<|.nil)
theorem fN.ok{r:dy}(h:fN.f=some r):FnA PP 45 [] ((kR dd).sig r):=by
 refine fnIntro Tryz.func45 u (by kernel_rfl) fun H0 w0=>?_
 unfold fN.f at h
 refine wSeq<|rx (cw (oAlloc (id:=0) (ls:=Z104) ze104 zl104) tv<|.nil)<|pSeq<|wSeq<|rx (cp (oBuild (fs:=dd) (u:=⟨(some fD.f),(some fE.f),(some fF.f)⟩) u ze104 pl104 po104 (.op (zc:=[.nilFunc]) (oSome (oFn b81 (rl2n fD.ok))) u (.op (zc:=[.nilFunc]) (oSome (oFn b82 (rl1n fE.ok))) u (.op (zc:=[.nilFunc]) (oSome (oFn b83 (rl2n fF.ok))) u .nil)))) tv<|cwn (oStA (n:=0) (fs:=dd) u u z104 tm tm) (s2 u u)<|.nil)<|pSeq<|wRet ?_
 obtain rfl:=so h
 exact pR1 (.inl u) u (.box (n:=0) (fs:=dd) (u:=⟨(some fD.f),(some fE.f),(some fF.f)⟩) u u ⟨u,u,u,tv⟩ t104<|.nil)
theorem bl.ok{a0:dy} {a1:List (List am)} {r:List Int}(h:bl.f a0 a1=some r):FnA PP 44 [(kR dd).sig a0,(kL (kL (kR ai))).sig a1] ((kL ki).sig r):=by
 refine fnIntro Tryz.func44 u (by kernel_rfl) fun H0 w0=>?_
 unfold bl.f at h
 refine wSeq<|rx (c1<|cp (oAs cV) tv<|.nil)<|pSeq<|wSeq<|rx (cp (oAs cV) tv<|.nil)<|pSeq<|wSeq<|wSeq<|rx (c3<|.nil)<|pSeq<|wNil ki 3 1005 5 u u ?_
 obtain⟨o1,h,hk1⟩:=bd h
 refine wK1 (fun x43=>x43=o1) (fun x43=>[(5,.v 1005)]) (fun x43=>[.row 1005 3 ki x43]) ?_ ?_
 ·refine wBlock (wLoop ?_)
  refine lW (pc2 o1 (fun v41 v42=>[(2,.d (sP (kR dd) a0)),(5,.v 1005),(10,.d ((kL (kL (kR ai))).sig a1)),(11,.d (ki.sig (a1.length:Int))),(12,.d (ki.sig v42))]) (fun v41 v42=>[.row 1005 3 ki v41]) (bl.l2.partial_correctness a0 a1) ?_ _ _ h) ⟨u,u,u,u,u,tv⟩ u
  clear h
  intro f' ih v41 v42 h
  refine wSeq<|rx (c1<|.nil)<|pSeq<|wSeq ?_
  obtain⟨hp44,h⟩|⟨hp44,h⟩:=ik h
  ·refine wCT hp44.1 tm (s1 u)<|wSkip<|pSeq<|wSeq<|wBlock<|wSeq ?_
   obtain⟨y45,hy45,h⟩:=bd h
   refine rx (cp (oIdx u146 z32 hy45 tm tm) (s2 u u)<|c2<|.nil)<|pSeq<|wSeq<|rx (c3<|.nil)<|pSeq ?_
   obtain⟨o2,h,hk2⟩:=bd h
   refine wK1 (fun x58=>x58=o2) (fun x58=>[(2,.d (sP (kR dd) a0)),(5,.v 1005),(10,.d ((kL (kL (kR ai))).sig a1)),(11,.d (ki.sig (a1.length:Int))),(12,.d (ki.sig v42))]) (fun x58=>[.row 1005 3 ki x58]) ?_ ?_
   ·refine wBlock (wLoop ?_)
    refine lW (pc2 o2 (fun v56 v57=>[(2,.d (sP (kR dd) a0)),(5,.v 1005),(10,.d ((kL (kL (kR ai))).sig a1)),(11,.d (ki.sig (a1.length:Int))),(12,.d (ki.sig v42)),(16,.d ((kL (kR ai)).sig y45)),(17,.d (ki.sig (y45.length:Int))),(18,.d (ki.sig v57))]) (fun v56 v57=>[.row 1005 3 ki v56]) (bl.l3.partial_correctness a0 y45) ?_ _ _ h) ⟨u,u,u,u,u,u,u,u,tv⟩ u
    clear h
    intro f' ih v56 v57 h
    refine wSeq<|rx (c1<|.nil)<|pSeq<|wSeq ?_
    obtain⟨hp59,h⟩|⟨hp59,h⟩:=ik h
    ·refine wCT hp59.1 tm (s1 u)<|wSkip<|pSeq<|wSeq<|wBlock<|wSeq ?_
     obtain⟨y60,hy60,h⟩:=bd h
     refine rx (cp (oIdx u32 z30 hy60 tm tm) (s2 u u)<|c1<|cw (oAlloc (id:=9) (ls:=Z30) ze30 zl30) tv<|cwn (oStA (n:=0) (fs:=ai) u u z30 tm tm) (s2 u u)<|.nil)<|pSeq ?_
     obtain⟨y61,hy61,h⟩:=bd h
     obtain⟨y62,hy62,h⟩:=bd h
     obtain⟨hc63,h⟩:=ib h
     exact rx (c3<|cr (oLdA (n:=0) (fs:=ai) (u:=⟨y60.V,y60.L⟩) u ⟨u,u,tv⟩ t30 tm) (s1 u)<|cp (oCallV u (rl1i (f:=y61) hy62) (oGot hy61 tm) (oc tm o0)) (s2 u u)<|cp (oLit (d:=ki) el56 (by decide) u u u (e1 tm e0)) (s1 u)<|cw (oApp (n:=1) (id':=28) el56 (by decide) u (by decide) hc63 tm tm) (s2 u u)<|c1<|.nil)<|pBlkN<|pSeq<|rx (c2<|.nil)<|pDrop (.cons _ (.cons_cons _ .slnil))<|pSub (Γ':=[(2,.d (sP (kR dd) a0)),(5,.v 28),(10,.d ((kL (kL (kR ai))).sig a1)),(11,.d (ki.sig (a1.length:Int))),(12,.d (ki.sig v42)),(16,.d ((kL (kR ai)).sig y45)),(17,.d (ki.sig (y45.length:Int))),(18,.d (ki.sig (IntKind.i64.wrap (v57+1))))]) (sb u)<|pRen 28 1005 u<|pLoop (lW (ih _ _ h) ⟨u,u,u,u,u,u,u,u,tv⟩ u)
    ·exact wCF hp59.1 tm (s1 u)<|wExit<|pThenX<|pThenX<|pBlkX<|pJ1 _ (so h) (sb u) u
   ·rintro x58 rfl
    replace h:=hk2
    exact pBlkN<|pSeq<|rx (c2<|.nil)<|pLoop (lW (ih _ _ h) ⟨u,u,u,u,u,tv⟩ u)
  ·exact wCF hp44.1 tm (s1 u)<|wExit<|pThenX<|pThenX<|pBlkX<|pJ1 _ (so h) (sb u) u
 ·rintro x43 rfl
  replace h:=hk1
  refine pSeq<|wSeq<|rx (c2<|.nil)<|pSeq<|wFrzR (n:=0) (id:=1005) [4] u u ⟨u,tv⟩<|wRet ?_
  obtain rfl:=so h
  exact pR1 (.inl u) u (.tmp u<|.nil)
theorem fG.ok{a0:al} {a1:al} {r:Bool}(h:fG.f a0 a1=some r):FnA PP 84 [(kR ak).sig a0,(kR ak).sig a1] (kB.sig r):=by
 refine fnIntro Tryz.func84 u (by kernel_rfl) fun H0 w0=>?_
 unfold fG.f at h
 refine wSeq<|rx (c3<|.nil)<|pSeq<|wSeq<|rx (c4<|cp (oBEq u4 u tm tm) (s2 u u)<|c1<|.nil)<|pSeq<|wRet ?_
 obtain rfl:=so h
 exact pR1 (.inl u) u (.tmp u<|.nil)
theorem fH.ok{a0:al} {r:Int}(h:fH.f a0=some r):FnA PP 85 [(kR ak).sig a0] (ki.sig r):=by
 refine fnIntro Tryz.func85 u (by kernel_rfl) fun H0 w0=>?_
 unfold fH.f at h
 refine wSeq<|rx (c2<|.nil)<|pSeq<|wSeq<|rx (c3<|.nil)<|pSeq<|wRet ?_
 obtain rfl:=so h
 exact pR1 (.inl u) u (.tmp u<|.nil)
theorem fJ.ok{a0:al} {a1:al} {r:Bool}(h:fJ.f a0 a1=some r):FnA PP 86 [(kR ak).sig a0,(kR ak).sig a1] (kB.sig r):=by
 refine fnIntro Tryz.func86 u (by kernel_rfl) fun H0 w0=>?_
 unfold fJ.f at h
 refine wSeq<|rx (c3<|.nil)<|pSeq<|wSeq<|rx (c6<|.nil)<|pSeq<|wRet ?_
 obtain rfl:=so h
 exact pR1 (.inl u) u (.tmp u<|.nil)
theorem fz.ok{r:dz}(h:fz.f=some r):FnA PP 47 [] ((kR de).sig r):=by
 refine fnIntro Tryz.func47 u (by kernel_rfl) fun H0 w0=>?_
 unfold fz.f at h
 refine wSeq<|rx (cw (oAlloc (id:=0) (ls:=Z110) ze110 zl110) tv<|.nil)<|pSeq<|wSeq<|rx (cp (oBuild (fs:=de) (u:=⟨(some fG.f),(some fH.f),(some fJ.f)⟩) u ze110 pl110 po110 (.op (zc:=[.nilFunc]) (oSome (oFn b84 (rl2n fG.ok))) u (.op (zc:=[.nilFunc]) (oSome (oFn b85 (rl1n fH.ok))) u (.op (zc:=[.nilFunc]) (oSome (oFn b86 (rl2n fJ.ok))) u .nil)))) tv<|cwn (oStA (n:=0) (fs:=de) u u z110 tm tm) (s2 u u)<|.nil)<|pSeq<|wRet ?_
 obtain rfl:=so h
 exact pR1 (.inl u) u (.box (n:=0) (fs:=de) (u:=⟨(some fG.f),(some fH.f),(some fJ.f)⟩) u u ⟨u,u,u,tv⟩ t110<|.nil)
theorem bm.ok{a0:dz} {a1:List (List al)} {r:List Int}(h:bm.f a0 a1=some r):FnA PP 46 [(kR de).sig a0,(kL (kL (kR ak))).sig a1] ((kL ki).sig r):=by
 refine fnIntro Tryz.func46 u (by kernel_rfl) fun H0 w0=>?_
 unfold bm.f at h
 refine wSeq<|rx (c1<|cp (oAs cV) tv<|.nil)<|pSeq<|wSeq<|rx (cp (oAs cV) tv<|.nil)<|pSeq<|wSeq<|wSeq<|rx (c3<|.nil)<|pSeq<|wNil ki 3 1005 5 u u ?_
 obtain⟨o1,h,hk1⟩:=bd h
 refine wK1 (fun x43=>x43=o1) (fun x43=>[(5,.v 1005)]) (fun x43=>[.row 1005 3 ki x43]) ?_ ?_
 ·refine wBlock (wLoop ?_)
  refine lW (pc2 o1 (fun v41 v42=>[(2,.d (sP (kR de) a0)),(5,.v 1005),(10,.d ((kL (kL (kR ak))).sig a1)),(11,.d (ki.sig (a1.length:Int))),(12,.d (ki.sig v42))]) (fun v41 v42=>[.row 1005 3 ki v41]) (bm.l2.partial_correctness a0 a1) ?_ _ _ h) ⟨u,u,u,u,u,tv⟩ u
  clear h
  intro f' ih v41 v42 h
  refine wSeq<|rx (c1<|.nil)<|pSeq<|wSeq ?_
  obtain⟨hp44,h⟩|⟨hp44,h⟩:=ik h
  ·refine wCT hp44.1 tm (s1 u)<|wSkip<|pSeq<|wSeq<|wBlock<|wSeq ?_
   obtain⟨y45,hy45,h⟩:=bd h
   refine rx (cp (oIdx u147 z33 hy45 tm tm) (s2 u u)<|c2<|.nil)<|pSeq<|wSeq<|rx (c3<|.nil)<|pSeq ?_
   obtain⟨o2,h,hk2⟩:=bd h
   refine wK1 (fun x58=>x58=o2) (fun x58=>[(2,.d (sP (kR de) a0)),(5,.v 1005),(10,.d ((kL (kL (kR ak))).sig a1)),(11,.d (ki.sig (a1.length:Int))),(12,.d (ki.sig v42))]) (fun x58=>[.row 1005 3 ki x58]) ?_ ?_
   ·refine wBlock (wLoop ?_)
    refine lW (pc2 o2 (fun v56 v57=>[(2,.d (sP (kR de) a0)),(5,.v 1005),(10,.d ((kL (kL (kR ak))).sig a1)),(11,.d (ki.sig (a1.length:Int))),(12,.d (ki.sig v42)),(16,.d ((kL (kR ak)).sig y45)),(17,.d (ki.sig (y45.length:Int))),(18,.d (ki.sig v57))]) (fun v56 v57=>[.row 1005 3 ki v56]) (bm.l3.partial_correctness a0 y45) ?_ _ _ h) ⟨u,u,u,u,u,u,u,u,tv⟩ u
    clear h
    intro f' ih v56 v57 h
    refine wSeq<|rx (c1<|.nil)<|pSeq<|wSeq ?_
    obtain⟨hp59,h⟩|⟨hp59,h⟩:=ik h
    ·refine wCT hp59.1 tm (s1 u)<|wSkip<|pSeq<|wSeq<|wBlock<|wSeq ?_
     obtain⟨y60,hy60,h⟩:=bd h
     refine rx (cp (oIdx u33 z88 hy60 tm tm) (s2 u u)<|c1<|cw (oAlloc (id:=9) (ls:=Z88) ze88 zl88) tv<|cwn (oStA (n:=0) (fs:=ak) u u z88 tm tm) (s2 u u)<|.nil)<|pSeq ?_
     obtain⟨y61,hy61,h⟩:=bd h
     obtain⟨y62,hy62,h⟩:=bd h
     obtain⟨hc63,h⟩:=ib h
     exact rx (c3<|cr (oLdA (n:=0) (fs:=ak) (u:=⟨y60.Ret,y60.V,y60.L⟩) u ⟨u,u,u,tv⟩ t88 tm) (s1 u)<|cp (oCallV u (rl1i (f:=y61) hy62) (oGot hy61 tm) (oc tm o0)) (s2 u u)<|cp (oLit (d:=ki) el56 (by decide) u u u (e1 tm e0)) (s1 u)<|cw (oApp (n:=1) (id':=28) el56 (by decide) u (by decide) hc63 tm tm) (s2 u u)<|c1<|.nil)<|pBlkN<|pSeq<|rx (c2<|.nil)<|pDrop (.cons _ (.cons_cons _ .slnil))<|pSub (Γ':=[(2,.d (sP (kR de) a0)),(5,.v 28),(10,.d ((kL (kL (kR ak))).sig a1)),(11,.d (ki.sig (a1.length:Int))),(12,.d (ki.sig v42)),(16,.d ((kL (kR ak)).sig y45)),(17,.d (ki.sig (y45.length:Int))),(18,.d (ki.sig (IntKind.i64.wrap (v57+1))))]) (sb u)<|pRen 28 1005 u<|pLoop (lW (ih _ _ h) ⟨u,u,u,u,u,u,u,u,tv⟩ u)
    ·exact wCF hp59.1 tm (s1 u)<|wExit<|pThenX<|pThenX<|pBlkX<|pJ1 _ (so h) (sb u) u
   ·rintro x58 rfl
    replace h:=hk2
    exact pBlkN<|pSeq<|rx (c2<|.nil)<|pLoop (lW (ih _ _ h) ⟨u,u,u,u,u,tv⟩ u)
  ·exact wCF hp44.1 tm (s1 u)<|wExit<|pThenX<|pThenX<|pBlkX<|pJ1 _ (so h) (sb u) u
 ·rintro x43 rfl
  replace h:=hk1
  refine pSeq<|wSeq<|rx (c2<|.nil)<|pSeq<|wFrzR (n:=0) (id:=1005) [4] u u ⟨u,tv⟩<|wRet ?_
  obtain rfl:=so h
  exact pR1 (.inl u) u (.tmp u<|.nil)
theorem eP.ok{a1:Int} {r:(List Int)}(h:eP.f a1=some r):FnS PP 77 [.d (sV (.slice none 0 0)),.d (ki.sig a1)] [] [] (.v 80000) [.row 80000 3 ki r]:=by
 refine fnIntroS Tryz.func77 u (by kernel_rfl) fun X H0 w0 pv=>?_
 unfold eP.f at h
 refine wSeq<|rx (cp (oAs cV) tv<|.nil)<|pSeq<|wSeq<|wSeq<|rx (c2<|.nil)<|pSeq ?_
 obtain⟨hp1,h⟩|⟨hp1,h⟩:=ik h
 ·refine wCT hp1.1 tm (s1 u) ?_
  cases h
 ·refine wCF hp1.1 tm (s1 u)<|wSkip<|pSeq<|wSeq<|wSeq<|rx (c2<|cp (oCapN u56 tm) (s1 u)<|c1<|cp (oLenL u56 (tmN (d:=ki))) (s1 u)<|c3<|.nil)<|pSeq<|wSeq<|rx (c2<|.nil)<|pSeq ?_
  obtain⟨hp2,h⟩|⟨hp2,h⟩:=ik h
  ·refine wCT hp2.1 tm (s1 u) ?_
   obtain⟨hc3,h⟩:=ib h
   obtain⟨hc4,h⟩:=ib h
   refine rx (c2<|cp (oCapN u56 tm) (s1 u)<|cp (oCutN u56 z3 u tm tm) (s2 u u)<|c1<|cw (oAppZ (id:=22) (d:=ki) el56 u3 (by decide) (by decide) ze3 zI_i64 hc3.1 hc3.2 tm tm) (s2 u u)<|c1<|cp (oLenL u56 (tmN (d:=ki))) (s1 u)<|cw (oCutR (n:=0) (id':=25) u56 z3 u hc4.1 hc4.2 tm tm) (s2 u u)<|c1<|.nil)<|pSeq<|wSeq<|rx (c2<|.nil)<|pSeq<|wRet ?_
   obtain rfl:=so h
   exact pSub (Γ':=[(4,.v 25)]) (sb u)<|pRen 25 80000 u<|pSv [0] u u (.inl u) u u
  ·refine wCF hp2.1 tm (s1 u)<|wSkip<|pSeq<|wSeq<|rx (c2<|.nil)<|pSeq<|wNil ki 3 9004 4 u u<|wRet ?_
   obtain rfl:=so h
   exact pSub (Γ':=[(4,.v 9004)]) (sb u)<|pRen 9004 80000 u<|pSv [0] u u (.inl u) u u
theorem bn.ok{a0:List (List Int)} {r:List Int}(h:bn.f a0=some r):FnA PP 41 [(kL (kL ki)).sig a0] ((kL ki).sig r):=by
 refine fnIntro Tryz.func41 u (by kernel_rfl) fun H0 w0=>?_
 unfold bn.f at h
 refine wSeq<|rx (cp (oAs cV) tv<|.nil)<|pSeq<|wSeq<|rx (c1<|.nil)<|pSeq<|wSeq<|wSeq<|rx (c3<|.nil)<|pSeq ?_
 obtain⟨o1,h,hk1⟩:=bd h
 refine wK1 (fun x15=>x15=o1) (fun x15=>[(0,.d ((kL (kL ki)).sig a0)),(3,.d (ki.sig x15))]) (fun x15=>[]) ?_ ?_
 ·refine wBlock (wLoop ?_)
  refine lW (pc2 o1 (fun v13 v14=>[(0,.d ((kL (kL ki)).sig a0)),(3,.d (ki.sig v14)),(9,.d ((kL (kL ki)).sig a0)),(10,.d (ki.sig (a0.length:Int))),(11,.d (ki.sig v13))]) (fun v13 v14=>[]) (bn.l0.partial_correctness a0) ?_ _ _ h) ⟨u,u,u,u,u,tv⟩ u
  clear h
  intro f' ih v13 v14 h
  refine wSeq<|rx (c1<|.nil)<|pSeq<|wSeq ?_
  obtain⟨hp16,h⟩|⟨hp16,h⟩:=ik h
  ·refine wCT hp16.1 tm (s1 u)<|wSkip<|pSeq ?_
   obtain⟨o2,h,hk2⟩:=bd h
   refine wJ1 (fun x19=>x19=o2) (fun x19=>[(0,.d ((kL (kL ki)).sig a0)),(3,.d (ki.sig x19)),(9,.d ((kL (kL ki)).sig a0)),(10,.d (ki.sig (a0.length:Int))),(11,.d (ki.sig v13))]) (fun x19=>[]) ?_ ?_
   ·refine wBlock<|wSeq ?_
    obtain⟨y20,hy20,h⟩:=bd h
    refine rx (cp (oIdx u143 z56 hy20 tm tm) (s2 u u)<|c2<|.nil)<|pSeq<|wSeq<|rx (c4<|c1<|.nil)<|pSeq<|wSeq<|rx (c2<|.nil)<|pSeq ?_
    obtain⟨hp21,h⟩|⟨hp21,h⟩:=ik h
    ·refine wCT hp21.1 tm (s1 u) ?_
     cases h
    ·exact wCF hp21.1 tm (s1 u)<|wSkip<|pBlkN<|pJ1 _ (so h) (sb u) u
   ·rintro x19 rfl
    replace h:=hk2
    exact rx (c2<|.nil)<|pLoop (lW (ih _ _ h) ⟨u,u,u,u,u,tv⟩ u)
  ·exact wCF hp16.1 tm (s1 u)<|wExit<|pThenX<|pThenX<|pBlkX<|pJ1 _ (so h) (sb u) u
 ·rintro x15 rfl
  replace h:=hk1
  refine pSeq<|wSeq ?_
  obtain⟨y22,hy22,h⟩:=bd h
  refine rx (c1<|cm (oCallS (rest:=[]) (R':=[.row 390040 3 ki y22]) (out':=.v 390040) [] [(80000,390040)] [] [] [0] u (eP.ok hy22) b77 (oE1 cV (oE1 tm oE0)) u u u u u u u u) (s1 u)<|c1<|.nil)<|pSeq<|wSeq<|wSeq<|rx (c3<|.nil)<|pSeq<|wWeak (Γ':=[(6,.v 390040),(25,.d ((kL (kL ki)).sig a0)),(26,.d (ki.sig (a0.length:Int))),(27,.d (ki.sig 0))]) (sb u)<|wRen 390040 1006 u ?_
  obtain⟨o1,h,hk1⟩:=bd h
  refine wK1 (fun x31=>x31=o1) (fun x31=>[(6,.v 1006)]) (fun x31=>[.row 1006 3 ki x31]) ?_ ?_
  ·refine wBlock (wLoop ?_)
   refine lW (pc2 o1 (fun v29 v30=>[(6,.v 1006),(25,.d ((kL (kL ki)).sig a0)),(26,.d (ki.sig (a0.length:Int))),(27,.d (ki.sig v30))]) (fun v29 v30=>[.row 1006 3 ki v29]) (bn.l1.partial_correctness a0) ?_ _ _ h) ⟨u,u,u,u,tv⟩ u
   clear h
   intro f' ih v29 v30 h
   refine wSeq<|rx (c1<|.nil)<|pSeq<|wSeq ?_
   obtain⟨hp32,h⟩|⟨hp32,h⟩:=ik h
   ·refine wCT hp32.1 tm (s1 u)<|wSkip<|pSeq<|wSeq<|wBlock<|wSeq ?_
    obtain⟨y33,hy33,h⟩:=bd h
    refine rx (cp (oIdx u143 z56 hy33 tm tm) (s2 u u)<|c2<|.nil)<|pSeq ?_
    obtain⟨hc34,h⟩:=ib h
    exact rx (c2<|cw (oApp (n:=0) (id':=33) el56 (by decide) u (by decide) hc34 tm tm) (s2 u u)<|c1<|.nil)<|pBlkN<|pSeq<|rx (c2<|.nil)<|pSub (Γ':=[(6,.v 33),(25,.d ((kL (kL ki)).sig a0)),(26,.d (ki.sig (a0.length:Int))),(27,.d (ki.sig (IntKind.i64.wrap (v30+1))))]) (sb u)<|pRen 33 1006 u<|pLoop (lW (ih _ _ h) ⟨u,u,u,u,tv⟩ u)
   ·exact wCF hp32.1 tm (s1 u)<|wExit<|pThenX<|pThenX<|pBlkX<|pJ1 _ (so h) (sb u) u
  ·rintro x31 rfl
   replace h:=hk1
   refine pSeq<|wSeq<|rx (c2<|.nil)<|pSeq<|wFrzR (n:=0) (id:=1006) [2] u u ⟨u,tv⟩<|wRet ?_
   obtain rfl:=so h
   exact pR1 (.inl u) u (.tmp u<|.nil)
theorem f8.ok{a0:Int} {a1:ab} {r:Bool}(h:f8.f a0 a1=some r):FnA PP 87 [ki.sig a0,sP (kR aj) a1] (kB.sig r):=by
 refine fnIntro Tryz.func87 u (by kernel_rfl) fun H0 w0=>?_
 unfold f8.f at h
 refine wSeq<|rx (c1<|.nil)<|pSeq ?_
 obtain⟨o1,h,hk1⟩:=bd h
 refine wJ1 (fun x2=>x2=o1) (fun x2=>[(3,.d (kB.sig x2))]) (fun x2=>[]) ?_ ?_
 ·obtain⟨hp3,h⟩|⟨hp3,h⟩:=ik h
  ·exact rx (c8<|c2<|.nil)<|pJ1 _ (so h) (sb u) u
  ·exact rx (c8<|c2<|.nil)<|pJ1 _ (so h) (sb u) u
 ·rintro x2 rfl
  replace h:=hk1
  refine wRet ?_
  obtain rfl:=so h
  exact pR1 (.inl u) u (.tmp u<|.nil)
theorem fX.ok{a0:ab} {a1:List Int} {r:Int}(h:fX.f a0 a1=some r):FnA PP 48 [(kR aj).sig a0,(kL ki).sig a1] (ki.sig r):=by
 refine fnIntro Tryz.func48 u (by kernel_rfl) fun H0 w0=>?_
 unfold fX.f at h
 refine wSeq<|rx (c2<|.nil)<|pSeq<|wSeq<|wSeq ?_
 obtain⟨y1,hy1,h⟩:=bd h
 refine rx (c1<|cC (bK.ok hy1)<|c1<|.nil)<|pSeq<|wSeq<|rx (c2<|.nil)<|pSeq ?_
 obtain⟨hp2,h⟩|⟨hp2,h⟩:=ik h
 ·refine wNT hp2.1 tm (s1 u)<|wSkip<|pSeq<|wSeq<|wSeq ?_
  obtain⟨y3,hy3,h⟩:=bd h
  refine rx (c1<|cp (oMkF (Rl:=rl1 ki kB (fun z0=>f8.f z0 a0)) u b87 (rl1e f8.ok) (oc tm o0)) (s1 u)<|cC (bH.ok hy3)<|.nil)<|pSeq ?_
  obtain⟨hp4,h⟩|⟨hp4,h⟩:=ik h
  ·refine wBT hp4.1 tm (s1 u)<|wSeq<|rx (c1<|.nil)<|pSeq<|wRet<|pThenR ?_
   obtain rfl:=so h
   exact pR1 (.inl u) u (.tmp u<|.nil)
  ·refine wBF hp4.1 tm (s1 u)<|wSkip<|pSeq<|wSeq<|rx (c1<|.nil)<|pSeq<|wRet ?_
   obtain rfl:=so h
   exact pR1 (.inl u) u (.tmp u<|.nil)
 ·refine wNF hp2.1 tm (s1 u)<|wSeq<|rx (c2<|.nil)<|pSeq<|wRet<|pThenR ?_
  obtain rfl:=so h
  exact pR1 (.inl u) u (.tmp u<|.nil)
theorem bw.ok{a0:bp} {a1:Int} {r:Bool}(h:bw.f a0 a1=some r):FnA PP 52 [(kR bC).sig a0,ki.sig a1] (kB.sig r):=by
 refine fnIntro Tryz.func52 u (by kernel_rfl) fun H0 w0=>?_
 unfold bw.f at h
 refine wSeq<|rx (c2<|.nil)<|pSeq<|wSeq ?_
 obtain⟨y1,hy1,h⟩:=bd h
 refine rx (c4<|c1<|cC (dq.ok hy1)<|c4<|c1<|.nil)<|pSeq<|wSeq<|rx (c2<|.nil)<|pSeq<|wRet ?_
 obtain rfl:=so h
 exact pR1 (.inl u) u (.tmp u<|.nil)
theorem aw.ok{a0:List ap} {a1:List ap} {a2:ap->ap->Option Bool} {r:Bool}(h:aw.f a0 a1 a2=some r):FnA PP 88 [(kL (kR ao)).sig a0,(kL (kR ao)).sig a1,(sFun PP (rl2 (kR ao) (kR ao) kB a2))] (kB.sig r):=by
 refine fnIntro Tryz.func88 u (by kernel_rfl) fun H0 w0=>?_
 unfold aw.f at h
 refine wSeq<|rx (c1<|.nil)<|pSeq<|wSeq<|wSeq<|rx (c4<|c1<|.nil)<|pSeq ?_
 obtain⟨hp1,h⟩|⟨hp1,h⟩:=ik h
 ·refine wNT hp1.1 tm (s1 u)<|wSkip<|pSeq<|wSeq<|wSeq<|rx (c3<|.nil)<|pSeq ?_
  obtain⟨o1,h,hk1⟩:=bd h
  refine wK0 (.inr ()=o1) ([]) ([]) ?_ ?_
  ·refine wBlock (wLoop ?_)
   refine lW (pc1 o1 (fun v12=>[(1,.d ((kL (kR ao)).sig a1)),(2,.d ((sFun PP (rl2 (kR ao) (kR ao) kB a2)))),(15,.d ((kL (kR ao)).sig a0)),(16,.d (ki.sig (a0.length:Int))),(17,.d (ki.sig v12))]) (fun v12=>[]) (aw.l0.partial_correctness a0 a1 a2) ?_ _ h) ⟨u,u,u,u,u,tv⟩ u
   clear h
   intro f' ih v12 h
   refine wSeq<|rx (c1<|.nil)<|pSeq<|wSeq ?_
   obtain⟨hp13,h⟩|⟨hp13,h⟩:=ik h
   ·refine wCT hp13.1 tm (s1 u)<|wSkip<|pSeq<|wSeq<|wBlock<|wSeq ?_
    obtain⟨y14,hy14,h⟩:=bd h
    refine rx (c1<|cp (oIdx u31 z73 hy14 tm tm) (s2 u u)<|c1<|cw (oAlloc (id:=8) (ls:=Z73) ze73 zl73) tv<|c1<|cwn (oStA (n:=0) (fs:=ao) u u z73 tm tm) (s2 u u)<|.nil)<|pSeq<|wSeq ?_
    obtain⟨y15,hy15,h⟩:=bd h
    refine rx (c2<|cp (oIdx u31 z73 hy15 tm tm) (s2 u u)<|c1<|cw (oAlloc (id:=9) (ls:=Z73) ze73 zl73) tv<|cwn (oStA (n:=0) (fs:=ao) u u z73 tm tm) (s2 u u)<|.nil)<|pSeq<|wSeq ?_
    obtain⟨y16,hy16,h⟩:=bd h
    refine rx (c1<|cr (oLdA (n:=1) (fs:=ao) (u:=⟨y14.Op,y14.N,y14.L⟩) u ⟨u,u,u,tv⟩ t73 tm) (s1 u)<|cr (oLdA (n:=0) (fs:=ao) (u:=⟨y15.Op,y15.N,y15.L⟩) u ⟨u,u,u,tv⟩ t73 tm) (s1 u)<|cp (oCallV u (rl2i (f:=a2) hy16) tm (oc tm (oc tm o0))) (s3 u u u)<|c1<|.nil)<|pSeq ?_
    obtain⟨hp17,h⟩|⟨hp17,h⟩:=ik h
    ·refine wBT hp17.1 tm (s1 u)<|wSeq<|rx (c1<|.nil)<|pSeq<|wRet<|pBlkR<|pThenR<|pThenR<|pBlkR<|pThenR ?_
     obtain rfl:=so h
     replace h:=hk1
     refine pThenR ?_
     obtain rfl:=so h
     exact pR1 (.inl u) u (.tmp u<|.nil)
    ·exact wBF hp17.1 tm (s1 u)<|wSkip<|pBlkN<|pSeq<|rx (c2<|.nil)<|pDrop (.cons _ (.cons _ .slnil))<|pLoop (lW (ih _ h) ⟨u,u,u,u,u,tv⟩ u)
   ·exact wCF hp13.1 tm (s1 u)<|wExit<|pThenX<|pThenX<|pBlkX<|pJ0 (so h) tv u
  ·rintro rfl
   replace h:=hk1
   refine pSeq<|wSeq<|rx (c1<|.nil)<|pSeq<|wRet ?_
   obtain rfl:=so h
   exact pR1 (.inl u) u (.tmp u<|.nil)
 ·refine wNF hp1.1 tm (s1 u)<|wSeq<|rx (c1<|.nil)<|pSeq<|wRet<|pThenR ?_
  obtain rfl:=so h
  exact pR1 (.inl u) u (.tmp u<|.nil)
theorem dw.ok{a0:ap} {a1:ap} {a2:dx} {a3:bp} {r:Bool}(h:dw.f a0 a1 a2 a3=some r):FnA PP 89 [(kR ao).sig a0,(kR ao).sig a1,sP (kR dc) a2,sP (kR bC) a3] (kB.sig r):=by
 refine fnIntro Tryz.func89 u (by kernel_rfl) fun H0 w0=>?_
 unfold dw.f at h
 refine wSeq<|rx (c3<|.nil)<|pSeq ?_
 obtain⟨o1,h,hk1⟩:=bd h
 refine wJ1 (fun x15=>x15=o1) (fun x15=>[(6,.d (kB.sig x15))]) (fun x15=>[]) ?_ ?_
 ·obtain⟨y16,hy16,h⟩:=bd h
  obtain⟨y17,hy17,h⟩:=bd h
  obtain⟨hp18,h⟩|⟨hp18,h⟩:=ik h
  ·obtain⟨y19,hy19,h⟩:=bd h
   obtain⟨y20,hy20,h⟩:=bd h
   obtain⟨y21,hy21,h⟩:=bd h
   obtain⟨y22,hy22,h⟩:=bd h
   obtain⟨hp23,h⟩|⟨hp23,h⟩:=ik h
   ·obtain⟨y24,hy24,h⟩:=bd h
    obtain⟨y25,hy25,h⟩:=bd h
    obtain⟨y26,hy26,h⟩:=bd h
    obtain⟨hp27,h⟩|⟨hp27,h⟩:=ik h
    ·exact rdx hm (c4<|cp (oCallV u (rl2i (f:=y16) hy17) (oGot hy16 tm) (oc tm (oc tm o0))) (s3 u u u)<|c4<|cgB hp18.1 u u (oCallV u (rl1i (f:=y19) hy20) (oGot hy19 tm) (oc tm o0)) (s2 u u)<|c3<|cgB hp18.1 u u (oCallV u (rl1i (f:=y21) hy22) (oGot hy21 tm) (oc tm o0)) (s2 u u)<|c6<|c1<|cgB (dT hp23.1) u u (oCallV u (rl1i (f:=y24) hy25) (oGot hy24 tm) (oc tm o0)) (s2 u u)<|cgB (dT hp23.1) u u (oCall u (bw.ok hy26) b52 (oc tm (oc tm o0))) (s2 u u)<|c8<|c2<|.nil)<|pJ1 _ (so h) (sb u) u
    ·obtain⟨y28,hy28,h⟩:=bd h
     obtain⟨y29,hy29,h⟩:=bd h
     exact rdx hm (c4<|cp (oCallV u (rl2i (f:=y16) hy17) (oGot hy16 tm) (oc tm (oc tm o0))) (s3 u u u)<|c4<|cgB hp18.1 u u (oCallV u (rl1i (f:=y19) hy20) (oGot hy19 tm) (oc tm o0)) (s2 u u)<|c3<|cgB hp18.1 u u (oCallV u (rl1i (f:=y21) hy22) (oGot hy21 tm) (oc tm o0)) (s2 u u)<|c6<|c1<|cgB (dT hp23.1) u u (oCallV u (rl1i (f:=y24) hy25) (oGot hy24 tm) (oc tm o0)) (s2 u u)<|cgB (dT hp23.1) u u (oCall u (bw.ok hy26) b52 (oc tm (oc tm o0))) (s2 u u)<|c6<|cgB (nb hp27.1) u u (oCallV u (rl2i (f:=y28) hy29) (oGot hy28 tm) (oc tm (oc tm o0))) (s3 u u u)<|c3<|.nil)<|pJ1 _ (so h) (sb u) u
   ·exact rdx hm (c4<|cp (oCallV u (rl2i (f:=y16) hy17) (oGot hy16 tm) (oc tm (oc tm o0))) (s3 u u u)<|c4<|cgB hp18.1 u u (oCallV u (rl1i (f:=y19) hy20) (oGot hy19 tm) (oc tm o0)) (s2 u u)<|c3<|cgB hp18.1 u u (oCallV u (rl1i (f:=y21) hy22) (oGot hy21 tm) (oc tm o0)) (s2 u u)<|c8<|c3<|csU u u<|csU u u<|csU u u<|csU u u<|csU u u<|c3<|.nil)<|pJ1 _ (so h) (sb u) u
  ·exact rdx hm (c4<|cp (oCallV u (rl2i (f:=y16) hy17) (oGot hy16 tm) (oc tm (oc tm o0))) (s3 u u u)<|c12<|c8<|csU u u<|csU u u<|csU u u<|csU u u<|csU u u<|c3<|.nil)<|pJ1 _ (so h) (sb u) u
 ·rintro x15 rfl
  replace h:=hk1
  refine wRet ?_
  obtain rfl:=so h
  exact pR1 (.inl u) u (.tmp u<|.nil)
theorem du.ok{a0:bp} {a1:dx} {a2:List ap} {a3:List ap} {r:Bool}(h:du.f a0 a1 a2 a3=some r):FnA PP 49 [(kR bC).sig a0,(kR dc).sig a1,(kL (kR ao)).sig a2,(kL (kR ao)).sig a3] (kB.sig r):=by
 refine fnIntro Tryz.func49 u (by kernel_rfl) fun H0 w0=>?_
 unfold du.f at h
 refine wSeq<|rx (c3<|.nil)<|pSeq<|wSeq ?_
 obtain⟨y1,hy1,h⟩:=bd h
 refine rx (c2<|cp (oMkF (Rl:=rl2 (kR ao) (kR ao) kB (fun z0 z1=>dw.f z0 z1 a1 a0)) u b89 (rl2e dw.ok) (oc tm (oc tm o0))) (s2 u u)<|cC (aw.ok hy1)<|c1<|.nil)<|pSeq<|wRet ?_
 obtain rfl:=so h
 exact pR1 (.inl u) u (.tmp u<|.nil)
theorem aB.ok{a0:List am} {a1:List am} {a2:am->am->Option Bool} {r:Bool}(h:aB.f a0 a1 a2=some r):FnA PP 90 [(kL (kR ai)).sig a0,(kL (kR ai)).sig a1,(sFun PP (rl2 (kR ai) (kR ai) kB a2))] (kB.sig r):=by
 refine fnIntro Tryz.func90 u (by kernel_rfl) fun H0 w0=>?_
 unfold aB.f at h
 refine wSeq<|rx (c1<|.nil)<|pSeq<|wSeq<|wSeq<|rx (c4<|c1<|.nil)<|pSeq ?_
 obtain⟨hp1,h⟩|⟨hp1,h⟩:=ik h
 ·refine wNT hp1.1 tm (s1 u)<|wSkip<|pSeq<|wSeq<|wSeq<|rx (c3<|.nil)<|pSeq ?_
  obtain⟨o1,h,hk1⟩:=bd h
  refine wK0 (.inr ()=o1) ([]) ([]) ?_ ?_
  ·refine wBlock (wLoop ?_)
   refine lW (pc1 o1 (fun v12=>[(1,.d ((kL (kR ai)).sig a1)),(2,.d ((sFun PP (rl2 (kR ai) (kR ai) kB a2)))),(15,.d ((kL (kR ai)).sig a0)),(16,.d (ki.sig (a0.length:Int))),(17,.d (ki.sig v12))]) (fun v12=>[]) (aB.l0.partial_correctness a0 a1 a2) ?_ _ h) ⟨u,u,u,u,u,tv⟩ u
   clear h
   intro f' ih v12 h
   refine wSeq<|rx (c1<|.nil)<|pSeq<|wSeq ?_
   obtain⟨hp13,h⟩|⟨hp13,h⟩:=ik h
   ·refine wCT hp13.1 tm (s1 u)<|wSkip<|pSeq<|wSeq<|wBlock<|wSeq ?_
    obtain⟨y14,hy14,h⟩:=bd h
    refine rx (c1<|cp (oIdx u32 z30 hy14 tm tm) (s2 u u)<|c1<|cw (oAlloc (id:=8) (ls:=Z30) ze30 zl30) tv<|c1<|cwn (oStA (n:=0) (fs:=ai) u u z30 tm tm) (s2 u u)<|.nil)<|pSeq<|wSeq ?_
    obtain⟨y15,hy15,h⟩:=bd h
    refine rx (c2<|cp (oIdx u32 z30 hy15 tm tm) (s2 u u)<|c1<|cw (oAlloc (id:=9) (ls:=Z30) ze30 zl30) tv<|cwn (oStA (n:=0) (fs:=ai) u u z30 tm tm) (s2 u u)<|.nil)<|pSeq<|wSeq ?_
    obtain⟨y16,hy16,h⟩:=bd h
    refine rx (c1<|cr (oLdA (n:=1) (fs:=ai) (u:=⟨y14.V,y14.L⟩) u ⟨u,u,tv⟩ t30 tm) (s1 u)<|cr (oLdA (n:=0) (fs:=ai) (u:=⟨y15.V,y15.L⟩) u ⟨u,u,tv⟩ t30 tm) (s1 u)<|cp (oCallV u (rl2i (f:=a2) hy16) tm (oc tm (oc tm o0))) (s3 u u u)<|c1<|.nil)<|pSeq ?_
    obtain⟨hp17,h⟩|⟨hp17,h⟩:=ik h
    ·refine wBT hp17.1 tm (s1 u)<|wSeq<|rx (c1<|.nil)<|pSeq<|wRet<|pBlkR<|pThenR<|pThenR<|pBlkR<|pThenR ?_
     obtain rfl:=so h
     replace h:=hk1
     refine pThenR ?_
     obtain rfl:=so h
     exact pR1 (.inl u) u (.tmp u<|.nil)
    ·exact wBF hp17.1 tm (s1 u)<|wSkip<|pBlkN<|pSeq<|rx (c2<|.nil)<|pDrop (.cons _ (.cons _ .slnil))<|pLoop (lW (ih _ h) ⟨u,u,u,u,u,tv⟩ u)
   ·exact wCF hp13.1 tm (s1 u)<|wExit<|pThenX<|pThenX<|pBlkX<|pJ0 (so h) tv u
  ·rintro rfl
   replace h:=hk1
   refine pSeq<|wSeq<|rx (c1<|.nil)<|pSeq<|wRet ?_
   obtain rfl:=so h
   exact pR1 (.inl u) u (.tmp u<|.nil)
 ·refine wNF hp1.1 tm (s1 u)<|wSeq<|rx (c1<|.nil)<|pSeq<|wRet<|pThenR ?_
  obtain rfl:=so h
  exact pR1 (.inl u) u (.tmp u<|.nil)
theorem dB.ok{a0:am} {a1:am} {a2:dy} {a3:bp} {r:Bool}(h:dB.f a0 a1 a2 a3=some r):FnA PP 91 [(kR ai).sig a0,(kR ai).sig a1,sP (kR dd) a2,sP (kR bC) a3] (kB.sig r):=by
 refine fnIntro Tryz.func91 u (by kernel_rfl) fun H0 w0=>?_
 unfold dB.f at h
 refine wSeq<|rx (c3<|.nil)<|pSeq ?_
 obtain⟨o1,h,hk1⟩:=bd h
 refine wJ1 (fun x15=>x15=o1) (fun x15=>[(6,.d (kB.sig x15))]) (fun x15=>[]) ?_ ?_
 ·obtain⟨y16,hy16,h⟩:=bd h
  obtain⟨y17,hy17,h⟩:=bd h
  obtain⟨hp18,h⟩|⟨hp18,h⟩:=ik h
  ·obtain⟨y19,hy19,h⟩:=bd h
   obtain⟨y20,hy20,h⟩:=bd h
   obtain⟨y21,hy21,h⟩:=bd h
   obtain⟨y22,hy22,h⟩:=bd h
   obtain⟨hp23,h⟩|⟨hp23,h⟩:=ik h
   ·obtain⟨y24,hy24,h⟩:=bd h
    obtain⟨y25,hy25,h⟩:=bd h
    obtain⟨y26,hy26,h⟩:=bd h
    obtain⟨hp27,h⟩|⟨hp27,h⟩:=ik h
    ·exact rdx hm (c4<|cp (oCallV u (rl2i (f:=y16) hy17) (oGot hy16 tm) (oc tm (oc tm o0))) (s3 u u u)<|c4<|cgB hp18.1 u u (oCallV u (rl1i (f:=y19) hy20) (oGot hy19 tm) (oc tm o0)) (s2 u u)<|c3<|cgB hp18.1 u u (oCallV u (rl1i (f:=y21) hy22) (oGot hy21 tm) (oc tm o0)) (s2 u u)<|c6<|c1<|cgB (dT hp23.1) u u (oCallV u (rl1i (f:=y24) hy25) (oGot hy24 tm) (oc tm o0)) (s2 u u)<|cgB (dT hp23.1) u u (oCall u (bw.ok hy26) b52 (oc tm (oc tm o0))) (s2 u u)<|c8<|c2<|.nil)<|pJ1 _ (so h) (sb u) u
    ·obtain⟨y28,hy28,h⟩:=bd h
     obtain⟨y29,hy29,h⟩:=bd h
     exact rdx hm (c4<|cp (oCallV u (rl2i (f:=y16) hy17) (oGot hy16 tm) (oc tm (oc tm o0))) (s3 u u u)<|c4<|cgB hp18.1 u u (oCallV u (rl1i (f:=y19) hy20) (oGot hy19 tm) (oc tm o0)) (s2 u u)<|c3<|cgB hp18.1 u u (oCallV u (rl1i (f:=y21) hy22) (oGot hy21 tm) (oc tm o0)) (s2 u u)<|c6<|c1<|cgB (dT hp23.1) u u (oCallV u (rl1i (f:=y24) hy25) (oGot hy24 tm) (oc tm o0)) (s2 u u)<|cgB (dT hp23.1) u u (oCall u (bw.ok hy26) b52 (oc tm (oc tm o0))) (s2 u u)<|c6<|cgB (nb hp27.1) u u (oCallV u (rl2i (f:=y28) hy29) (oGot hy28 tm) (oc tm (oc tm o0))) (s3 u u u)<|c3<|.nil)<|pJ1 _ (so h) (sb u) u
   ·exact rdx hm (c4<|cp (oCallV u (rl2i (f:=y16) hy17) (oGot hy16 tm) (oc tm (oc tm o0))) (s3 u u u)<|c4<|cgB hp18.1 u u (oCallV u (rl1i (f:=y19) hy20) (oGot hy19 tm) (oc tm o0)) (s2 u u)<|c3<|cgB hp18.1 u u (oCallV u (rl1i (f:=y21) hy22) (oGot hy21 tm) (oc tm o0)) (s2 u u)<|c8<|c3<|csU u u<|csU u u<|csU u u<|csU u u<|csU u u<|c3<|.nil)<|pJ1 _ (so h) (sb u) u
  ·exact rdx hm (c4<|cp (oCallV u (rl2i (f:=y16) hy17) (oGot hy16 tm) (oc tm (oc tm o0))) (s3 u u u)<|c12<|c8<|csU u u<|csU u u<|csU u u<|csU u u<|csU u u<|c3<|.nil)<|pJ1 _ (so h) (sb u) u
 ·rintro x15 rfl
  replace h:=hk1
  refine wRet ?_
  obtain rfl:=so h
  exact pR1 (.inl u) u (.tmp u<|.nil)
theorem dH.ok{a0:bp} {a1:dy} {a2:List am} {a3:List am} {r:Bool}(h:dH.f a0 a1 a2 a3=some r):FnA PP 50 [(kR bC).sig a0,(kR dd).sig a1,(kL (kR ai)).sig a2,(kL (kR ai)).sig a3] (kB.sig r):=by
 refine fnIntro Tryz.func50 u (by kernel_rfl) fun H0 w0=>?_
 unfold dH.f at h
 refine wSeq<|rx (c3<|.nil)<|pSeq<|wSeq ?_
 obtain⟨y1,hy1,h⟩:=bd h
 refine rx (c2<|cp (oMkF (Rl:=rl2 (kR ai) (kR ai) kB (fun z0 z1=>dB.f z0 z1 a1 a0)) u b91 (rl2e dB.ok) (oc tm (oc tm o0))) (s2 u u)<|cC (aB.ok hy1)<|c1<|.nil)<|pSeq<|wRet ?_
 obtain rfl:=so h
 exact pR1 (.inl u) u (.tmp u<|.nil)
theorem bq.ok{a0:List am} {a1:List am} {r:Bool}(h:bq.f a0 a1=some r):FnA PP 93 [(kL (kR ai)).sig a0,(kL (kR ai)).sig a1] (kB.sig r):=by
 refine fnIntro Tryz.func93 u (by kernel_rfl) fun H0 w0=>?_
 unfold bq.f at h
 refine wSeq<|rx (c1<|.nil)<|pSeq<|wSeq<|wSeq<|rx (c4<|c1<|.nil)<|pSeq ?_
 obtain⟨hp1,h⟩|⟨hp1,h⟩:=ik h
 ·refine wNT hp1.1 tm (s1 u)<|wSkip<|pSeq<|wSeq<|wSeq<|rx (c3<|.nil)<|pSeq ?_
  obtain⟨o1,h,hk1⟩:=bd h
  refine wK0 (.inr ()=o1) ([]) ([]) ?_ ?_
  ·refine wBlock (wLoop ?_)
   refine lW (pc1 o1 (fun v10=>[(0,.d ((kL (kR ai)).sig a0)),(1,.d ((kL (kR ai)).sig a1)),(12,.d (ki.sig (a0.length:Int))),(13,.d (ki.sig v10))]) (fun v10=>[]) (bq.l0.partial_correctness a0 a1) ?_ _ h) ⟨u,u,u,u,tv⟩ u
   clear h
   intro f' ih v10 h
   refine wSeq<|rx (c1<|.nil)<|pSeq<|wSeq ?_
   obtain⟨hp11,h⟩|⟨hp11,h⟩:=ik h
   ·refine wCT hp11.1 tm (s1 u)<|wSkip<|pSeq<|wSeq<|wBlock<|wSeq<|rx (c2<|.nil)<|pSeq<|wSeq ?_
    obtain⟨y12,hy12,h⟩:=bd h
    obtain⟨y13,hy13,h⟩:=bd h
    refine rdx hm (c2<|cp (oIdx u32 z30 hy12 tm tm) (s2 u u)<|c3<|cp (oIdx u32 z30 hy13 tm tm) (s2 u u)<|c1<|cp (oRNe eqk30 u eg30 u tm tm) (s2 u u)<|.nil)<|pSeq ?_
    obtain⟨hp14,h⟩|⟨hp14,h⟩:=ik h
    ·exact wNT hp14.1 tm (s1 u)<|wSkip<|pBlkN<|pSeq<|rx (c2<|.nil)<|pLoop (lW (ih _ h) ⟨u,u,u,u,tv⟩ u)
    ·refine wNF hp14.1 tm (s1 u)<|wSeq<|rx (c1<|.nil)<|pSeq<|wRet<|pBlkR<|pThenR<|pThenR<|pBlkR<|pThenR ?_
     obtain rfl:=so h
     replace h:=hk1
     refine pThenR ?_
     obtain rfl:=so h
     exact pR1 (.inl u) u (.tmp u<|.nil)
   ·exact wCF hp11.1 tm (s1 u)<|wExit<|pThenX<|pThenX<|pBlkX<|pJ0 (so h) tv u
  ·rintro rfl
   replace h:=hk1
   refine pSeq<|wSeq<|rx (c1<|.nil)<|pSeq<|wRet ?_
   obtain rfl:=so h
   exact pR1 (.inl u) u (.tmp u<|.nil)
 ·refine wNF hp1.1 tm (s1 u)<|wSeq<|rx (c1<|.nil)<|pSeq<|wRet<|pThenR ?_
  obtain rfl:=so h
  exact pR1 (.inl u) u (.tmp u<|.nil)
theorem eY.ok{a0:am} {a1:bp} {r:Bool}(h:eY.f a0 a1=some r):FnA PP 92 [(kR ai).sig a0,sP (kR bC) a1] (kB.sig r):=by
 refine fnIntro Tryz.func92 u (by kernel_rfl) fun H0 w0=>?_
 unfold eY.f at h
 refine wSeq<|rx (c2<|.nil)<|pSeq<|wSeq ?_
 obtain⟨y1,hy1,h⟩:=bd h
 refine rx (c3<|cC (bw.ok hy1)<|c2<|.nil)<|pSeq<|wRet ?_
 obtain rfl:=so h
 exact pR1 (.inl u) u (.tmp u<|.nil)
theorem aI.ok{a0:List am} {a1:am->Option Bool} {r:(List am)}(h:aI.f a0 a1=some r):FnS PP 94 [.v 90000,.d ((sFun PP (rl1 (kR ai) kB a1)))] [.row 90000 30 (kR ai) a0] [] (.d ((kL (kR ai)).sig r)) []:=by
 refine fnIntroS Tryz.func94 u (by kernel_rfl) fun X H0 w0 pv=>?_
 unfold aI.f at h
 refine wSeq<|rx (cp (oAs cV) tv<|.nil)<|pSeq<|wSeq ?_
 obtain⟨y1,hy1,h⟩:=bd h
 refine rx (c2<|cr (oCallB u (aF.ok hy1) (fK fI) b126 (rc1 (rR (n:=0) u) (rc1 (rD tm) rn0))) (s2 u u)<|c1<|.nil)<|pSeq<|wSeq<|wSeq<|rx (c2<|.nil)<|pSeq ?_
 obtain⟨hp2,h⟩|⟨hp2,h⟩:=ik h
 ·refine wCT hp2.1 tm (s1 u)<|wSeq<|rx (c2<|.nil)<|pSeq<|wFrzR (n:=0) (id:=90000) [4] u u ⟨u,tv⟩<|wRet<|pThenR ?_
  obtain rfl:=so h
  exact pS1 [] u u (.inl u) u (.tmp u<|.nil)
 ·refine wCF hp2.1 tm (s1 u)<|wSkip<|pSeq<|wSeq<|wSeq<|rx (c3<|.nil)<|pSeq<|wWeak (Γ':=[(0,.v 90000),(1,.d ((sFun PP (rl1 (kR ai) kB a1)))),(5,.d (ki.sig y1)),(6,.d (ki.sig (IntKind.i64.wrap (y1+1))))]) (sb u)<|wRen 90000 1000 u ?_
  obtain⟨o1,h,hk1⟩:=bd h
  refine wK2 (fun x28 x29=>(x28,x29)=o1) (fun x28 x29=>[(0,.v 1000),(5,.d (ki.sig x29))]) (fun x28 x29=>[.row 1000 30 (kR ai) x28]) ?_ ?_
  ·refine wBlock (wLoop ?_)
   refine lW (pc3 o1 (fun v25 v26 v27=>[(0,.v 1000),(1,.d ((sFun PP (rl1 (kR ai) kB a1)))),(5,.d (ki.sig v26)),(6,.d (ki.sig v27))]) (fun v25 v26 v27=>[.row 1000 30 (kR ai) v25]) (aI.l0.partial_correctness a1) ?_ _ _ _ h) ⟨u,u,u,u,tv⟩ u
   clear h
   intro f' ih v25 v26 v27 h
   refine wSeq<|wSeq<|rx (c2<|cr (oLenR (n:=0) u32 u tm) (s1 u)<|c1<|.nil)<|pSeq ?_
   obtain⟨hp30,h⟩|⟨hp30,h⟩:=ik h
   ·refine wCT hp30.1 tm (s1 u)<|wSkip<|pSeq ?_
    obtain⟨o2,h,hk2⟩:=bd h
    refine wJ2 (fun x35 x36=>(x35,x36)=o2) (fun x35 x36=>[(0,.v 1000),(1,.d ((sFun PP (rl1 (kR ai) kB a1)))),(5,.d (ki.sig x36)),(6,.d (ki.sig v27))]) (fun x35 x36=>[.row 1000 30 (kR ai) x35]) ?_ ?_
    ·refine wBlock<|wSeq ?_
     obtain⟨y37,hy37,h⟩:=bd h
     refine rx (c2<|cr (oIdxR (n:=0) u32 z30 u hy37 tm tm) (s2 u u)<|cr (oLdE (n:=0) u hy37 u t30 tm) (s1 u)<|cw (oAlloc (id:=7) (ls:=Z30) ze30 zl30) tv<|cwn (oStA (n:=0) (fs:=ai) u u z30 tm tm) (s2 u u)<|.nil)<|pSeq<|wSeq ?_
     obtain⟨y38,hy38,h⟩:=bd h
     refine rx (c1<|cr (oLdA (n:=0) (fs:=ai) (u:=⟨y37.V,y37.L⟩) u ⟨u,u,tv⟩ t30 tm) (s1 u)<|cp (oCallV u (rl1i (f:=a1) hy38) tm (oc tm o0)) (s2 u u)<|c1<|.nil)<|pSeq ?_
     obtain⟨hp39,h⟩|⟨hp39,h⟩:=ik h
     ·refine wBT hp39.1 tm (s1 u)<|wSeq ?_
      obtain⟨y40,hy40,h⟩:=bd h
      exact rx (c2<|cr (oLdA (n:=0) (fs:=ai) (u:=⟨y37.V,y37.L⟩) u ⟨u,u,tv⟩ t30 tm) (s1 u)<|cr (oIdxR (n:=1) u32 z30 u hy40 tm tm) (s2 u u)<|cwn (oStE (n:=1) u hy40 u z30 tm tm) (s2 u u)<|.nil)<|pSeq<|rx (c3<|.nil)<|pBlkN<|pDrop (.cons _ (.cons_cons _ .slnil))<|pJ2 _ _ (so h) (sb u) u
     ·exact wBF hp39.1 tm (s1 u)<|wSkip<|pBlkN<|pDrop (.cons _ (.cons_cons _ .slnil))<|pJ2 _ _ (so h) (sb u) u
    ·rintro x35 x36 rfl
     replace h:=hk2
     exact rx (c3<|.nil)<|pLoop (lW (ih _ _ _ h) ⟨u,u,u,u,tv⟩ u)
   ·exact wCF hp30.1 tm (s1 u)<|wExit<|pThenX<|pThenX<|pBlkX<|pJ2 _ _ (so h) (sb u) u
  ·rintro x28 x29 rfl
   replace h:=hk1
   refine pSeq<|wSeq ?_
   obtain⟨hc41,h⟩:=ib h
   refine rx (c2<|cr (oSlT (n:=0) u32 z30 u hc41.1 hc41.2 tm tm) (s2 u u)<|cwn (oClr (n:=0) u32 ze30 fy (by decide) u (by have:=hc41;omega) tm) (s1 u)<|.nil)<|pSeq<|wSeq ?_
   obtain⟨hc42,h⟩:=ib h
   refine rx (c2<|cw (oCutR (n:=0) (id':=41) u32 z30 u hc42.1 hc42.2 tm tm) (s2 u u)<|c1<|.nil)<|pSeq<|wFrzR (n:=0) (id:=41) [4] u u ⟨u,tv⟩<|wRet ?_
   obtain rfl:=so h
   exact pS1 [] u u (.inl u) u (.tmp u<|.nil)
theorem fR.ok{a0:bp} {a1:List am} {a2:List am} {r:Bool}(h:fR.f a0 a1 a2=some r):FnA PP 51 [(kR bC).sig a0,(kL (kR ai)).sig a1,(kL (kR ai)).sig a2] (kB.sig r):=by
 refine fnIntro Tryz.func51 u (by kernel_rfl) fun H0 w0=>?_
 unfold fR.f at h
 refine wSeq<|rx (c2<|.nil)<|pSeq<|wSeq<|rx (cp (oMkF (Rl:=rl1 (kR ai) kB (fun z0=>eY.f z0 a0)) u b92 (rl1e eY.ok) (oc tm o0)) (s1 u)<|c1<|.nil)<|pSeq<|wSeq ?_
 obtain⟨y1,hy1,h⟩:=bd h
 obtain⟨y2,hy2,h⟩:=bd h
 obtain⟨y3,hy3,h⟩:=bd h
 obtain⟨y4,hy4,h⟩:=bd h
 obtain⟨y5,hy5,h⟩:=bd h
 refine rx (c1<|cm (oCallS (rest:=[]) (R':=[.row 320040 30 (kR ai) y1]) (out':=.v 320040) [] [(80000,320040)] [] [] [0] u (aQ.ok hy1) b95 (oE1 tm oE0) u u u u u u u u) (s1 u)<|c1<|cm (oCallS (rest:=[]) (R':=[]) (out':=.d ((kL (kR ai)).sig y2)) [(90000,320040)] [] [0] [] [] u (aI.ok hy2) b94 (oE1 tm (oE1 tm oE0)) u u u u u u u u) (s2 u u)<|c1<|cm (oCallS (rest:=[]) (R':=[.row 320200 30 (kR ai) y3]) (out':=.v 320200) [] [(80000,320200)] [] [] [0] u (aQ.ok hy3) b95 (oE1 tm oE0) u u u u u u u u) (s1 u)<|c1<|cm (oCallS (rest:=[]) (R':=[]) (out':=.d ((kL (kR ai)).sig y4)) [(90000,320200)] [] [0] [] [] u (aI.ok hy4) b94 (oE1 tm (oE1 tm oE0)) u u u u u u u u) (s2 u u)<|cC (bq.ok hy5)<|c1<|.nil)<|pSeq<|wRet ?_
 obtain rfl:=so h
 exact pR1 (.inl u) u (.tmp u<|.nil)
theorem aC.ok{a0:List al} {a1:List al} {a2:al->al->Option Bool} {r:Bool}(h:aC.f a0 a1 a2=some r):FnA PP 97 [(kL (kR ak)).sig a0,(kL (kR ak)).sig a1,(sFun PP (rl2 (kR ak) (kR ak) kB a2))] (kB.sig r):=by
 refine fnIntro Tryz.func97 u (by kernel_rfl) fun H0 w0=>?_
 unfold aC.f at h
 refine wSeq<|rx (c1<|.nil)<|pSeq<|wSeq<|wSeq<|rx (c4<|c1<|.nil)<|pSeq ?_
 obtain⟨hp1,h⟩|⟨hp1,h⟩:=ik h
 ·refine wNT hp1.1 tm (s1 u)<|wSkip<|pSeq<|wSeq<|wSeq<|rx (c3<|.nil)<|pSeq ?_
  obtain⟨o1,h,hk1⟩:=bd h
  refine wK0 (.inr ()=o1) ([]) ([]) ?_ ?_
  ·refine wBlock (wLoop ?_)
   refine lW (pc1 o1 (fun v12=>[(1,.d ((kL (kR ak)).sig a1)),(2,.d ((sFun PP (rl2 (kR ak) (kR ak) kB a2)))),(15,.d ((kL (kR ak)).sig a0)),(16,.d (ki.sig (a0.length:Int))),(17,.d (ki.sig v12))]) (fun v12=>[]) (aC.l0.partial_correctness a0 a1 a2) ?_ _ h) ⟨u,u,u,u,u,tv⟩ u
   clear h
   intro f' ih v12 h
   refine wSeq<|rx (c1<|.nil)<|pSeq<|wSeq ?_
   obtain⟨hp13,h⟩|⟨hp13,h⟩:=ik h
   ·refine wCT hp13.1 tm (s1 u)<|wSkip<|pSeq<|wSeq<|wBlock<|wSeq ?_
    obtain⟨y14,hy14,h⟩:=bd h
    refine rx (c1<|cp (oIdx u33 z88 hy14 tm tm) (s2 u u)<|c1<|cw (oAlloc (id:=8) (ls:=Z88) ze88 zl88) tv<|c1<|cwn (oStA (n:=0) (fs:=ak) u u z88 tm tm) (s2 u u)<|.nil)<|pSeq<|wSeq ?_
    obtain⟨y15,hy15,h⟩:=bd h
    refine rx (c2<|cp (oIdx u33 z88 hy15 tm tm) (s2 u u)<|c1<|cw (oAlloc (id:=9) (ls:=Z88) ze88 zl88) tv<|cwn (oStA (n:=0) (fs:=ak) u u z88 tm tm) (s2 u u)<|.nil)<|pSeq<|wSeq ?_
    obtain⟨y16,hy16,h⟩:=bd h
    refine rx (c1<|cr (oLdA (n:=1) (fs:=ak) (u:=⟨y14.Ret,y14.V,y14.L⟩) u ⟨u,u,u,tv⟩ t88 tm) (s1 u)<|cr (oLdA (n:=0) (fs:=ak) (u:=⟨y15.Ret,y15.V,y15.L⟩) u ⟨u,u,u,tv⟩ t88 tm) (s1 u)<|cp (oCallV u (rl2i (f:=a2) hy16) tm (oc tm (oc tm o0))) (s3 u u u)<|c1<|.nil)<|pSeq ?_
    obtain⟨hp17,h⟩|⟨hp17,h⟩:=ik h
    ·refine wBT hp17.1 tm (s1 u)<|wSeq<|rx (c1<|.nil)<|pSeq<|wRet<|pBlkR<|pThenR<|pThenR<|pBlkR<|pThenR ?_
     obtain rfl:=so h
     replace h:=hk1
     refine pThenR ?_
     obtain rfl:=so h
     exact pR1 (.inl u) u (.tmp u<|.nil)
    ·exact wBF hp17.1 tm (s1 u)<|wSkip<|pBlkN<|pSeq<|rx (c2<|.nil)<|pDrop (.cons _ (.cons _ .slnil))<|pLoop (lW (ih _ h) ⟨u,u,u,u,u,tv⟩ u)
   ·exact wCF hp13.1 tm (s1 u)<|wExit<|pThenX<|pThenX<|pBlkX<|pJ0 (so h) tv u
  ·rintro rfl
   replace h:=hk1
   refine pSeq<|wSeq<|rx (c1<|.nil)<|pSeq<|wRet ?_
   obtain rfl:=so h
   exact pR1 (.inl u) u (.tmp u<|.nil)
 ·refine wNF hp1.1 tm (s1 u)<|wSeq<|rx (c1<|.nil)<|pSeq<|wRet<|pThenR ?_
  obtain rfl:=so h
  exact pR1 (.inl u) u (.tmp u<|.nil)
theorem dC.ok{a0:al} {a1:al} {a2:dz} {a3:bp} {r:Bool}(h:dC.f a0 a1 a2 a3=some r):FnA PP 98 [(kR ak).sig a0,(kR ak).sig a1,sP (kR de) a2,sP (kR bC) a3] (kB.sig r):=by
 refine fnIntro Tryz.func98 u (by kernel_rfl) fun H0 w0=>?_
 unfold dC.f at h
 refine wSeq<|rx (c3<|.nil)<|pSeq ?_
 obtain⟨o1,h,hk1⟩:=bd h
 refine wJ1 (fun x15=>x15=o1) (fun x15=>[(6,.d (kB.sig x15))]) (fun x15=>[]) ?_ ?_
 ·obtain⟨y16,hy16,h⟩:=bd h
  obtain⟨y17,hy17,h⟩:=bd h
  obtain⟨hp18,h⟩|⟨hp18,h⟩:=ik h
  ·obtain⟨y19,hy19,h⟩:=bd h
   obtain⟨y20,hy20,h⟩:=bd h
   obtain⟨y21,hy21,h⟩:=bd h
   obtain⟨y22,hy22,h⟩:=bd h
   obtain⟨hp23,h⟩|⟨hp23,h⟩:=ik h
   ·obtain⟨y24,hy24,h⟩:=bd h
    obtain⟨y25,hy25,h⟩:=bd h
    obtain⟨y26,hy26,h⟩:=bd h
    obtain⟨hp27,h⟩|⟨hp27,h⟩:=ik h
    ·exact rdx hm (c4<|cp (oCallV u (rl2i (f:=y16) hy17) (oGot hy16 tm) (oc tm (oc tm o0))) (s3 u u u)<|c4<|cgB hp18.1 u u (oCallV u (rl1i (f:=y19) hy20) (oGot hy19 tm) (oc tm o0)) (s2 u u)<|c3<|cgB hp18.1 u u (oCallV u (rl1i (f:=y21) hy22) (oGot hy21 tm) (oc tm o0)) (s2 u u)<|c6<|c1<|cgB (dT hp23.1) u u (oCallV u (rl1i (f:=y24) hy25) (oGot hy24 tm) (oc tm o0)) (s2 u u)<|cgB (dT hp23.1) u u (oCall u (bw.ok hy26) b52 (oc tm (oc tm o0))) (s2 u u)<|c8<|c2<|.nil)<|pJ1 _ (so h) (sb u) u
    ·obtain⟨y28,hy28,h⟩:=bd h
     obtain⟨y29,hy29,h⟩:=bd h
     exact rdx hm (c4<|cp (oCallV u (rl2i (f:=y16) hy17) (oGot hy16 tm) (oc tm (oc tm o0))) (s3 u u u)<|c4<|cgB hp18.1 u u (oCallV u (rl1i (f:=y19) hy20) (oGot hy19 tm) (oc tm o0)) (s2 u u)<|c3<|cgB hp18.1 u u (oCallV u (rl1i (f:=y21) hy22) (oGot hy21 tm) (oc tm o0)) (s2 u u)<|c6<|c1<|cgB (dT hp23.1) u u (oCallV u (rl1i (f:=y24) hy25) (oGot hy24 tm) (oc tm o0)) (s2 u u)<|cgB (dT hp23.1) u u (oCall u (bw.ok hy26) b52 (oc tm (oc tm o0))) (s2 u u)<|c6<|cgB (nb hp27.1) u u (oCallV u (rl2i (f:=y28) hy29) (oGot hy28 tm) (oc tm (oc tm o0))) (s3 u u u)<|c3<|.nil)<|pJ1 _ (so h) (sb u) u
   ·exact rdx hm (c4<|cp (oCallV u (rl2i (f:=y16) hy17) (oGot hy16 tm) (oc tm (oc tm o0))) (s3 u u u)<|c4<|cgB hp18.1 u u (oCallV u (rl1i (f:=y19) hy20) (oGot hy19 tm) (oc tm o0)) (s2 u u)<|c3<|cgB hp18.1 u u (oCallV u (rl1i (f:=y21) hy22) (oGot hy21 tm) (oc tm o0)) (s2 u u)<|c8<|c3<|csU u u<|csU u u<|csU u u<|csU u u<|csU u u<|c3<|.nil)<|pJ1 _ (so h) (sb u) u
  ·exact rdx hm (c4<|cp (oCallV u (rl2i (f:=y16) hy17) (oGot hy16 tm) (oc tm (oc tm o0))) (s3 u u u)<|c12<|c8<|csU u u<|csU u u<|csU u u<|csU u u<|csU u u<|c3<|.nil)<|pJ1 _ (so h) (sb u) u
 ·rintro x15 rfl
  replace h:=hk1
  refine wRet ?_
  obtain rfl:=so h
  exact pR1 (.inl u) u (.tmp u<|.nil)
theorem dD.ok{a0:bp} {a1:dz} {a2:List al} {a3:List al} {r:Bool}(h:dD.f a0 a1 a2 a3=some r):FnA PP 53 [(kR bC).sig a0,(kR de).sig a1,(kL (kR ak)).sig a2,(kL (kR ak)).sig a3] (kB.sig r):=by
 refine fnIntro Tryz.func53 u (by kernel_rfl) fun H0 w0=>?_
 unfold dD.f at h
 refine wSeq<|rx (c3<|.nil)<|pSeq<|wSeq ?_
 obtain⟨y1,hy1,h⟩:=bd h
 refine rx (c2<|cp (oMkF (Rl:=rl2 (kR ak) (kR ak) kB (fun z0 z1=>dC.f z0 z1 a1 a0)) u b98 (rl2e dC.ok) (oc tm (oc tm o0))) (s2 u u)<|cC (aC.ok hy1)<|c1<|.nil)<|pSeq<|wRet ?_
 obtain rfl:=so h
 exact pR1 (.inl u) u (.tmp u<|.nil)
theorem dO.ok{a0:bp} {a1:List al} {r:List al}(h:dO.f a0 a1=some r):FnA PP 54 [(kR bC).sig a0,(kL (kR ak)).sig a1] ((kL (kR ak)).sig r):=by
 refine fnIntro Tryz.func54 u (by kernel_rfl) fun H0 w0=>?_
 unfold dO.f at h
 refine wSeq<|rx (c1<|cp (oAs cV) tv<|.nil)<|pSeq<|wSeq<|wSeq<|rx (c4<|.nil)<|pSeq ?_
 obtain⟨o1,h,hk1⟩:=bd h
 refine wK0 (.inr ()=o1) ([]) ([]) ?_ ?_
 ·refine wBlock (wLoop ?_)
  refine lW (pc1 o1 (fun v25=>[(1,.d ((kL (kR ak)).sig a1)),(2,.d (sP (kR bC) a0)),(5,.d (ki.sig v25))]) (fun v25=>[]) (dO.l0.partial_correctness a0 a1) ?_ _ h) ⟨u,u,u,tv⟩ u
  clear h
  intro f' ih v25 h
  refine wSeq<|wSeq<|rx (c2<|.nil)<|pSeq ?_
  obtain⟨hp26,h⟩|⟨hp26,h⟩:=ik h
  ·refine wCT hp26.1 tm (s1 u)<|wSkip<|pSeq<|wSeq<|wBlock ?_
   obtain⟨o2,h,hk2⟩:=bd h
   refine wJ1 (fun x31=>x31=o2) (fun x31=>[(1,.d ((kL (kR ak)).sig a1)),(2,.d (sP (kR bC) a0)),(5,.d (ki.sig v25)),(26,.d (kB.sig x31))]) (fun x31=>[]) ?_ ?_
   ·obtain⟨y32,hy32,h⟩:=bd h
    obtain⟨hp33,h⟩|⟨hp33,h⟩:=ik h
    ·obtain⟨y34,hy34,h⟩:=bd h
     obtain⟨y35,hy35,h⟩:=bd h
     exact rdx hm (c2<|cp (oIdx u33 z88 hy32 tm tm) (s2 u u)<|c6<|cgB hp33.1 u u (oIdx u33 z88 hy34 tm tm) (s2 u u)<|c2<|cgB hp33.1 u u (oCall u (bw.ok hy35) b52 (oc tm (oc tm o0))) (s2 u u)<|c1<|.nil)<|pJ1 _ (so h) (sb u) u
    ·exact rdx hm (c2<|cp (oIdx u33 z88 hy32 tm tm) (s2 u u)<|c8<|c3<|.nil)<|pJ1 _ (so h) (sb u) u
   ·rintro x31 rfl
    replace h:=hk2
    obtain⟨hp36,h⟩|⟨hp36,h⟩:=ik h
    ·refine wBT hp36.1 tm (s1 u)<|wSeq ?_
     obtain⟨hc37,h⟩:=ib h
     refine rx (c3<|cp (oCutHi u33 z88 hc37.1 hc37.2 tm tm) (s2 u u)<|c1<|.nil)<|pSeq<|wRet<|pBlkR<|pThenR<|pThenR<|pBlkR<|pThenR ?_
     obtain rfl:=so h
     replace h:=hk1
     refine pThenR ?_
     obtain rfl:=so h
     exact pR1 (.inl u) u (.tmp u<|.nil)
    ·exact wBF hp36.1 tm (s1 u)<|wSkip<|pBlkN<|pSeq<|rx (c3<|.nil)<|pLoop (lW (ih _ h) ⟨u,u,u,tv⟩ u)
  ·exact wCF hp26.1 tm (s1 u)<|wExit<|pThenX<|pThenX<|pBlkX<|pJ0 (so h) tv u
 ·rintro rfl
  replace h:=hk1
  refine pSeq<|wSeq<|rx (cp (oAs cV) tv<|.nil)<|pSeq<|wNil (kR ak) 88 9004 4 u u<|wFrzR (n:=0) (id:=9004) [4] u u ⟨u,tv⟩<|wRet ?_
  obtain rfl:=so h
  exact pR1 (.inl u) u (.tmp u<|.nil)
theorem eZ.ok{a0:ab} {a1:Int} {a2:aa} {a3:aa} {r:Bool×Int}(h:eZ.f a0 a1 a2 a3=some r):FnA PP 20 [(kR aj).sig a0,ki.sig a1,(kR ae).sig a2,(kR ae).sig a3] (tup [kB.sig r.1,ki.sig r.2]):=by
 refine fnIntro Tryz.func20 u (by kernel_rfl) fun H0 w0=>?_
 unfold eZ.f at h
 refine wSeq<|rx (c4<|c1<|.nil)<|pSeq<|wSeq ?_
 obtain⟨y1,hy1,h⟩:=bd h
 obtain⟨y2,hy2,h⟩:=bd h
 obtain⟨y3,hy3,h⟩:=bd h
 obtain⟨y4,hy4,h⟩:=bd h
 obtain⟨y5,hy5,h⟩:=bd h
 obtain⟨y6,hy6,h⟩:=bd h
 obtain⟨y7,hy7,h⟩:=bd h
 refine rdx hm (c6<|c1<|cp (oLit (d:=ki) el56 (by decide) u u u (e1 tm (e1 tm (e1 tm e0)))) (s3 u u u)<|cC (dR.ok hy1)<|c4<|cp (oLit (d:=(kL (kR ao))) el145 (by decide) u u u (e1 tm (e1 tm e0))) (s2 u u)<|cC (bi.ok hy2)<|cC (fN.ok hy3)<|c8<|cp (oLit (d:=(kL (kR ai))) el146 (by decide) u u u (e1 tm (e1 tm (e1 tm (e1 tm e0))))) ⟨u,u,u,u,tv⟩<|cC (bl.ok hy4)<|cC (fz.ok hy5)<|c4<|cp (oLit (d:=(kL (kR ak))) el147 (by decide) u u u (e1 tm (e1 tm e0))) (s2 u u)<|cC (bm.ok hy6)<|cp (oLit (d:=(kL ki)) el143 (by decide) u u u (e1 tm (e1 tm (e1 tm (e1 tm e0))))) ⟨u,u,u,u,tv⟩<|cC (bn.ok hy7)<|c1<|.nil)<|pSeq<|wSeq<|wSeq ?_
 obtain⟨y8,hy8,h⟩:=bd h
 refine rx (c2<|cC (fX.ok hy8)<|c1<|.nil)<|pSeq<|wSeq<|rx (c2<|.nil)<|pSeq ?_
 obtain⟨hp9,h⟩|⟨hp9,h⟩:=ik h
 ·refine wNT hp9.1 tm (s1 u)<|wSkip<|pSeq<|wSeq<|rx (c2<|cp (oBuild (fs:=bC) (u:=⟨a0,a1⟩) u ze113 pl113 po113 (.op (zc:=[(.slice none 0 0),(.slice none 0 0)]) tm u (.op (zc:=[(.int .i64 0)]) tm u .nil))) (s2 u u)<|cw (oAlloc (id:=12) (ls:=Z113) ze113 zl113) tv<|cwn (oStP (n:=0) (k:=0) (m:=3) (d:=(kR bC)) (u:=(⟨a0,a1⟩:bp)) pt113 u u u z113 tm tm) (s2 u u)<|.nil)<|pSeq<|wSeq ?_
  obtain⟨o1,h,hk1⟩:=bd h
  refine wJ1 (fun x17=>x17=o1) (fun x17=>[(6,.d (sP (kR ae) a2)),(7,.d (sP (kR ae) a3)),(12,.p 12 0),(85,.d (kB.sig x17))]) (fun x17=>[.box 12 113 [.d (kL kS) a0.Names,.d (kL (kI .u32)) a0.Up,.d ki a1]]) ?_ ?_
  ·obtain⟨y18,hy18,h⟩:=bd h
   obtain⟨y19,hy19,h⟩:=bd h
   obtain⟨hp20,h⟩|⟨hp20,h⟩:=ik h
   ·exact rdx hm (cr (oLdP (n:=0) (k:=0) (m:=3) (d:=(kR bC)) (u:=(⟨a0,a1⟩:bp)) pt113 u u u t113 tm) (s1 u)<|cC (dR.ok hy18)<|c4<|cC (du.ok hy19)<|c12<|c8<|.nil)<|pJ1 _ (so h) (sb u) u
   ·obtain⟨y21,hy21,h⟩:=bd h
    obtain⟨y22,hy22,h⟩:=bd h
    obtain⟨hp23,h⟩|⟨hp23,h⟩:=ik h
    ·exact rdx hm (cr (oLdP (n:=0) (k:=0) (m:=3) (d:=(kR bC)) (u:=(⟨a0,a1⟩:bp)) pt113 u u u t113 tm) (s1 u)<|cC (dR.ok hy18)<|c4<|cC (du.ok hy19)<|c2<|crgB (nb hp20.1) u u (oLdP (n:=0) (k:=0) (m:=3) (d:=(kR bC)) (u:=(⟨a0,a1⟩:bp)) pt113 u u u t113 tm) (s1 u)<|cgB (nb hp20.1) u u (oCall u (fN.ok hy21) b45 o0) tv<|c4<|cgB (nb hp20.1) u u (oCall u (dH.ok hy22) b50 (oc tm (oc tm (oc tm (oc tm o0))))) ⟨u,u,u,u,tv⟩<|c8<|c3<|.nil)<|pJ1 _ (so h) (sb u) u
    ·obtain⟨y24,hy24,h⟩:=bd h
     exact rdx hm (cr (oLdP (n:=0) (k:=0) (m:=3) (d:=(kR bC)) (u:=(⟨a0,a1⟩:bp)) pt113 u u u t113 tm) (s1 u)<|cC (dR.ok hy18)<|c4<|cC (du.ok hy19)<|c2<|crgB (nb hp20.1) u u (oLdP (n:=0) (k:=0) (m:=3) (d:=(kR bC)) (u:=(⟨a0,a1⟩:bp)) pt113 u u u t113 tm) (s1 u)<|cgB (nb hp20.1) u u (oCall u (fN.ok hy21) b45 o0) tv<|c4<|cgB (nb hp20.1) u u (oCall u (dH.ok hy22) b50 (oc tm (oc tm (oc tm (oc tm o0))))) ⟨u,u,u,u,tv⟩<|c3<|crgB (nb hp23.1) u u (oLdP (n:=0) (k:=0) (m:=3) (d:=(kR bC)) (u:=(⟨a0,a1⟩:bp)) pt113 u u u t113 tm) (s1 u)<|c4<|cgB (nb hp23.1) u u (oCall u (fR.ok hy24) b51 (oc tm (oc tm (oc tm o0)))) (s3 u u u)<|c2<|.nil)<|pJ1 _ (so h) (sb u) u
  ·rintro x17 rfl
   replace h:=hk1
   obtain⟨hp25,h⟩|⟨hp25,h⟩:=ik h
   ·refine wBT hp25.1 tm (s1 u)<|wSeq<|rx (c2<|.nil)<|pSeq<|wRet<|pThenR ?_
    obtain rfl:=so h
    exact pRn (.inl u) u u (.tmp u<|.tmp u<|.nil)
   ·refine wBF hp25.1 tm (s1 u)<|wSkip<|pSeq<|wSeq ?_
    obtain⟨y26,hy26,h⟩:=bd h
    obtain⟨y27,hy27,h⟩:=bd h
    refine rdx hm (cr (oLdP (n:=0) (k:=0) (m:=3) (d:=(kR bC)) (u:=(⟨a0,a1⟩:bp)) pt113 u u u t113 tm) (s1 u)<|c3<|cC (bw.ok hy26)<|cr (oLdP (n:=0) (k:=0) (m:=3) (d:=(kR bC)) (u:=(⟨a0,a1⟩:bp)) pt113 u u u t113 tm) (s1 u)<|c3<|cC (bw.ok hy27)<|c2<|.nil)<|pSeq<|wSeq<|wBlock<|wSeq<|rx (c2<|cp (oBNe u4 u tm tm) (s2 u u)<|c1<|.nil)<|pSeq ?_
    obtain⟨hp28,h⟩|⟨hp28,h⟩:=ik h
    ·refine wNT hp28.1 tm (s1 u)<|wSeq<|rx (c2<|.nil)<|pSeq ?_
     obtain⟨hp29,h⟩|⟨hp29,h⟩:=ik h
     ·refine wBT hp29.1 tm (s1 u) ?_
      obtain⟨o1,h,hk1⟩:=bd h
      refine wJ2 (fun x33 x34=>(x33,x34)=o1) (fun x33 x34=>[(8,.d (kB.sig x33)),(9,.d (ki.sig x34))]) (fun x33 x34=>[.box 12 113 [.d (kL kS) a0.Names,.d (kL (kI .u32)) a0.Up,.d ki a1]]) ?_ ?_
      ·obtain⟨hp35,h⟩|⟨hp35,h⟩:=ik h
       ·obtain⟨y36,hy36,h⟩:=bd h
        obtain⟨y37,hy37,h⟩:=bd h
        exact rdx hm (c4<|cp (oREq eqk30 u eg30 u tm tm) (s2 u u)<|c1<|crgB (dT hp35.1) u u (oLdP (n:=0) (k:=0) (m:=3) (d:=(kR bC)) (u:=(⟨a0,a1⟩:bp)) pt113 u u u t113 tm) (s1 u)<|cgB (dT hp35.1) u u (oCall u (fz.ok hy36) b47 o0) tv<|c4<|cgB (dT hp35.1) u u (oCall u (dD.ok hy37) b53 (oc tm (oc tm (oc tm (oc tm o0))))) ⟨u,u,u,u,tv⟩<|c3<|.nil)<|pJ2 _ _ (so h) (sb u) u
       ·exact rdx hm (c4<|cp (oREq eqk30 u eg30 u tm tm) (s2 u u)<|c8<|c3<|.nil)<|pJ2 _ _ (so h) (sb u) u
      ·rintro x33 x34 rfl
       replace h:=hk1
       refine wRet<|pBlkR<|pThenR ?_
       obtain rfl:=so h
       exact pRn (.inl u) u u (.tmp u<|.tmp u<|.nil)
     ·refine wBF hp29.1 tm (s1 u)<|wSkip<|pBlkN<|pSeq<|wSeq ?_
      obtain⟨y38,hy38,h⟩:=bd h
      obtain⟨y39,hy39,h⟩:=bd h
      obtain⟨y40,hy40,h⟩:=bd h
      obtain⟨y41,hy41,h⟩:=bd h
      refine rdx hm (cr (oLdP (n:=0) (k:=0) (m:=3) (d:=(kR bC)) (u:=(⟨a0,a1⟩:bp)) pt113 u u u t113 tm) (s1 u)<|cC (fz.ok hy38)<|cr (oLdP (n:=0) (k:=0) (m:=3) (d:=(kR bC)) (u:=(⟨a0,a1⟩:bp)) pt113 u u u t113 tm) (s1 u)<|c2<|cC (dO.ok hy39)<|cr (oLdP (n:=0) (k:=0) (m:=3) (d:=(kR bC)) (u:=(⟨a0,a1⟩:bp)) pt113 u u u t113 tm) (s1 u)<|c2<|cC (dO.ok hy40)<|cC (dD.ok hy41)<|c2<|.nil)<|pSeq<|wRet ?_
      obtain rfl:=so h
      exact pRn (.inl u) u u (.tmp u<|.tmp u<|.nil)
    ·refine wNF hp28.1 tm (s1 u)<|wSeq<|rx (c2<|.nil)<|pSeq<|wRet<|pBlkR<|pThenR ?_
     obtain rfl:=so h
     exact pRn (.inl u) u u (.tmp u<|.tmp u<|.nil)
 ·refine wNF hp9.1 tm (s1 u)<|wSeq<|rx (c3<|.nil)<|pSeq<|wRet<|pThenR ?_
  obtain rfl:=so h
  exact pRn (.inl u) u u (.tmp u<|.tmp u<|.nil)
theorem dl.ok{a0:ce} {a1:aa} {a2:aa} {r:Int}(h:dl.f a0 a1 a2=some r):FnA PP 76 [(kR bW).sig a0,(kR ae).sig a1,(kR ae).sig a2] (ki.sig r):=by
 refine fnIntro Tryz.func76 u (by kernel_rfl) fun H0 w0=>?_
 unfold dl.f at h
 refine wSeq<|rx (c4<|.nil)<|pSeq<|wSeq<|wSeq ?_
 obtain⟨y1,hy1,h⟩:=bd h
 refine rx (c6<|cC (eZ.ok hy1)<|c4<|c1<|.nil)<|pSeq<|wSeq<|rx (c1<|.nil)<|pSeq ?_
 obtain⟨hp2,h⟩|⟨hp2,h⟩:=ik h
 ·refine wBT hp2.1 tm (s1 u)<|wSeq<|rx (c1<|.nil)<|pSeq<|wRet<|pThenR ?_
  obtain rfl:=so h
  exact pR1 (.inl u) u (.tmp u<|.nil)
 ·refine wBF hp2.1 tm (s1 u)<|wSkip<|pSeq<|wSeq<|rx (c1<|.nil)<|pSeq<|wRet ?_
  obtain rfl:=so h
  exact pR1 (.inl u) u (.tmp u<|.nil)
theorem eT.ok{a0:ce} {r:Int}(h:eT.f a0=some r):FnA PP 38 [(kR bW).sig a0] (ki.sig r):=by
 refine fnIntro Tryz.func38 u (by kernel_rfl) fun H0 w0=>?_
 unfold eT.f at h
 refine wSeq<|rx (c2<|.nil)<|pSeq<|wSeq ?_
 obtain⟨y1,hy1,h⟩:=bd h
 refine rx (c8<|cC (cJ.ok hy1)<|c4<|cw (oAlloc (id:=3) (ls:=Z35) ze35 zl35) tv<|cwn (oStP (n:=0) (k:=0) (m:=6) (d:=(kR ae)) (u:=y1.1) pt35 u u u z35 tm tm) (s2 u u)<|c2<|.nil)<|pSeq<|wSeq ?_
 obtain⟨y2,hy2,h⟩:=bd h
 refine rx (c8<|cC (cJ.ok hy2)<|c4<|cw (oAlloc (id:=6) (ls:=Z35) ze35 zl35) tv<|cwn (oStP (n:=0) (k:=0) (m:=6) (d:=(kR ae)) (u:=y2.1) pt35 u u u z35 tm tm) (s2 u u)<|c2<|.nil)<|pSeq<|wSeq ?_
 obtain⟨o1,h,hk1⟩:=bd h
 refine wJ1 (fun x8=>x8=o1) (fun x8=>[(1,.d (sP (kR bW) a0)),(3,.p 3 0),(6,.p 6 0),(52,.d (kB.sig x8))]) (fun x8=>[.box 6 35 (L35 y2.1),.box 3 35 (L35 y1.1)]) ?_ ?_
 ·obtain⟨hp9,h⟩|⟨hp9,h⟩:=ik h
  ·obtain⟨hp10,h⟩|⟨hp10,h⟩:=ik h
   ·obtain⟨y11,hy11,h⟩:=bd h
    obtain⟨hp12,h⟩|⟨hp12,h⟩:=ik h
    ·exact rx (c8<|crgB (nf hp10.1) u u (oLdP (n:=1) (k:=0) (m:=6) (d:=(kR ae)) (u:=y1.1) pt35 u u u t35 tm) (s1 u)<|cgB (nf hp10.1) u u (oCall u (bE.ok hy11) b70 (oc tm (oc tm o0))) (s2 u u)<|c8<|.nil)<|pJ1 _ (so h) (sb u) u
    ·obtain⟨y13,hy13,h⟩:=bd h
     exact rx (c8<|crgB (nf hp10.1) u u (oLdP (n:=1) (k:=0) (m:=6) (d:=(kR ae)) (u:=y1.1) pt35 u u u t35 tm) (s1 u)<|cgB (nf hp10.1) u u (oCall u (bE.ok hy11) b70 (oc tm (oc tm o0))) (s2 u u)<|c4<|crgB (nb hp12.1) u u (oLdP (n:=0) (k:=0) (m:=6) (d:=(kR ae)) (u:=y2.1) pt35 u u u t35 tm) (s1 u)<|cgB (nb hp12.1) u u (oCall u (bE.ok hy13) b70 (oc tm (oc tm o0))) (s2 u u)<|c2<|.nil)<|pJ1 _ (so h) (sb u) u
   ·exact rx (c12<|c6<|.nil)<|pJ1 _ (so h) (sb u) u
  ·exact rx (c12<|c6<|.nil)<|pJ1 _ (so h) (sb u) u
 ·rintro x8 rfl
  replace h:=hk1
  obtain⟨hp14,h⟩|⟨hp14,h⟩:=ik h
  ·refine wBT hp14.1 tm (s1 u)<|wSeq<|rx (c1<|.nil)<|pSeq<|wRet<|pThenR ?_
   obtain rfl:=so h
   exact pR1 (.inl u) u (.tmp u<|.nil)
  ·refine wBF hp14.1 tm (s1 u)<|wSkip<|pSeq<|wSeq ?_
   obtain⟨y15,hy15,h⟩:=bd h
   refine rx (c1<|cr (oLdP (n:=1) (k:=0) (m:=6) (d:=(kR ae)) (u:=y1.1) pt35 u u u t35 tm) (s1 u)<|cr (oLdP (n:=0) (k:=0) (m:=6) (d:=(kR ae)) (u:=y2.1) pt35 u u u t35 tm) (s1 u)<|cC (dl.ok hy15)<|c1<|.nil)<|pSeq<|wRet ?_
   obtain rfl:=so h
   exact pR1 (.inl u) u (.tmp u<|.nil)
theorem cK.ok{a0:ce} {r:Int}(h:cK.f a0=some r):FnA PP 39 [(kR bW).sig a0] (ki.sig r):=by
 refine fnIntro Tryz.func39 u (by kernel_rfl) fun H0 w0=>?_
 unfold cK.f at h
 refine wSeq<|rx (c2<|.nil)<|pSeq<|wSeq ?_
 obtain⟨y1,hy1,h⟩:=bd h
 refine rx (c3<|cC (dm.ok hy1)<|c1<|.nil)<|pSeq<|wSeq<|wSeq ?_
 obtain⟨y2,hy2,h⟩:=bd h
 refine rx (c3<|cC (dm.ok hy2)<|c2<|.nil)<|pSeq ?_
 obtain⟨o1,h,hk1⟩:=bd h
 refine wK0 (.inr ()=o1) ([]) ([]) ?_ ?_
 ·refine wBlock (wLoop ?_)
  refine lW (pc1 o1 (fun v23=>[(1,.d (sP (kR bW) a0)),(3,.d ((kL (kR ae)).sig y1)),(13,.d ((kL (kR ae)).sig y2)),(14,.d (ki.sig (y2.length:Int))),(15,.d (ki.sig v23))]) (fun v23=>[]) (cK.l0.partial_correctness a0 y1 y2) ?_ _ h) ⟨u,u,u,u,u,tv⟩ u
  clear h
  intro f' ih v23 h
  refine wSeq<|rx (c1<|.nil)<|pSeq<|wSeq ?_
  obtain⟨hp24,h⟩|⟨hp24,h⟩:=ik h
  ·refine wCT hp24.1 tm (s1 u)<|wSkip<|pSeq<|wSeq<|wBlock<|wSeq ?_
   obtain⟨y25,hy25,h⟩:=bd h
   refine rx (c1<|cp (oIdx u49 z35 hy25 tm tm) (s2 u u)<|c1<|cw (oAlloc (id:=5) (ls:=Z35) ze35 zl35) tv<|c1<|cwn (oStP (n:=0) (k:=0) (m:=6) (d:=(kR ae)) (u:=y25) pt35 u u u z35 tm tm) (s2 u u)<|.nil)<|pSeq ?_
   obtain⟨o2,h,hk2⟩:=bd h
   refine wJ1 (fun x29=>x29=o2) (fun x29=>[(1,.d (sP (kR bW) a0)),(3,.d ((kL (kR ae)).sig y1)),(13,.d ((kL (kR ae)).sig y2)),(14,.d (ki.sig (y2.length:Int))),(15,.d (ki.sig v23)),(33,.d (kB.sig x29))]) (fun x29=>[.box 5 35 (L35 y25)]) ?_ ?_
   ·obtain⟨hp30,h⟩|⟨hp30,h⟩:=ik h
    ·obtain⟨y31,hy31,h⟩:=bd h
     obtain⟨y32,hy32,h⟩:=bd h
     exact rdx hm (c6<|crgB (dT hp30.1) u u (oLdP (n:=0) (k:=0) (m:=6) (d:=(kR ae)) (u:=y25) pt35 u u u t35 tm) (s1 u)<|c2<|cgB (dT hp30.1) u u (oIdx u49 z35 hy31 tm tm) (s2 u u)<|c1<|cgB (dT hp30.1) u u (oCall u (dl.ok hy32) b76 (oc tm (oc tm (oc tm o0)))) (s3 u u u)<|c2<|.nil)<|pJ1 _ (so h) (sb u) u
    ·exact rdx hm (c12<|c2<|.nil)<|pJ1 _ (so h) (sb u) u
   ·rintro x29 rfl
    replace h:=hk2
    obtain⟨hp33,h⟩|⟨hp33,h⟩:=ik h
    ·refine wBT hp33.1 tm (s1 u)<|wSeq<|rx (c1<|.nil)<|pSeq<|wRet<|pBlkR<|pThenR<|pThenR<|pBlkR<|pThenR ?_
     obtain rfl:=so h
     replace h:=hk1
     refine pThenR ?_
     obtain rfl:=so h
     exact pR1 (.inl u) u (.tmp u<|.nil)
    ·exact wBF hp33.1 tm (s1 u)<|wSkip<|pBlkN<|pSeq<|rx (c2<|.nil)<|pDrop (.cons _ .slnil)<|pLoop (lW (ih _ h) ⟨u,u,u,u,u,tv⟩ u)
  ·exact wCF hp24.1 tm (s1 u)<|wExit<|pThenX<|pThenX<|pBlkX<|pJ0 (so h) tv u
 ·rintro rfl
  replace h:=hk1
  refine pSeq<|wSeq<|rx (c1<|.nil)<|pSeq<|wRet ?_
  obtain rfl:=so h
  exact pR1 (.inl u) u (.tmp u<|.nil)
theorem eK.ok{a0:ce} {r:Int}(h:eK.f a0=some r):FnA PP 40 [(kR bW).sig a0] (ki.sig r):=by
 refine fnIntro Tryz.func40 u (by kernel_rfl) fun H0 w0=>?_
 unfold eK.f at h
 refine wSeq<|rx (c2<|.nil)<|pSeq<|wSeq ?_
 obtain⟨y1,hy1,h⟩:=bd h
 refine rx (c6<|cC (dM.ok hy1)<|c4<|cw (oAlloc (id:=3) (ls:=Z35) ze35 zl35) tv<|cwn (oStP (n:=0) (k:=0) (m:=6) (d:=(kR ae)) (u:=y1.1) pt35 u u u z35 tm tm) (s2 u u)<|c2<|.nil)<|pSeq<|wSeq ?_
 obtain⟨y2,hy2,h⟩:=bd h
 refine rx (c6<|cC (dM.ok hy2)<|c4<|cw (oAlloc (id:=6) (ls:=Z35) ze35 zl35) tv<|cwn (oStP (n:=0) (k:=0) (m:=6) (d:=(kR ae)) (u:=y2.1) pt35 u u u z35 tm tm) (s2 u u)<|c2<|.nil)<|pSeq<|wSeq<|wBlock<|wSeq<|rx (c3<|.nil)<|pSeq ?_
 obtain⟨hp3,h⟩|⟨hp3,h⟩:=ik h
 ·refine wNT hp3.1 tm (s1 u) ?_
  obtain⟨o1,h,hk1⟩:=bd h
  refine wJ1 (fun x7=>x7=o1) (fun x7=>[(1,.d (sP (kR bW) a0)),(3,.p 3 0),(6,.p 6 0),(7,.d (ki.sig y2.2.1)),(34,.d (kB.sig x7))]) (fun x7=>[.box 6 35 (L35 y2.1),.box 3 35 (L35 y1.1)]) ?_ ?_
  ·obtain⟨y8,hy8,h⟩:=bd h
   obtain⟨hp9,h⟩|⟨hp9,h⟩:=ik h
   ·obtain⟨y10,hy10,h⟩:=bd h
    exact rx (c3<|cC (bE.ok hy8)<|c3<|crgB hp9.1 u u (oLdP (n:=1) (k:=0) (m:=6) (d:=(kR ae)) (u:=y1.1) pt35 u u u t35 tm) (s1 u)<|cgB hp9.1 u u (oCall u (bE.ok hy10) b70 (oc tm (oc tm o0))) (s2 u u)<|c3<|.nil)<|pJ1 _ (so h) (sb u) u
   ·exact rx (c3<|cC (bE.ok hy8)<|c8<|.nil)<|pJ1 _ (so h) (sb u) u
  ·rintro x7 rfl
   replace h:=hk1
   obtain⟨hp11,h⟩|⟨hp11,h⟩:=ik h
   ·refine wBT hp11.1 tm (s1 u)<|wSeq ?_
    obtain⟨y12,hy12,h⟩:=bd h
    refine rx (c3<|cr (oLdP (n:=1) (k:=0) (m:=6) (d:=(kR ae)) (u:=y1.1) pt35 u u u t35 tm) (s1 u)<|cC (dl.ok hy12)<|c1<|.nil)<|pSeq<|wRet<|pBlkR<|pThenR ?_
    obtain rfl:=so h
    exact pR1 (.inl u) u (.tmp u<|.nil)
   ·refine wBF hp11.1 tm (s1 u) ?_
    obtain⟨o1,h,hk1⟩:=bd h
    refine wJ1 (fun x17=>x17=o1) (fun x17=>[(1,.d (sP (kR bW) a0)),(3,.p 3 0),(6,.p 6 0),(51,.d (kB.sig x17))]) (fun x17=>[.box 6 35 (L35 y2.1),.box 3 35 (L35 y1.1)]) ?_ ?_
    ·obtain⟨hp18,h⟩|⟨hp18,h⟩:=ik h
     ·obtain⟨y19,hy19,h⟩:=bd h
      obtain⟨hp20,h⟩|⟨hp20,h⟩:=ik h
      ·obtain⟨y21,hy21,h⟩:=bd h
       exact rx (c6<|cgB (nf hp18.1) u u (oCall u (bE.ok hy19) b70 (oc tm (oc tm o0))) (s2 u u)<|c3<|crgB hp20.1 u u (oLdP (n:=0) (k:=0) (m:=6) (d:=(kR ae)) (u:=y2.1) pt35 u u u t35 tm) (s1 u)<|cgB hp20.1 u u (oCall u (bE.ok hy21) b70 (oc tm (oc tm o0))) (s2 u u)<|c4<|.nil)<|pJ1 _ (so h) (sb u) u
      ·exact rx (c6<|cgB (nf hp18.1) u u (oCall u (bE.ok hy19) b70 (oc tm (oc tm o0))) (s2 u u)<|c8<|c1<|.nil)<|pJ1 _ (so h) (sb u) u
     ·exact rx (c8<|c1<|csU u u<|csU u u<|csU u u<|csU u u<|c3<|.nil)<|pJ1 _ (so h) (sb u) u
    ·rintro x17 rfl
     replace h:=hk1
     obtain⟨hp22,h⟩|⟨hp22,h⟩:=ik h
     ·refine wBT hp22.1 tm (s1 u)<|wSeq<|rx (c1<|.nil)<|pSeq<|wRet<|pBlkR<|pThenR ?_
      obtain rfl:=so h
      exact pR1 (.inl u) u (.tmp u<|.nil)
     ·refine wBF hp22.1 tm (s1 u)<|wSkip<|pBlkN<|pSeq<|wSeq ?_
      obtain⟨y23,hy23,h⟩:=bd h
      refine rx (c1<|cr (oLdP (n:=1) (k:=0) (m:=6) (d:=(kR ae)) (u:=y1.1) pt35 u u u t35 tm) (s1 u)<|cr (oLdP (n:=0) (k:=0) (m:=6) (d:=(kR ae)) (u:=y2.1) pt35 u u u t35 tm) (s1 u)<|cC (dl.ok hy23)<|c1<|.nil)<|pSeq<|wRet ?_
      obtain rfl:=so h
      exact pR1 (.inl u) u (.tmp u<|.nil)
 ·refine wNF hp3.1 tm (s1 u)<|wSeq<|rx (c1<|.nil)<|pSeq<|wRet<|pBlkR<|pThenR ?_
  obtain rfl:=so h
  exact pR1 (.inl u) u (.tmp u<|.nil)
theorem gm.ok{r:List (Int×(Option (ce->Option Int)))}(h:gm.f=some r):FnA PP 19 [] ((sMap ki (kFn PP (rl1 (kR bW) ki)) r)):=by
 refine fnIntro Tryz.func19 u (by kernel_rfl) fun H0 w0=>?_
 unfold gm.f at h
 refine wSeq<|rx (cp (oAs cV) tv<|.nil)<|pSeq<|wSeq<|rx (cw (oMkMap (id:=1) (dk:=ki) (dv:=(kFn PP (rl1 (kR bW) ki)))) tv<|cwn (oInsert (n:=0) (dk:=ki) (dv:=(kFn PP (rl1 (kR bW) ki))) u u63 mk3 u u tm (cI (by decide)) (oSome (oFn b38 (rl1n eT.ok)))) (s1 u)<|cwn (oInsert (n:=0) (dk:=ki) (dv:=(kFn PP (rl1 (kR bW) ki))) u u63 mk3 u u tm (cI (by decide)) (oSome (oFn b39 (rl1n cK.ok)))) (s1 u)<|cwn (oInsert (n:=0) (dk:=ki) (dv:=(kFn PP (rl1 (kR bW) ki))) u u63 mk3 u u tm (cI (by decide)) (oSome (oFn b40 (rl1n eK.ok)))) (s1 u)<|c2<|.nil)<|pSeq<|wFrzM (n:=0) (id:=1) 0 u u<|wRet ?_
 obtain rfl:=so h
 exact pR1 (.inl u) u (.tmp u<|.nil)
theorem dX.ok{a0:ab} {a1:aZ} {a2:Int} {a3:Int} {a4:Int} {a5:aa} {a6:aa} {r:Int×Int}(h:dX.f a0 a1 a2 a3 a4 a5 a6=some r):FnA PP 9 [(kR aj).sig a0,(kR aL).sig a1,ki.sig a2,ki.sig a3,ki.sig a4,(kR ae).sig a5,(kR ae).sig a6] (tup [ki.sig r.1,ki.sig r.2]):=by
 refine fnIntro Tryz.func9 u (by kernel_rfl) fun H0 w0=>?_
 unfold dX.f at h
 refine wSeq<|rx (c6<|.nil)<|pSeq<|wSeq<|wSeq<|rx (c2<|cp (oLit (d:=(kR ae)) el49 (by decide) u u u (e1 tm (e1 tm e0))) (s2 u u)<|c2<|.nil)<|pSeq ?_
 obtain⟨o1,h,hk1⟩:=bd h
 refine wK0 (.inr ()=o1) ([(2,.d (ki.sig a2)),(3,.d (ki.sig a3)),(4,.d (ki.sig a4)),(7,.d (sP (kR aj) a0)),(8,.d (sP (kR aL) a1)),(12,.d (sP (kR ae) a5)),(13,.d (sP (kR ae) a6))]) ([]) ?_ ?_
 ·refine wBlock (wLoop ?_)
  refine lW (pc1 o1 (fun v9=>[(2,.d (ki.sig a2)),(3,.d (ki.sig a3)),(4,.d (ki.sig a4)),(7,.d (sP (kR aj) a0)),(8,.d (sP (kR aL) a1)),(12,.d (sP (kR ae) a5)),(13,.d (sP (kR ae) a6)),(27,.d ((kL (kR ae)).sig ([a5,a6]:List aa))),(28,.d (ki.sig (([a5,a6]:List aa).length:Int))),(29,.d (ki.sig v9))]) (fun v9=>[]) (dX.l0.partial_correctness a0 a1 a4 a5 a6) ?_ _ h) ⟨u,u,u,u,u,u,u,u,u,u,tv⟩ u
  clear h
  intro f' ih v9 h
  refine wSeq<|rx (c1<|.nil)<|pSeq<|wSeq ?_
  obtain⟨hp10,h⟩|⟨hp10,h⟩:=ik h
  ·refine wCT hp10.1 tm (s1 u)<|wSkip<|pSeq<|wSeq<|wBlock<|wSeq ?_
   obtain⟨y11,hy11,h⟩:=bd h
   refine rx (cp (oIdx u49 z35 hy11 tm tm) (s2 u u)<|c1<|cw (oAlloc (id:=17) (ls:=Z35) ze35 zl35) tv<|cwn (oStP (n:=0) (k:=0) (m:=6) (d:=(kR ae)) (u:=y11) pt35 u u u z35 tm tm) (s2 u u)<|.nil)<|pSeq<|wSeq ?_
   obtain⟨y12,hy12,h⟩:=bd h
   refine rx (c2<|cr (oLdP (n:=0) (k:=0) (m:=6) (d:=(kR ae)) (u:=y11) pt35 u u u t35 tm) (s1 u)<|c1<|cC (cJ.ok hy12)<|c4<|cw (oAlloc (id:=18) (ls:=Z35) ze35 zl35) tv<|cwn (oStP (n:=0) (k:=0) (m:=6) (d:=(kR ae)) (u:=y12.1) pt35 u u u z35 tm tm) (s2 u u)<|c2<|.nil)<|pSeq<|wSeq<|rx (c2<|.nil)<|pSeq ?_
   obtain⟨hp13,h⟩|⟨hp13,h⟩:=ik h
   ·exact wNT hp13.1 tm (s1 u)<|wSkip<|pBlkN<|pSeq<|rx (c2<|.nil)<|pDrop (.cons _ (.cons _ .slnil))<|pLoop (lW (ih _ h) ⟨u,u,u,u,u,u,u,u,u,u,tv⟩ u)
   ·refine wNF hp13.1 tm (s1 u)<|wSeq<|rx (c3<|.nil)<|pSeq<|wRet<|pBlkR<|pThenR<|pThenR<|pBlkR<|pThenR ?_
    obtain rfl:=so h
    replace h:=hk1
    refine pThenR ?_
    obtain rfl:=so h
    exact pRn (.inl u) u u (.tmp u<|.tmp u<|.nil)
  ·exact wCF hp10.1 tm (s1 u)<|wExit<|pThenX<|pThenX<|pBlkX<|pJ0 (so h) (sb u) u
 ·rintro rfl
  replace h:=hk1
  refine pSeq<|wSeq ?_
  obtain⟨y14,hy14,h⟩:=bd h
  refine rx (cC (gm.ok hy14)<|c1<|cp (oLookup u63 mk3 zv61 zFn u tm tm) (s2 u u)<|c4<|c1<|.nil)<|pSeq<|wSeq<|wSeq<|rx (c2<|.nil)<|pSeq ?_
  obtain⟨hp15,h⟩|⟨hp15,h⟩:=ik h
  ·refine wBT hp15.1 tm (s1 u)<|wSeq<|rx (c2<|.nil)<|pSeq<|wRet<|pThenR ?_
   obtain rfl:=so h
   exact pRn (.inl u) u u (.tmp u<|.tmp u<|.nil)
  ·refine wBF hp15.1 tm (s1 u)<|wSkip<|pSeq<|wSeq<|wSeq ?_
   obtain⟨y16,hy16,h⟩:=bd h
   refine rx (c4<|cC (eZ.ok hy16)<|c4<|c1<|.nil)<|pSeq ?_
   obtain⟨o1,h,hk1⟩:=bd h
   refine wJ1 (fun x18=>x18=o1) (fun x18=>[(3,.d (ki.sig a3)),(4,.d (ki.sig a4)),(7,.d (sP (kR aj) a0)),(8,.d (sP (kR aL) a1)),(12,.d (sP (kR ae) a5)),(13,.d (sP (kR ae) a6)),(21,.d ((kFn PP (rl1 (kR bW) ki)).sig ((mGet y14 none a2).1))),(67,.d (kB.sig x18))]) (fun x18=>[]) ?_ ?_
   ·obtain⟨hp19,h⟩|⟨hp19,h⟩:=ik h
    ·exact rx (c6<|.nil)<|pJ1 _ (so h) (sb u) u
    ·exact rx (c6<|.nil)<|pJ1 _ (so h) (sb u) u
   ·rintro x18 rfl
    replace h:=hk1
    obtain⟨hp20,h⟩|⟨hp20,h⟩:=ik h
    ·refine wBT hp20.1 tm (s1 u)<|wSeq<|rx (c2<|.nil)<|pSeq<|wRet<|pThenR ?_
     obtain rfl:=so h
     exact pRn (.inl u) u u (.tmp u<|.tmp u<|.nil)
    ·refine wBF hp20.1 tm (s1 u)<|wSkip<|pSeq<|wSeq ?_
     obtain⟨y21,hy21,h⟩:=bd h
     obtain⟨y22,hy22,h⟩:=bd h
     refine rx (c6<|c1<|cp (oBuild (fs:=bW) (u:=⟨a0,a1,a3,a4,a5,a6⟩) u ze68 pl68 po68 (.op (zc:=[(.slice none 0 0),(.slice none 0 0)]) tm u (.op (zc:=[(.slice none 0 0)]) tm u (.op (zc:=[(.int .i64 0)]) tm u (.op (zc:=[(.int .i64 0)]) tm u (.op (zc:=[(.int .i64 0),(.int .i64 0),(.slice none 0 0),(.slice none 0 0),(.slice none 0 0),(.slice none 0 0)]) tm u (.op (zc:=[(.int .i64 0),(.int .i64 0),(.slice none 0 0),(.slice none 0 0),(.slice none 0 0),(.slice none 0 0)]) tm u .nil))))))) ⟨u,u,u,u,u,u,tv⟩<|cp (oCallV u (rl1i (f:=y21) hy22) (oGot hy21 tm) (oc tm o0)) (s2 u u)<|c2<|.nil)<|pSeq<|wRet ?_
     obtain rfl:=so h
     exact pRn (.inl u) u u (.tmp u<|.tmp u<|.nil)
theorem fS.ok{r:(List aE)}(h:fS.f=some r):FnS PP 22 [] [] [] (.f [80000] sAg1) [.row 80000 58 (kR aJ) r]:=by
 refine fnIntroS Tryz.func22 u (by kernel_rfl) fun X H0 w0 pv=>?_
 unfold fS.f at h
 refine wSeq<|rx (cw (oAlloc (id:=0) (ls:=[.d (kL (kR aJ)) []]) ze28 (fun g=>⟨[(.slice none 0 0)],_,u,zL g.H,u⟩)) tv<|.nil)<|pSeq<|wSeq<|rx (cp (oLit (d:=ki) el56 (by decide) u u u (e1 (cI (by decide)) e0)) tv<|cp (oLit (d:=ki) el56 (by decide) u u u (e1 (cI (by decide)) e0)) tv<|cp (oLit (d:=ki) el56 (by decide) u u u (e1 (cI (by decide)) e0)) tv<|c3<|.nil)<|pSeq<|wSeq<|rx (cp (oLit (d:=ki) el56 (by decide) u u u (e1 (cI (by decide)) (e1 (cI (by decide)) (e1 (cI (by decide)) e0)))) tv<|c1<|.nil)<|pSeq<|wSeq<|rx (cp (oLit (d:=ki) el56 (by decide) u u u (e1 (cI (by decide)) (e1 (cI (by decide)) (e1 (cI (by decide)) e0)))) tv<|c1<|.nil)<|pSeq<|wSeq<|rx (c3<|cp (oBuild (fs:=aJ) (u:=⟨([1]:List Int),([6]:List Int),([8]:List Int)⟩) u ze58 pl58 po58 (.op (zc:=[(.slice none 0 0)]) tm u (.op (zc:=[(.slice none 0 0)]) tm u (.op (zc:=[(.slice none 0 0)]) tm u .nil)))) (s3 u u u)<|cw (oAlloc (id:=6) (ls:=Z58) ze58 zl58) tv<|cwn (oStA (n:=0) (fs:=aJ) u u z58 tm tm) (s2 u u)<|.nil)<|pSeq<|wSeq<|rx (c3<|cp (oBuild (fs:=aJ) (u:=⟨([1]:List Int),([9,10,12]:List Int),([8]:List Int)⟩) u ze58 pl58 po58 (.op (zc:=[(.slice none 0 0)]) tm u (.op (zc:=[(.slice none 0 0)]) tm u (.op (zc:=[(.slice none 0 0)]) tm u .nil)))) (s3 u u u)<|cw (oAlloc (id:=7) (ls:=Z58) ze58 zl58) tv<|cwn (oStA (n:=0) (fs:=aJ) u u z58 tm tm) (s2 u u)<|.nil)<|pSeq<|wSeq<|rx (c3<|cp (oBuild (fs:=aJ) (u:=⟨([1]:List Int),([6]:List Int),([9,8,12]:List Int)⟩) u ze58 pl58 po58 (.op (zc:=[(.slice none 0 0)]) tm u (.op (zc:=[(.slice none 0 0)]) tm u (.op (zc:=[(.slice none 0 0)]) tm u .nil)))) (s3 u u u)<|cw (oAlloc (id:=8) (ls:=Z58) ze58 zl58) tv<|cwn (oStA (n:=0) (fs:=aJ) u u z58 tm tm) (s2 u u)<|.nil)<|pSeq<|wSeq<|rx (cr (oLdA (n:=2) (fs:=aJ) (u:=⟨([1]:List Int),([6]:List Int),([8]:List Int)⟩) u ⟨u,u,u,tv⟩ t58 tm) (s1 u)<|c1<|cp (oLit (d:=ki) el56 (by decide) u u u (e1 (cI (by decide)) e0)) tv<|c1<|cp (oBuild (fs:=aJ) (u:=⟨([1]:List Int),([9]:List Int),([8]:List Int)⟩) u ze58 pl58 po58 (.op (zc:=[(.slice none 0 0)]) tm u (.op (zc:=[(.slice none 0 0)]) tm u (.op (zc:=[(.slice none 0 0)]) tm u .nil)))) (s3 u u u)<|cr (oLdA (n:=2) (fs:=aJ) (u:=⟨([1]:List Int),([6]:List Int),([8]:List Int)⟩) u ⟨u,u,u,tv⟩ t58 tm) (s1 u)<|cr (oLdA (n:=1) (fs:=aJ) (u:=⟨([1]:List Int),([9,10,12]:List Int),([8]:List Int)⟩) u ⟨u,u,u,tv⟩ t58 tm) (s1 u)<|cr (oLdA (n:=1) (fs:=aJ) (u:=⟨([1]:List Int),([9,10,12]:List Int),([8]:List Int)⟩) u ⟨u,u,u,tv⟩ t58 tm) (s1 u)<|cr (oLdA (n:=1) (fs:=aJ) (u:=⟨([1]:List Int),([9,10,12]:List Int),([8]:List Int)⟩) u ⟨u,u,u,tv⟩ t58 tm) (s1 u)<|cp (oLit (d:=ki) el56 (by decide) u u u (e1 (cI (by decide)) (e1 (cI (by decide)) (e1 (cI (by decide)) (e1 (cI (by decide)) (e1 (cI (by decide)) e0)))))) tv<|cp (oLit (d:=ki) el56 (by decide) u u u (e1 (cI (by decide)) (e1 (cI (by decide)) (e1 (cI (by decide)) (e1 (cI (by decide)) (e1 (cI (by decide)) e0)))))) tv<|c1<|cp (oBuild (fs:=aJ) (u:=⟨([9,8,12,11,5]:List Int),([9,10,12,8,12]:List Int),([8]:List Int)⟩) u ze58 pl58 po58 (.op (zc:=[(.slice none 0 0)]) tm u (.op (zc:=[(.slice none 0 0)]) tm u (.op (zc:=[(.slice none 0 0)]) tm u .nil)))) (s3 u u u)<|cr (oLdA (n:=0) (fs:=aJ) (u:=⟨([1]:List Int),([6]:List Int),([9,8,12]:List Int)⟩) u ⟨u,u,u,tv⟩ t58 tm) (s1 u)<|cr (oLdA (n:=0) (fs:=aJ) (u:=⟨([1]:List Int),([6]:List Int),([9,8,12]:List Int)⟩) u ⟨u,u,u,tv⟩ t58 tm) (s1 u)<|cr (oLdA (n:=0) (fs:=aJ) (u:=⟨([1]:List Int),([6]:List Int),([9,8,12]:List Int)⟩) u ⟨u,u,u,tv⟩ t58 tm) (s1 u)<|c2<|cp (oLit (d:=ki) el56 (by decide) u u u (e1 (cI (by decide)) e0)) tv<|cp (oBuild (fs:=aJ) (u:=⟨([1]:List Int),([9,8,12]:List Int),([10]:List Int)⟩) u ze58 pl58 po58 (.op (zc:=[(.slice none 0 0)]) tm u (.op (zc:=[(.slice none 0 0)]) tm u (.op (zc:=[(.slice none 0 0)]) tm u .nil)))) (s3 u u u)<|c3<|cp (oBuild (fs:=aJ) (u:=⟨([1]:List Int),([9,8,12]:List Int),([8]:List Int)⟩) u ze58 pl58 po58 (.op (zc:=[(.slice none 0 0)]) tm u (.op (zc:=[(.slice none 0 0)]) tm u (.op (zc:=[(.slice none 0 0)]) tm u .nil)))) (s3 u u u)<|cr (oLdA (n:=2) (fs:=aJ) (u:=⟨([1]:List Int),([6]:List Int),([8]:List Int)⟩) u ⟨u,u,u,tv⟩ t58 tm) (s1 u)<|cw (oLitR (id:=51) (d:=(kR aJ)) el26 (by decide) u u u (e1 tm (e1 tm (e1 tm (e1 tm (e1 tm (e1 tm (e1 tm (e1 tm (e1 tm (e1 tm (e1 tm (e1 tm (e1 tm e0)))))))))))))) ⟨u,u,u,u,u,u,u,u,u,u,u,u,u,tv⟩<|cr (oBuildW (n:=0) u ze28 pl28 tm) (s1 u)<|cwn (oStW (n:=4) (m:=0) u u z28 u tm tm) (s2 u u)<|.nil)<|pSeq<|wRet ?_
 obtain rfl:=so h
 exact pSub (Γ':=[(0,.p 0 0)]) (sb u)<|pRen 51 80000 u<|pSag (n:=4) [0] u u (.inl u) u u u t28
theorem reticentlaw20_alive.ok{r:Bool}(h:reticentlaw20_alive.f=some r):FnA PP 11 [] (kB.sig r):=by
 refine fnIntro Tryz.func11 u (by kernel_rfl) fun H0 w0=>?_
 unfold reticentlaw20_alive.f at h
 refine wSeq<|rx (c1<|.nil)<|pSeq<|wSeq<|rx (cp (oLit (d:=kS) el22 (by decide) u u u (e1 (cS (by decide)) (e1 (cS (by decide)) e0))) tv<|cp (oLit (d:=(kI .u32)) el23 (by decide) u u u (e1 (cI (by decide)) (e1 (cI (by decide)) e0))) tv<|cp (oBuild (fs:=aj) (u:=⟨([([97]:Str),([98]:Str)]:List Str),([3,2]:List Int)⟩) u ze25 pl25 po25 (.op (zc:=[(.slice none 0 0)]) tm u (.op (zc:=[(.slice none 0 0)]) tm u .nil))) (s2 u u)<|cw (oAlloc (id:=1) (ls:=Z25) ze25 zl25) tv<|cwn (oStA (n:=0) (fs:=aj) u u z25 tm tm) (s2 u u)<|.nil)<|pSeq<|wSeq ?_
 obtain⟨y1,hy1,h⟩:=bd h
 refine rx (cm (oCallS (rest:=[.box 1 25 [.d (kL kS) ([([97]:Str),([98]:Str)]:List Str),.d (kL (kI .u32)) ([3,2]:List Int)]]) (R':=[.row 320000 58 (kR aJ) y1,.box 1 25 [.d (kL kS) ([([97]:Str),([98]:Str)]:List Str),.d (kL (kI .u32)) ([3,2]:List Int)]]) (out':=.f [320000] sAg1) [] [(80000,320000)] [] [0] [0,1] u (fS.ok hy1) b22 oE0 u u u u u u u u) tv<|cw (oAlloc (id:=2) (ls:=[.d (kL (kR aJ)) []]) ze28 (fun g=>⟨[(.slice none 0 0)],_,u,zL g.H,u⟩)) tv<|cwn (oStW (n:=0) (m:=1) u u z28 u tm tm) (s2 u u)<|.nil)<|pSeq<|wSeq<|wSeq<|rx (c1<|cr (oLdN (n:=0) (k:=0) u u u t26 tm) (s1 u)<|cr (oLenR (n:=1) u26 u tm) (s1 u)<|c1<|.nil)<|pSeq ?_
 obtain⟨hp2,h⟩|⟨hp2,h⟩:=ik h
 ·refine wNT hp2.1 tm (s1 u)<|wSkip<|pSeq<|wSeq ?_
  obtain⟨y3,hy3,h⟩:=bd h
  refine rx (c1<|cr (oLdN (n:=0) (k:=0) u u u t26 tm) (s1 u)<|cp (oLit (d:=ki) el56 (by decide) u u u (e1 (cI (by decide)) e0)) tv<|cr (oIdxR (n:=1) u26 z58 u hy3 tm (cI (by decide))) (s1 u)<|cp (oFldE o58_1 tm) (s1 u)<|cwn (oStEF (n:=1) (k:=1) (fs:=aJ) (u':=(⟨y3.May,([6]:List Int),y3.Pc⟩:aE)) u hy3 u ⟨u,u,tv⟩ u z56 tm tm) (s2 u u)<|.nil)<|pSeq<|wSeq<|rx (cp (oBuild (fs:=ao) (u:=⟨1,1,1⟩) u ze73 pl73 po73 (.op (zc:=[(.int .i64 0)]) (cI (by decide)) u (.op (zc:=[(.int .i64 0)]) (cI (by decide)) u (.op (zc:=[(.int .i64 0)]) (cI (by decide)) u .nil)))) tv<|cp (oLit (d:=(kR ao)) el31 (by decide) u u u (e1 tm e0)) (s1 u)<|cp (oBuild (fs:=ae) (u:=⟨(⟨0,0⟩:am),([(⟨1,1,1⟩:ap)]:List ap),[],[],[]⟩) u ze35 pl35 po35 (.ze (zc:=[(.int .i64 0),(.int .i64 0)]) fy (.op (zc:=[(.slice none 0 0)]) tm u (.ze (zc:=[(.slice none 0 0)]) zL (.ze (zc:=[(.slice none 0 0)]) zL (.ze (zc:=[(.slice none 0 0)]) zL .nil)))))) (s1 u)<|cp (oBuild (fs:=ao) (u:=⟨1,2,1⟩) u ze73 pl73 po73 (.op (zc:=[(.int .i64 0)]) (cI (by decide)) u (.op (zc:=[(.int .i64 0)]) (cI (by decide)) u (.op (zc:=[(.int .i64 0)]) (cI (by decide)) u .nil)))) tv<|cp (oLit (d:=(kR ao)) el31 (by decide) u u u (e1 tm e0)) (s1 u)<|cp (oBuild (fs:=ae) (u:=⟨(⟨0,0⟩:am),([(⟨1,2,1⟩:ap)]:List ap),[],[],[]⟩) u ze35 pl35 po35 (.ze (zc:=[(.int .i64 0),(.int .i64 0)]) fy (.op (zc:=[(.slice none 0 0)]) tm u (.ze (zc:=[(.slice none 0 0)]) zL (.ze (zc:=[(.slice none 0 0)]) zL (.ze (zc:=[(.slice none 0 0)]) zL .nil)))))) (s1 u)<|cw (oAlloc (id:=3) (ls:=Z35) ze35 zl35) tv<|cw (oAlloc (id:=4) (ls:=Z35) ze35 zl35) tv<|cwn (oStP (n:=1) (k:=0) (m:=6) (d:=(kR ae)) (u:=(⟨(⟨0,0⟩:am),([(⟨1,1,1⟩:ap)]:List ap),[],[],[]⟩:aa)) pt35 u u u z35 tm tm) (s2 u u)<|cwn (oStP (n:=0) (k:=0) (m:=6) (d:=(kR ae)) (u:=(⟨(⟨0,0⟩:am),([(⟨1,2,1⟩:ap)]:List ap),[],[],[]⟩:aa)) pt35 u u u z35 tm tm) (s2 u u)<|.nil)<|pSeq<|wSeq<|wFrzR (n:=3) (id:=320000) [14,18] u u ⟨u,u,tv⟩ ?_
  obtain⟨y4,hy4,h⟩:=bd h
  refine rx (cr (oLdA (n:=3) (fs:=aj) (u:=⟨([([97]:Str),([98]:Str)]:List Str),([3,2]:List Int)⟩) u ⟨u,u,tv⟩ t25 tm) (s1 u)<|cr (oLdA (n:=2) (fs:=aL) (u:=⟨y1.set (1:Int).toNat (⟨y3.May,([6]:List Int),y3.Pc⟩:aE)⟩) u ⟨u,tv⟩ t28 tm) (s1 u)<|cr (oLdP (n:=1) (k:=0) (m:=6) (d:=(kR ae)) (u:=(⟨⟨0,0⟩,([(⟨1,1,1⟩:ap)]:List ap),[],[],[]⟩:aa)) pt35 u u u t35 tm) (s1 u)<|cr (oLdP (n:=0) (k:=0) (m:=6) (d:=(kR ae)) (u:=(⟨⟨0,0⟩,([(⟨1,2,1⟩:ap)]:List ap),[],[],[]⟩:aa)) pt35 u u u t35 tm) (s1 u)<|cC (dX.ok hy4)<|c4<|c1<|.nil)<|pSeq<|wSeq ?_
  obtain⟨y5,hy5,h⟩:=bd h
  obtain⟨y6,hy6,h⟩:=bd h
  refine rdx hm (cr (oLdA (n:=3) (fs:=aj) (u:=⟨([([97]:Str),([98]:Str)]:List Str),([3,2]:List Int)⟩) u ⟨u,u,tv⟩ t25 tm) (s1 u)<|cC (gt.ok hy5)<|cr (oLdP (n:=1) (k:=0) (m:=6) (d:=(kR ae)) (u:=(⟨⟨0,0⟩,([(⟨1,1,1⟩:ap)]:List ap),[],[],[]⟩:aa)) pt35 u u u t35 tm) (s1 u)<|cr (oLdP (n:=0) (k:=0) (m:=6) (d:=(kR ae)) (u:=(⟨⟨0,0⟩,([(⟨1,2,1⟩:ap)]:List ap),[],[],[]⟩:aa)) pt35 u u u t35 tm) (s1 u)<|cC (dX.ok hy6)<|c4<|c1<|.nil)<|pSeq ?_
  obtain⟨o1,h,hk1⟩:=bd h
  refine wJ1 (fun x10=>x10=o1) (fun x10=>[(0,.d (kB.sig x10))]) (fun x10=>[.box 4 35 [.d ki 0,.d ki 0,.d (kL (kR ao)) ([(⟨1,2,1⟩:ap)]:List ap),.d (kL (kR ai)) [],.d (kL (kR ak)) [],.d (kL (kR ai)) []],.box 3 35 [.d ki 0,.d ki 0,.d (kL (kR ao)) ([(⟨1,1,1⟩:ap)]:List ap),.d (kL (kR ai)) [],.d (kL (kR ak)) [],.d (kL (kR ai)) []],.box 2 28 [.d (kL (kR aJ)) (y1.set (1:Int).toNat (⟨y3.May,([6]:List Int),y3.Pc⟩:aE))],.box 1 25 [.d (kL kS) ([([97]:Str),([98]:Str)]:List Str),.d (kL (kI .u32)) ([3,2]:List Int)]]) ?_ ?_
  ·obtain⟨hp11,h⟩|⟨hp11,h⟩:=ik h
   ·obtain⟨hp12,h⟩|⟨hp12,h⟩:=ik h
    ·obtain⟨hp13,h⟩|⟨hp13,h⟩:=ik h
     ·exact rx (c12<|c3<|.nil)<|pJ1 _ (so h) (sb u) u
     ·exact rx (c12<|c3<|.nil)<|pJ1 _ (so h) (sb u) u
    ·exact rx (c12<|c3<|.nil)<|pJ1 _ (so h) (sb u) u
   ·exact rx (c12<|c3<|.nil)<|pJ1 _ (so h) (sb u) u
  ·rintro x10 rfl
   replace h:=hk1
   refine wRet ?_
   obtain rfl:=so h
   exact pR1 (.inl u) u (.tmp u<|.nil)
 ·refine wNF hp2.1 tm (s1 u)<|wSeq<|rx (c1<|.nil)<|pSeq<|wRet<|pThenR ?_
  obtain rfl:=so h
  exact pR1 (.inl u) u (.tmp u<|.nil)
theorem bA.ok{a0:ab} {r:Int}(h:bA.f a0=some r):FnA PP 128 [(kR aj).sig a0] (ki.sig r):=by
 refine fnIntro Tryz.func128 u (by kernel_rfl) fun H0 w0=>?_
 unfold bA.f at h
 refine wSeq<|rx (c2<|.nil)<|pSeq<|wSeq<|rx (c1<|.nil)<|pSeq<|wSeq<|wSeq<|rx (c4<|.nil)<|pSeq ?_
 obtain⟨o1,h,hk1⟩:=bd h
 refine wK1 (fun x7=>x7=o1) (fun x7=>[(3,.d (ki.sig x7))]) (fun x7=>[]) ?_ ?_
 ·refine wBlock (wLoop ?_)
  refine lW (pc2 o1 (fun v5 v6=>[(1,.d (sP (kR aj) a0)),(3,.d (ki.sig v5)),(7,.d (ki.sig (a0.Up.length:Int))),(8,.d (ki.sig v6))]) (fun v5 v6=>[]) (bA.l0.partial_correctness a0) ?_ _ _ h) ⟨u,u,u,u,tv⟩ u
  clear h
  intro f' ih v5 v6 h
  refine wSeq<|rx (c1<|.nil)<|pSeq<|wSeq ?_
  obtain⟨hp8,h⟩|⟨hp8,h⟩:=ik h
  ·refine wCT hp8.1 tm (s1 u)<|wSkip<|pSeq<|wSeq<|wBlock<|wSeq<|rx (c2<|.nil)<|pSeq ?_
   obtain⟨y9,hy9,h⟩:=bd h
   exact rx (c3<|cC (aU.ok hy9)<|c1<|.nil)<|pBlkN<|pSeq<|rx (c2<|.nil)<|pLoop (lW (ih _ _ h) ⟨u,u,u,u,tv⟩ u)
  ·exact wCF hp8.1 tm (s1 u)<|wExit<|pThenX<|pThenX<|pBlkX<|pJ1 _ (so h) (sb u) u
 ·rintro x7 rfl
  replace h:=hk1
  refine pSeq<|wSeq<|rx (c2<|.nil)<|pSeq<|wRet ?_
  obtain rfl:=so h
  exact pR1 (.inl u) u (.tmp u<|.nil)
theorem bJ.ok{a0:ap} {r:Int}(h:bJ.f a0=some r):FnA PP 129 [(kR ao).sig a0] (ki.sig r):=by
 refine fnIntro Tryz.func129 u (by kernel_rfl) fun H0 w0=>?_
 unfold bJ.f at h
 refine wSeq<|rx (c2<|.nil)<|pSeq<|wSeq<|wSeq<|rx (c3<|.nil)<|pSeq ?_
 obtain⟨hp1,h⟩|⟨hp1,h⟩:=ik h
 ·refine wCT hp1.1 tm (s1 u)<|wSeq<|rx (c3<|.nil)<|pSeq<|wRet<|pThenR ?_
  obtain rfl:=so h
  exact pR1 (.inl u) u (.tmp u<|.nil)
 ·refine wCF hp1.1 tm (s1 u)<|wSkip<|pSeq<|wSeq ?_
  obtain⟨y2,hy2,h⟩:=bd h
  refine rx (cp (oLit (d:=ki) el56 (by decide) u u u (e1 (cI (by decide)) (e1 (cI (by decide)) (e1 (cI (by decide)) (e1 (cI (by decide)) (e1 (cI (by decide)) (e1 (cI (by decide)) (e1 (cI (by decide)) (e1 (cI (by decide)) (e1 (cI (by decide)) (e1 (cI (by decide)) (e1 (cI (by decide)) (e1 (cI (by decide)) (e1 (cI (by decide)) e0)))))))))))))) tv<|c2<|cp (oIdx u56 z3 hy2 tm tm) (s2 u u)<|c2<|.nil)<|pSeq<|wRet ?_
  obtain rfl:=so h
  exact pR1 (.inl u) u (.tmp u<|.nil)
theorem dS.ok{a0:aa} {a1:Int} {r:Bool}(h:dS.f a0 a1=some r):FnA PP 130 [(kR ae).sig a0,ki.sig a1] (kB.sig r):=by
 refine fnIntro Tryz.func130 u (by kernel_rfl) fun H0 w0=>?_
 unfold dS.f at h
 refine wSeq<|rx (c2<|.nil)<|pSeq<|wSeq<|rx (c6<|c1<|.nil)<|pSeq ?_
 obtain⟨o1,h,hk1⟩:=bd h
 refine wJ1 (fun x3=>x3=o1) (fun x3=>[(4,.d (kB.sig x3))]) (fun x3=>[]) ?_ ?_
 ·obtain⟨hp4,h⟩|⟨hp4,h⟩:=ik h
  ·obtain⟨y5,hy5,h⟩:=bd h
   exact rx (c6<|cgB (dT hp4.1) u u (oIdx u33 z88 hy5 tm tm) (s2 u u)<|c4<|c1<|.nil)<|pJ1 _ (so h) (sb u) u
  ·exact rx (c12<|.nil)<|pJ1 _ (so h) (sb u) u
 ·rintro x3 rfl
  replace h:=hk1
  refine wRet ?_
  obtain rfl:=so h
  exact pR1 (.inl u) u (.tmp u<|.nil)
theorem cv.ok{a0:aa} {a1:Int} {r:Int}(h:cv.f a0 a1=some r):FnA PP 131 [(kR ae).sig a0,ki.sig a1] (ki.sig r):=by
 refine fnIntro Tryz.func131 u (by kernel_rfl) fun H0 w0=>?_
 unfold cv.f at h
 refine wSeq<|rx (c2<|.nil)<|pSeq<|wSeq<|wSeq<|rx (c3<|.nil)<|pSeq ?_
 obtain⟨o1,h,hk1⟩:=bd h
 refine wK0 (.inr ()=o1) ([]) ([]) ?_ ?_
 ·refine wBlock (wLoop ?_)
  refine lW (pc1 o1 (fun v7=>[(2,.d (sP (kR ae) a0)),(5,.d (ki.sig v7))]) (fun v7=>[]) (cv.l0.partial_correctness a0) ?_ _ h) ⟨u,u,tv⟩ u
  clear h
  intro f' ih v7 h
  refine wSeq<|wSeq<|rx (c2<|.nil)<|pSeq ?_
  obtain⟨hp8,h⟩|⟨hp8,h⟩:=ik h
  ·refine wCT hp8.1 tm (s1 u)<|wSkip<|pSeq<|wSeq<|wBlock<|wSeq ?_
   obtain⟨y9,hy9,h⟩:=bd h
   refine rx (c3<|cp (oIdx u33 z88 hy9 tm tm) (s2 u u)<|c2<|.nil)<|pSeq ?_
   obtain⟨hp10,h⟩|⟨hp10,h⟩:=ik h
   ·refine wBT hp10.1 tm (s1 u)<|wSeq<|rx (c2<|.nil)<|pSeq<|wRet<|pBlkR<|pThenR<|pThenR<|pBlkR<|pThenR ?_
    obtain rfl:=so h
    replace h:=hk1
    refine pThenR ?_
    obtain rfl:=so h
    exact pR1 (.inl u) u (.tmp u<|.nil)
   ·exact wBF hp10.1 tm (s1 u)<|wSkip<|pBlkN<|pSeq<|rx (c3<|.nil)<|pLoop (lW (ih _ h) ⟨u,u,tv⟩ u)
  ·exact wCF hp8.1 tm (s1 u)<|wExit<|pThenX<|pThenX<|pBlkX<|pJ0 (so h) tv u
 ·rintro rfl
  replace h:=hk1
  refine pSeq<|wSeq<|rx (c1<|.nil)<|pSeq<|wRet ?_
  obtain rfl:=so h
  exact pR1 (.inl u) u (.tmp u<|.nil)
theorem aY.ok{a0:ab} {a1:aa} {r:aq}(h:aY.f a0 a1=some r):FnA PP 102 [(kR aj).sig a0,(kR ae).sig a1] ((kR aM).sig r):=by
 refine fnIntro Tryz.func102 u (by kernel_rfl) fun H0 w0=>?_
 unfold aY.f at h
 refine wSeq<|rx (c2<|cw (oAlloc (id:=4) (ls:=Z158) ze158 zl158) tv<|.nil)<|pSeq<|wSeq ?_
 obtain⟨y1,hy1,h⟩:=bd h
 refine rx (c4<|c1<|cp (oIdx u31 z73 hy1 tm tm) (s2 u u)<|c1<|cw (oAlloc (id:=5) (ls:=Z73) ze73 zl73) tv<|cwn (oStA (n:=0) (fs:=ao) u u z73 tm tm) (s2 u u)<|.nil)<|pSeq<|wSeq ?_
 obtain⟨y2,hy2,h⟩:=bd h
 refine rx (c1<|cC (bA.ok hy2)<|c1<|.nil)<|pSeq<|wSeq ?_
 obtain⟨y3,hy3,h⟩:=bd h
 refine rgL hm (c6<|cl [] u (oLdA (n:=0) (fs:=ao) (u:=⟨y1.Op,y1.N,y1.L⟩) u ⟨u,u,u,tv⟩ t73 tm) (s1 u)<|cC (bJ.ok hy3)<|c1<|cp (oBuild (fs:=aM) (u:=⟨false,(⟨false,0,0⟩:al),(⟨false,0,0⟩:al),(⟨false,0,0⟩:al),y2,y2,y2,IntKind.i64.wrap ((a1.Stack.length:Int)-y3)⟩) u ze158 pl158 po158 (.ze (zc:=[(.bool false)]) zB (.ze (zc:=[(.bool false),(.int .i64 0),(.int .i64 0)]) db (.ze (zc:=[(.bool false),(.int .i64 0),(.int .i64 0)]) db (.ze (zc:=[(.bool false),(.int .i64 0),(.int .i64 0)]) db (.op (zc:=[(.int .i64 0)]) tm u (.op (zc:=[(.int .i64 0)]) tm u (.op (zc:=[(.int .i64 0)]) tm u (.op (zc:=[(.int .i64 0)]) tm u .nil))))))))) ⟨u,u,u,u,tv⟩<|cn (oAlloc (id:=7) (ls:=Z158) ze158 zl158) tv<|cwn (oStP (n:=0) (k:=0) (m:=14) (d:=(kR aM)) (u:=(⟨false,(⟨false,0,0⟩:al),(⟨false,0,0⟩:al),(⟨false,0,0⟩:al),y2,y2,y2,IntKind.i64.wrap ((a1.Stack.length:Int)-y3)⟩:aq)) pt158 u u u z158 tm tm) (s2 u u)<|.nil) (by kernel_rfl) (by kernel_rfl) (by kernel_rfl)<|pSeq<|wSeq<|wSeq<|rx (c1<|.nil)<|pSeq ?_
 obtain⟨o1,h,hk1⟩:=bd h
 refine wK0 (.inr ()=o1) ([(3,.d (sP (kR ae) a1)),(4,.p 4 0),(5,.p 5 0),(7,.p 7 0)]) ([.box 7 158 [.d kB false,.d kB false,.d ki 0,.d ki 0,.d kB false,.d ki 0,.d ki 0,.d kB false,.d ki 0,.d ki 0,.d ki y2,.d ki y2,.d ki y2,.d ki (IntKind.i64.wrap ((a1.Stack.length:Int)-y3))],.box 5 73 (L73 y1),.box 4 158 [.d kB false,.d kB false,.d ki 0,.d ki 0,.d kB false,.d ki 0,.d ki 0,.d kB false,.d ki 0,.d ki 0,.d ki 0,.d ki 0,.d ki 0,.d ki 0]]) ?_ ?_
 ·refine wBlock (wLoop ?_)
  refine lW (pc1 o1 (fun v12=>[(3,.d (sP (kR ae) a1)),(4,.p 4 0),(5,.p 5 0),(7,.p 7 0),(8,.d (ki.sig v12))]) (fun v12=>[.box 7 158 [.d kB false,.d kB false,.d ki 0,.d ki 0,.d kB false,.d ki 0,.d ki 0,.d kB false,.d ki 0,.d ki 0,.d ki y2,.d ki y2,.d ki y2,.d ki (IntKind.i64.wrap ((a1.Stack.length:Int)-y3))],.box 5 73 (L73 y1),.box 4 158 [.d kB false,.d kB false,.d ki 0,.d ki 0,.d kB false,.d ki 0,.d ki 0,.d kB false,.d ki 0,.d ki 0,.d ki 0,.d ki 0,.d ki 0,.d ki 0]]) (aY.l0.partial_correctness a1 y1) ?_ _ h) ⟨u,u,u,u,u,tv⟩ u
  clear h
  intro f' ih v12 h
  refine wSeq<|wSeq ?_
  obtain⟨y13,hy13,h⟩:=bd h
  refine rx (c1<|cr (oLdA (n:=1) (fs:=ao) (u:=⟨y1.Op,y1.N,y1.L⟩) u ⟨u,u,u,tv⟩ t73 tm) (s1 u)<|cC (bJ.ok hy13)<|c1<|.nil)<|pSeq ?_
  obtain⟨hp14,h⟩|⟨hp14,h⟩:=ik h
  ·refine wCT hp14.1 tm (s1 u)<|wSkip<|pSeq<|wSeq<|wBlock<|wSeq ?_
   obtain⟨y15,hy15,h⟩:=bd h
   refine rx (c2<|cC (dS.ok hy15)<|c1<|.nil)<|pSeq ?_
   obtain⟨hp16,h⟩|⟨hp16,h⟩:=ik h
   ·refine wBT hp16.1 tm (s1 u)<|wSeq<|rx (cp (oBuild (fs:=aM) (u:=⟨false,(⟨false,0,0⟩:al),(⟨false,0,0⟩:al),(⟨false,0,0⟩:al),0,0,0,0⟩) u ze158 pl158 po158 (.ze (zc:=[(.bool false)]) zB (.ze (zc:=[(.bool false),(.int .i64 0),(.int .i64 0)]) db (.ze (zc:=[(.bool false),(.int .i64 0),(.int .i64 0)]) db (.ze (zc:=[(.bool false),(.int .i64 0),(.int .i64 0)]) db (.ze (zc:=[(.int .i64 0)]) zI_i64 (.ze (zc:=[(.int .i64 0)]) zI_i64 (.ze (zc:=[(.int .i64 0)]) zI_i64 (.ze (zc:=[(.int .i64 0)]) zI_i64 .nil))))))))) tv<|cwn (oStP (n:=2) (k:=0) (m:=14) (d:=(kR aM)) (u:=(⟨false,(⟨false,0,0⟩:al),(⟨false,0,0⟩:al),(⟨false,0,0⟩:al),0,0,0,0⟩:aq)) pt158 u u u z158 tm tm) (s2 u u)<|.nil)<|pSeq<|wRet<|pBlkR<|pThenR<|pThenR<|pBlkR<|pThenR ?_
    obtain rfl:=so h
    replace h:=hk1
    refine pThenR ?_
    obtain rfl:=so h
    exact pR1 (.inl u) u (.boxP (n:=2) (d:=(kR aM)) (u:=(⟨false,⟨false,0,0⟩,⟨false,0,0⟩,⟨false,0,0⟩,0,0,0,0⟩:aq)) u u pt158 u t158<|.nil)
   ·exact wBF hp16.1 tm (s1 u)<|wSkip<|pBlkN<|pSeq<|rx (c3<|.nil)<|pLoop (lW (ih _ h) ⟨u,u,u,u,u,tv⟩ u)
  ·exact wCF hp14.1 tm (s1 u)<|wExit<|pThenX<|pThenX<|pBlkX<|pJ0 (so h) (sb u) u
 ·rintro rfl
  replace h:=hk1
  refine pSeq ?_
  obtain⟨o1,h,hk1⟩:=bd h
  refine wJ1 (fun x20=>x20=o1) (fun x20=>[(3,.d (sP (kR ae) a1)),(4,.p 4 0),(5,.p 5 0),(7,.p 7 0)]) (fun x20=>[.box 7 158 (L158 x20),.box 5 73 (L73 y1),.box 4 158 [.d kB false,.d kB false,.d ki 0,.d ki 0,.d kB false,.d ki 0,.d ki 0,.d kB false,.d ki 0,.d ki 0,.d ki 0,.d ki 0,.d ki 0,.d ki 0]]) ?_ ?_
  ·refine wSeq ?_
   obtain⟨y21,hy21,h⟩:=bd h
   refine rx (cr (oLdA (n:=1) (fs:=ao) (u:=⟨y1.Op,y1.N,y1.L⟩) u ⟨u,u,u,tv⟩ t73 tm) (s1 u)<|cC (bJ.ok hy21)<|c1<|.nil)<|pSeq ?_
   obtain⟨hp22,h⟩|⟨hp22,h⟩:=ik h
   ·refine wCT hp22.1 tm (s1 u)<|wSeq ?_
    obtain⟨y23,hy23,h⟩:=bd h
    exact rx (c6<|cp (oIdx u33 z88 hy23 tm tm) (s2 u u)<|c2<|cwn (oStP (n:=0) (k:=1) (m:=3) (d:=(kR ak)) (u:=y23) pt88 u u u z88 tm tm) (s2 u u)<|.nil)<|pSeq<|rx (c2<|cr (oLdB (n:=0) (k:=3) u u u t3 tm) (s1 u)<|c1<|cwn (oSt (n:=0) (k:=10) u u u u z3 tm tm) (s2 u u)<|.nil)<|pJ1 _ (so h) (sb u) u
   ·exact wCF hp22.1 tm (s1 u)<|wSkip<|pJ1 _ (so h) (sb u) u
  ·rintro x20 rfl
   replace h:=hk1
   obtain⟨o1,h,hk1⟩:=bd h
   refine wJ1 (fun x27=>x27=o1) (fun x27=>[(3,.d (sP (kR ae) a1)),(4,.p 4 0),(5,.p 5 0),(7,.p 7 0)]) (fun x27=>[.box 7 158 (L158 x27),.box 5 73 (L73 y1),.box 4 158 [.d kB false,.d kB false,.d ki 0,.d ki 0,.d kB false,.d ki 0,.d ki 0,.d kB false,.d ki 0,.d ki 0,.d ki 0,.d ki 0,.d ki 0,.d ki 0]]) ?_ ?_
   ·refine wSeq ?_
    obtain⟨y28,hy28,h⟩:=bd h
    refine rx (cr (oLdA (n:=1) (fs:=ao) (u:=⟨y1.Op,y1.N,y1.L⟩) u ⟨u,u,u,tv⟩ t73 tm) (s1 u)<|cC (bJ.ok hy28)<|c1<|.nil)<|pSeq ?_
    obtain⟨hp29,h⟩|⟨hp29,h⟩:=ik h
    ·refine wCT hp29.1 tm (s1 u)<|wSeq ?_
     obtain⟨y30,hy30,h⟩:=bd h
     exact rx (c6<|cp (oIdx u33 z88 hy30 tm tm) (s2 u u)<|c2<|cwn (oStP (n:=0) (k:=4) (m:=3) (d:=(kR ak)) (u:=y30) pt88 u u u z88 tm tm) (s2 u u)<|.nil)<|pSeq<|rx (c2<|cr (oLdB (n:=0) (k:=6) u u u t3 tm) (s1 u)<|c1<|cwn (oSt (n:=0) (k:=11) u u u u z3 tm tm) (s2 u u)<|.nil)<|pJ1 _ (so h) (sb u) u
    ·exact wCF hp29.1 tm (s1 u)<|wSkip<|pJ1 _ (so h) (sb u) u
   ·rintro x27 rfl
    replace h:=hk1
    refine wSeq<|rx (c1<|cwn (oSt (n:=0) (k:=0) u u u u z4 tm cB) (s1 u)<|.nil)<|pSeq ?_
    obtain⟨o1,h,hk1⟩:=bd h
    refine wJ1 (fun x100=>.inr x100=o1) (fun x100=>[(4,.p 4 0),(7,.p 7 0)]) (fun x100=>[.box 7 158 (L158 x100),.box 5 73 (L73 y1),.box 4 158 [.d kB false,.d kB false,.d ki 0,.d ki 0,.d kB false,.d ki 0,.d ki 0,.d kB false,.d ki 0,.d ki 0,.d ki 0,.d ki 0,.d ki 0,.d ki 0]]) ?_ ?_
    ·refine wSeq<|rx (c1<|cr (oLdB (n:=1) (k:=0) u u u t3 tm) (s1 u)<|.nil)<|pSeq ?_
     obtain⟨o2,h,hk2⟩:=bd h
     refine wK1 (fun x135=>.inr x135=o2) (fun x135=>[(4,.p 4 0),(7,.p 7 0)]) (fun x135=>[.box 7 158 (L158 x135),.box 5 73 (L73 y1),.box 4 158 [.d kB false,.d kB false,.d ki 0,.d ki 0,.d kB false,.d ki 0,.d ki 0,.d kB false,.d ki 0,.d ki 0,.d ki 0,.d ki 0,.d ki 0,.d ki 0]]) ?_ ?_
     ·refine wBlock<|wSeq<|rx (c2<|.nil)<|pSeq ?_
      obtain⟨hp136,h⟩|⟨hp136,h⟩:=ik h
      ·exact wCT hp136.1 tm (s1 u)<|rx (c1<|cr (oLdB (n:=1) (k:=2) u u u t3 tm) (s1 u)<|c1<|cwn (oSt (n:=0) (k:=10) u u u u z3 tm tm) (s2 u u)<|.nil)<|pBlkN<|pJ1 _ (so h) (sb u) u
      ·refine wCF hp136.1 tm (s1 u) ?_
       obtain⟨o3,h,hk3⟩:=bd h
       refine wJ1 (fun x138=>x138=o3) (fun x138=>[(3,.d (sP (kR ae) a1)),(4,.p 4 0),(5,.p 5 0),(7,.p 7 0),(75,.d (ki.sig y1.Op)),(81,.d (kB.sig x138))]) (fun x138=>[.box 7 158 [.d kB true,.d kB x27.A.Ret,.d ki x27.A.V,.d ki x27.A.L,.d kB x27.B.Ret,.d ki x27.B.V,.d ki x27.B.L,.d kB x27.R.Ret,.d ki x27.R.V,.d ki x27.R.L,.d ki x27.One,.d ki x27.Two,.d ki x27.Three,.d ki x27.Below],.box 5 73 (L73 y1),.box 4 158 [.d kB false,.d kB false,.d ki 0,.d ki 0,.d kB false,.d ki 0,.d ki 0,.d kB false,.d ki 0,.d ki 0,.d ki 0,.d ki 0,.d ki 0,.d ki 0]]) ?_ ?_
       ·refine wSeq<|rx (c2<|.nil)<|pSeq ?_
        obtain⟨hp139,h⟩|⟨hp139,h⟩:=ik h
        ·exact wCT hp139.1 tm (s1 u)<|wSkip<|pJ1 _ (so h) (sb u) u
        ·exact wCF hp139.1 tm (s1 u)<|rx (c2<|.nil)<|pJ1 _ (so h) (sb u) u
       ·rintro x138 rfl
        replace h:=hk3
        obtain⟨hp140,h⟩|⟨hp140,h⟩:=ik h
        ·refine wBT hp140.1 tm (s1 u)<|wSeq ?_
         obtain⟨o3,h,hk3⟩:=bd h
         refine wJ1 (fun x142=>x142=o3) (fun x142=>[(3,.d (sP (kR ae) a1)),(4,.p 4 0),(5,.p 5 0),(7,.p 7 0),(96,.d (kB.sig x142))]) (fun x142=>[.box 7 158 [.d kB true,.d kB x27.A.Ret,.d ki x27.A.V,.d ki x27.A.L,.d kB x27.B.Ret,.d ki x27.B.V,.d ki x27.B.L,.d kB x27.R.Ret,.d ki x27.R.V,.d ki x27.R.L,.d ki x27.One,.d ki x27.Two,.d ki x27.Three,.d ki x27.Below],.box 5 73 (L73 y1),.box 4 158 [.d kB false,.d kB false,.d ki 0,.d ki 0,.d kB false,.d ki 0,.d ki 0,.d kB false,.d ki 0,.d ki 0,.d ki 0,.d ki 0,.d ki 0,.d ki 0]]) ?_ ?_
         ·obtain⟨hp143,h⟩|⟨hp143,h⟩:=ik h
          ·exact rx (c2<|cr (oLdB (n:=0) (k:=2) u u u t3 tm) (s1 u)<|c8<|c2<|.nil)<|pJ1 _ (so h) (sb u) u
          ·exact rx (c2<|cr (oLdB (n:=0) (k:=2) u u u t3 tm) (s1 u)<|c4<|crgB (dF hp143.1) u u (oLdB (n:=0) (k:=2) u u u t3 tm) (s1 u)<|c4<|c1<|.nil)<|pJ1 _ (so h) (sb u) u
         ·rintro x142 rfl
          replace h:=hk3
          obtain⟨hp144,h⟩|⟨hp144,h⟩:=ik h
          ·refine wBT hp144.1 tm (s1 u)<|wSeq<|rx (cp (oBuild (fs:=aM) (u:=⟨false,(⟨false,0,0⟩:al),(⟨false,0,0⟩:al),(⟨false,0,0⟩:al),0,0,0,0⟩) u ze158 pl158 po158 (.ze (zc:=[(.bool false)]) zB (.ze (zc:=[(.bool false),(.int .i64 0),(.int .i64 0)]) db (.ze (zc:=[(.bool false),(.int .i64 0),(.int .i64 0)]) db (.ze (zc:=[(.bool false),(.int .i64 0),(.int .i64 0)]) db (.ze (zc:=[(.int .i64 0)]) zI_i64 (.ze (zc:=[(.int .i64 0)]) zI_i64 (.ze (zc:=[(.int .i64 0)]) zI_i64 (.ze (zc:=[(.int .i64 0)]) zI_i64 .nil))))))))) tv<|cwn (oStP (n:=2) (k:=0) (m:=14) (d:=(kR aM)) (u:=(⟨false,(⟨false,0,0⟩:al),(⟨false,0,0⟩:al),(⟨false,0,0⟩:al),0,0,0,0⟩:aq)) pt158 u u u z158 tm tm) (s2 u u)<|.nil)<|pSeq<|wRet<|pThenR<|pBlkR<|pThenR ?_
           obtain rfl:=so h
           replace h:=hk2
           refine pThenR ?_
           obtain rfl:=so h
           replace h:=hk1
           obtain rfl:=so h
           exact pR1 (.inl u) u (.boxP (n:=2) (d:=(kR aM)) (u:=(⟨false,⟨false,0,0⟩,⟨false,0,0⟩,⟨false,0,0⟩,0,0,0,0⟩:aq)) u u pt158 u t158<|.nil)
          ·refine wBF hp144.1 tm (s1 u)<|wSkip<|pSeq<|wSeq<|rx (c1<|cr (oLdB (n:=1) (k:=0) u u u t3 tm) (s1 u)<|c1<|.nil)<|pSeq ?_
           obtain⟨hp145,h⟩|⟨hp145,h⟩:=ik h
           ·refine wCT hp145.1 tm (s1 u) ?_
            obtain⟨y146,hy146,h⟩:=bd h
            exact rx (c4<|cr (oLdB (n:=0) (k:=2) u u u t3 tm) (s1 u)<|cp (oIdx u32 z30 hy146 tm tm) (s2 u u)<|c3<|cwn (oSt (n:=0) (k:=11) u u u u z3 tm tm) (s2 u u)<|.nil)<|pBlkN<|pJ1 _ (so h) (sb u) u
           ·refine wCF hp145.1 tm (s1 u) ?_
            obtain⟨y147,hy147,h⟩:=bd h
            exact rx (c4<|cr (oLdB (n:=0) (k:=2) u u u t3 tm) (s1 u)<|cp (oIdx u32 z30 hy147 tm tm) (s2 u u)<|c3<|cwn (oSt (n:=0) (k:=12) u u u u z3 tm tm) (s2 u u)<|.nil)<|pBlkN<|pJ1 _ (so h) (sb u) u
        ·refine wBF hp140.1 tm (s1 u) ?_
         obtain⟨o3,h,hk3⟩:=bd h
         refine wJ1 (fun x149=>x149=o3) (fun x149=>[(3,.d (sP (kR ae) a1)),(4,.p 4 0),(5,.p 5 0),(7,.p 7 0),(75,.d (ki.sig y1.Op)),(119,.d (kB.sig x149))]) (fun x149=>[.box 7 158 [.d kB true,.d kB x27.A.Ret,.d ki x27.A.V,.d ki x27.A.L,.d kB x27.B.Ret,.d ki x27.B.V,.d ki x27.B.L,.d kB x27.R.Ret,.d ki x27.R.V,.d ki x27.R.L,.d ki x27.One,.d ki x27.Two,.d ki x27.Three,.d ki x27.Below],.box 5 73 (L73 y1),.box 4 158 [.d kB false,.d kB false,.d ki 0,.d ki 0,.d kB false,.d ki 0,.d ki 0,.d kB false,.d ki 0,.d ki 0,.d ki 0,.d ki 0,.d ki 0,.d ki 0]]) ?_ ?_
         ·refine wSeq<|rx (c2<|.nil)<|pSeq ?_
          obtain⟨hp150,h⟩|⟨hp150,h⟩:=ik h
          ·exact wCT hp150.1 tm (s1 u)<|wSkip<|pJ1 _ (so h) (sb u) u
          ·exact wCF hp150.1 tm (s1 u)<|rx (c2<|.nil)<|pJ1 _ (so h) (sb u) u
         ·rintro x149 rfl
          replace h:=hk3
          obtain⟨hp151,h⟩|⟨hp151,h⟩:=ik h
          ·refine wBT hp151.1 tm (s1 u)<|wSeq ?_
           obtain⟨o3,h,hk3⟩:=bd h
           refine wJ1 (fun x153=>x153=o3) (fun x153=>[(3,.d (sP (kR ae) a1)),(4,.p 4 0),(5,.p 5 0),(7,.p 7 0),(131,.d (kB.sig x153))]) (fun x153=>[.box 7 158 [.d kB true,.d kB x27.A.Ret,.d ki x27.A.V,.d ki x27.A.L,.d kB x27.B.Ret,.d ki x27.B.V,.d ki x27.B.L,.d kB x27.R.Ret,.d ki x27.R.V,.d ki x27.R.L,.d ki x27.One,.d ki x27.Two,.d ki x27.Three,.d ki x27.Below],.box 5 73 (L73 y1),.box 4 158 [.d kB false,.d kB false,.d ki 0,.d ki 0,.d kB false,.d ki 0,.d ki 0,.d kB false,.d ki 0,.d ki 0,.d ki 0,.d ki 0,.d ki 0,.d ki 0]]) ?_ ?_
           ·obtain⟨hp154,h⟩|⟨hp154,h⟩:=ik h
            ·exact rx (c2<|cr (oLdB (n:=0) (k:=2) u u u t3 tm) (s1 u)<|c6<|c1<|.nil)<|pJ1 _ (so h) (sb u) u
            ·exact rx (c2<|cr (oLdB (n:=0) (k:=2) u u u t3 tm) (s1 u)<|c4<|crgB (dF hp154.1) u u (oLdB (n:=0) (k:=2) u u u t3 tm) (s1 u)<|c2<|.nil)<|pJ1 _ (so h) (sb u) u
           ·rintro x153 rfl
            replace h:=hk3
            obtain⟨hp155,h⟩|⟨hp155,h⟩:=ik h
            ·refine wBT hp155.1 tm (s1 u)<|wSeq<|rx (cp (oBuild (fs:=aM) (u:=⟨false,(⟨false,0,0⟩:al),(⟨false,0,0⟩:al),(⟨false,0,0⟩:al),0,0,0,0⟩) u ze158 pl158 po158 (.ze (zc:=[(.bool false)]) zB (.ze (zc:=[(.bool false),(.int .i64 0),(.int .i64 0)]) db (.ze (zc:=[(.bool false),(.int .i64 0),(.int .i64 0)]) db (.ze (zc:=[(.bool false),(.int .i64 0),(.int .i64 0)]) db (.ze (zc:=[(.int .i64 0)]) zI_i64 (.ze (zc:=[(.int .i64 0)]) zI_i64 (.ze (zc:=[(.int .i64 0)]) zI_i64 (.ze (zc:=[(.int .i64 0)]) zI_i64 .nil))))))))) tv<|cwn (oStP (n:=2) (k:=0) (m:=14) (d:=(kR aM)) (u:=(⟨false,(⟨false,0,0⟩:al),(⟨false,0,0⟩:al),(⟨false,0,0⟩:al),0,0,0,0⟩:aq)) pt158 u u u z158 tm tm) (s2 u u)<|.nil)<|pSeq<|wRet<|pThenR<|pBlkR<|pThenR ?_
             obtain rfl:=so h
             replace h:=hk2
             refine pThenR ?_
             obtain rfl:=so h
             replace h:=hk1
             obtain rfl:=so h
             exact pR1 (.inl u) u (.boxP (n:=2) (d:=(kR aM)) (u:=(⟨false,⟨false,0,0⟩,⟨false,0,0⟩,⟨false,0,0⟩,0,0,0,0⟩:aq)) u u pt158 u t158<|.nil)
            ·refine wBF hp155.1 tm (s1 u)<|wSkip<|pSeq<|wSeq<|rx (c1<|.nil)<|pSeq ?_
             obtain⟨o3,h,hk3⟩:=bd h
             refine wK0 (.inr ()=o3) ([(4,.p 4 0),(7,.p 7 0)]) ([.box 7 158 [.d kB true,.d kB x27.A.Ret,.d ki x27.A.V,.d ki x27.A.L,.d kB x27.B.Ret,.d ki x27.B.V,.d ki x27.B.L,.d kB x27.R.Ret,.d ki x27.R.V,.d ki x27.R.L,.d ki x27.One,.d ki x27.Two,.d ki x27.Three,.d ki x27.Below],.box 5 73 (L73 y1),.box 4 158 [.d kB false,.d kB false,.d ki 0,.d ki 0,.d kB false,.d ki 0,.d ki 0,.d kB false,.d ki 0,.d ki 0,.d ki 0,.d ki 0,.d ki 0,.d ki 0]]) ?_ ?_
             ·refine wBlock (wLoop ?_)
              refine lW (pc1 o3 (fun v162=>[(3,.d (sP (kR ae) a1)),(4,.p 4 0),(5,.p 5 0),(7,.p 7 0),(9,.d (ki.sig v162))]) (fun v162=>[.box 7 158 [.d kB true,.d kB x27.A.Ret,.d ki x27.A.V,.d ki x27.A.L,.d kB x27.B.Ret,.d ki x27.B.V,.d ki x27.B.L,.d kB x27.R.Ret,.d ki x27.R.V,.d ki x27.R.L,.d ki x27.One,.d ki x27.Two,.d ki x27.Three,.d ki x27.Below],.box 5 73 (L73 y1),.box 4 158 [.d kB false,.d kB false,.d ki 0,.d ki 0,.d kB false,.d ki 0,.d ki 0,.d kB false,.d ki 0,.d ki 0,.d ki 0,.d ki 0,.d ki 0,.d ki 0]]) (aY.l4.partial_correctness a1 y1) ?_ _ h) ⟨u,u,u,u,u,tv⟩ u
              clear h
              intro f' ih v162 h
              refine wSeq<|wSeq<|rx (c2<|cr (oLdB (n:=1) (k:=1) u u u t3 tm) (s1 u)<|c1<|.nil)<|pSeq ?_
              obtain⟨hp163,h⟩|⟨hp163,h⟩:=ik h
              ·refine wCT hp163.1 tm (s1 u)<|wSkip<|pSeq<|wSeq<|wBlock<|wSeq ?_
               obtain⟨y164,hy164,h⟩:=bd h
               refine rx (c3<|cC (dS.ok hy164)<|c1<|.nil)<|pSeq ?_
               obtain⟨hp165,h⟩|⟨hp165,h⟩:=ik h
               ·refine wBT hp165.1 tm (s1 u)<|wSeq<|rx (cp (oBuild (fs:=aM) (u:=⟨false,(⟨false,0,0⟩:al),(⟨false,0,0⟩:al),(⟨false,0,0⟩:al),0,0,0,0⟩) u ze158 pl158 po158 (.ze (zc:=[(.bool false)]) zB (.ze (zc:=[(.bool false),(.int .i64 0),(.int .i64 0)]) db (.ze (zc:=[(.bool false),(.int .i64 0),(.int .i64 0)]) db (.ze (zc:=[(.bool false),(.int .i64 0),(.int .i64 0)]) db (.ze (zc:=[(.int .i64 0)]) zI_i64 (.ze (zc:=[(.int .i64 0)]) zI_i64 (.ze (zc:=[(.int .i64 0)]) zI_i64 (.ze (zc:=[(.int .i64 0)]) zI_i64 .nil))))))))) tv<|cwn (oStP (n:=2) (k:=0) (m:=14) (d:=(kR aM)) (u:=(⟨false,(⟨false,0,0⟩:al),(⟨false,0,0⟩:al),(⟨false,0,0⟩:al),0,0,0,0⟩:aq)) pt158 u u u z158 tm tm) (s2 u u)<|.nil)<|pSeq<|wRet<|pBlkR<|pThenR<|pThenR<|pBlkR<|pThenR ?_
                obtain rfl:=so h
                replace h:=hk3
                refine pBlkR<|pThenR ?_
                obtain rfl:=so h
                replace h:=hk2
                refine pThenR ?_
                obtain rfl:=so h
                replace h:=hk1
                obtain rfl:=so h
                exact pR1 (.inl u) u (.boxP (n:=2) (d:=(kR aM)) (u:=(⟨false,⟨false,0,0⟩,⟨false,0,0⟩,⟨false,0,0⟩,0,0,0,0⟩:aq)) u u pt158 u t158<|.nil)
               ·exact wBF hp165.1 tm (s1 u)<|wSkip<|pBlkN<|pSeq<|rx (c3<|.nil)<|pLoop (lW (ih _ h) ⟨u,u,u,u,u,tv⟩ u)
              ·exact wCF hp163.1 tm (s1 u)<|wExit<|pThenX<|pThenX<|pBlkX<|pJ0 (so h) (sb u) u
             ·rintro rfl
              replace h:=hk3
              exact pBlkN<|pJ1 _ (so h) (sb u) u
          ·refine wBF hp151.1 tm (s1 u)<|wSeq<|rx (c2<|.nil)<|pSeq ?_
           obtain⟨hp166,h⟩|⟨hp166,h⟩:=ik h
           ·refine wCT hp166.1 tm (s1 u)<|wSeq ?_
            obtain⟨y167,hy167,h⟩:=bd h
            refine rx (c2<|cr (oLdB (n:=0) (k:=13) u u u t3 tm) (s1 u)<|cC (cv.ok hy167)<|c1<|.nil)<|pSeq<|wSeq<|wSeq<|rx (c2<|.nil)<|pSeq ?_
            obtain⟨hp168,h⟩|⟨hp168,h⟩:=ik h
            ·refine wCT hp168.1 tm (s1 u)<|wSeq<|rx (cp (oBuild (fs:=aM) (u:=⟨false,(⟨false,0,0⟩:al),(⟨false,0,0⟩:al),(⟨false,0,0⟩:al),0,0,0,0⟩) u ze158 pl158 po158 (.ze (zc:=[(.bool false)]) zB (.ze (zc:=[(.bool false),(.int .i64 0),(.int .i64 0)]) db (.ze (zc:=[(.bool false),(.int .i64 0),(.int .i64 0)]) db (.ze (zc:=[(.bool false),(.int .i64 0),(.int .i64 0)]) db (.ze (zc:=[(.int .i64 0)]) zI_i64 (.ze (zc:=[(.int .i64 0)]) zI_i64 (.ze (zc:=[(.int .i64 0)]) zI_i64 (.ze (zc:=[(.int .i64 0)]) zI_i64 .nil))))))))) tv<|cwn (oStP (n:=2) (k:=0) (m:=14) (d:=(kR aM)) (u:=(⟨false,(⟨false,0,0⟩:al),(⟨false,0,0⟩:al),(⟨false,0,0⟩:al),0,0,0,0⟩:aq)) pt158 u u u z158 tm tm) (s2 u u)<|.nil)<|pSeq<|wRet<|pThenR<|pBlkR<|pThenR ?_
             obtain rfl:=so h
             replace h:=hk2
             refine pThenR ?_
             obtain rfl:=so h
             replace h:=hk1
             obtain rfl:=so h
             exact pR1 (.inl u) u (.boxP (n:=2) (d:=(kR aM)) (u:=(⟨false,⟨false,0,0⟩,⟨false,0,0⟩,⟨false,0,0⟩,0,0,0,0⟩:aq)) u u pt158 u t158<|.nil)
            ·refine wCF hp168.1 tm (s1 u)<|wSkip<|pSeq<|wSeq ?_
             obtain⟨y169,hy169,h⟩:=bd h
             exact rx (c3<|cp (oIdx u33 z88 hy169 tm tm) (s2 u u)<|c2<|cwn (oStP (n:=0) (k:=7) (m:=3) (d:=(kR ak)) (u:=y169) pt88 u u u z88 tm tm) (s2 u u)<|.nil)<|pSeq<|wSeq<|rx (c2<|cr (oLdB (n:=0) (k:=9) u u u t3 tm) (s1 u)<|c1<|cwn (oSt (n:=0) (k:=11) u u u u z3 tm tm) (s2 u u)<|.nil)<|pSeq<|rx (c2<|cwn (oSt (n:=0) (k:=13) u u u u z3 tm tm) (s2 u u)<|.nil)<|pBlkN<|pJ1 _ (so h) (sb u) u
           ·exact wCF hp166.1 tm (s1 u)<|wSkip<|pBlkN<|pJ1 _ (so h) (sb u) u
     ·rintro x135 rfl
      replace h:=hk2
      exact pJ1 _ (so h) (sb u) u
    ·rintro x100 rfl
     replace h:=hk1
     refine wSeq<|rx (cr (oLdP (n:=0) (k:=0) (m:=14) (d:=(kR aM)) (u:=x100) pt158 u u u t158 tm) (s1 u)<|cwn (oStP (n:=2) (k:=0) (m:=14) (d:=(kR aM)) (u:=x100) pt158 u u u z158 tm tm) (s2 u u)<|.nil)<|pSeq<|wRet ?_
     obtain rfl:=so h
     exact pR1 (.inl u) u (.boxP (n:=2) (d:=(kR aM)) (u:=x100) u u pt158 u t158<|.nil)
theorem cL.ok{a0:ab} {r:Int}(h:cL.f a0=some r):FnA PP 161 [(kR aj).sig a0] (ki.sig r):=by
 refine fnIntro Tryz.func161 u (by kernel_rfl) fun H0 w0=>?_
 unfold cL.f at h
 refine wSeq<|rx (c2<|.nil)<|pSeq<|wSeq<|rx (c1<|.nil)<|pSeq<|wSeq<|wSeq<|rx (c4<|.nil)<|pSeq ?_
 obtain⟨o1,h,hk1⟩:=bd h
 refine wK1 (fun x7=>x7=o1) (fun x7=>[(3,.d (ki.sig x7))]) (fun x7=>[]) ?_ ?_
 ·refine wBlock (wLoop ?_)
  refine lW (pc2 o1 (fun v5 v6=>[(1,.d (sP (kR aj) a0)),(3,.d (ki.sig v5)),(7,.d (ki.sig (a0.Up.length:Int))),(8,.d (ki.sig v6))]) (fun v5 v6=>[]) (cL.l0.partial_correctness a0) ?_ _ _ h) ⟨u,u,u,u,tv⟩ u
  clear h
  intro f' ih v5 v6 h
  refine wSeq<|rx (c1<|.nil)<|pSeq<|wSeq ?_
  obtain⟨hp8,h⟩|⟨hp8,h⟩:=ik h
  ·refine wCT hp8.1 tm (s1 u)<|wSkip<|pSeq<|wSeq<|wBlock<|wSeq<|rx (c2<|.nil)<|pSeq ?_
   obtain⟨y9,hy9,h⟩:=bd h
   exact rx (c3<|cC (aT.ok hy9)<|c1<|.nil)<|pBlkN<|pSeq<|rx (c2<|.nil)<|pLoop (lW (ih _ _ h) ⟨u,u,u,u,tv⟩ u)
  ·exact wCF hp8.1 tm (s1 u)<|wExit<|pThenX<|pThenX<|pBlkX<|pJ1 _ (so h) (sb u) u
 ·rintro x7 rfl
  replace h:=hk1
  refine pSeq<|wSeq<|rx (c2<|.nil)<|pSeq<|wRet ?_
  obtain rfl:=so h
  exact pR1 (.inl u) u (.tmp u<|.nil)
theorem bo.okB{rc:ab->(List Int)->(List Int)->Int->Option bY}(hrc:∀{a0:ab} {a1:List Int} {a2:List Int} {a3:Int} {r:bY},rc a0 a1 a2 a3=some r->FnA PP 132 [(kR aj).sig a0,(kL ki).sig a1,(kL ki).sig a2,ki.sig a3] ((kR ba).sig r)){a0:ab} {a1:List Int} {a2:List Int} {a3:Int} {r:bY}(h:bo.B rc a0 a1 a2 a3=some r):FnA PP 132 [(kR aj).sig a0,(kL ki).sig a1,(kL ki).sig a2,ki.sig a3] ((kR ba).sig r):=by
 refine fnIntro Tryz.func132 u (by kernel_rfl) fun H0 w0=>?_
 unfold bo.B at h
 refine wSeq<|rx (c1<|cw (oAlloc (id:=8) (ls:=Z161) ze161 zl161) tv<|.nil)<|pSeq<|wSeq ?_
 obtain⟨y1,hy1,h⟩:=bd h
 refine rx (c2<|cp (oIdx u56 z3 hy1 tm tm) (s2 u u)<|c2<|.nil)<|pSeq<|wSeq<|wSeq<|rx (c2<|.nil)<|pSeq ?_
 obtain⟨hp2,h⟩|⟨hp2,h⟩:=ik h
 ·refine wCT hp2.1 tm (s1 u)<|wSeq<|rx (c3<|cp (oBuild (fs:=ba) (u:=⟨decide (y1=1),0,a3⟩) u ze161 pl161 po161 (.op (zc:=[(.bool false)]) tm u (.ze (zc:=[(.int .i64 0)]) zI_i64 (.op (zc:=[(.int .i64 0)]) tm u .nil)))) (s2 u u)<|cwn (oStA (n:=0) (fs:=ba) u u z161 tm tm) (s2 u u)<|.nil)<|pSeq<|wRet<|pThenR ?_
  obtain rfl:=so h
  exact pR1 (.inl u) u (.box (n:=0) (fs:=ba) (u:=⟨decide (y1=1),0,a3⟩) u u ⟨u,u,u,tv⟩ t161<|.nil)
 ·refine wCF hp2.1 tm (s1 u)<|wSkip<|pSeq<|wSeq<|wSeq<|rx (c2<|.nil)<|pSeq ?_
  obtain⟨hp3,h⟩|⟨hp3,h⟩:=ik h
  ·refine wCT hp3.1 tm (s1 u)<|wSeq ?_
   obtain⟨y4,hy4,h⟩:=bd h
   refine rx (c1<|cC (bA.ok hy4)<|c1<|cp (oBuild (fs:=ba) (u:=⟨false,y4,a3⟩) u ze161 pl161 po161 (.ze (zc:=[(.bool false)]) zB (.op (zc:=[(.int .i64 0)]) tm u (.op (zc:=[(.int .i64 0)]) tm u .nil)))) (s2 u u)<|cwn (oStA (n:=0) (fs:=ba) u u z161 tm tm) (s2 u u)<|.nil)<|pSeq<|wRet<|pThenR ?_
   obtain rfl:=so h
   exact pR1 (.inl u) u (.box (n:=0) (fs:=ba) (u:=⟨false,y4,a3⟩) u u ⟨u,u,u,tv⟩ t161<|.nil)
  ·refine wCF hp3.1 tm (s1 u)<|wSkip<|pSeq<|wSeq<|wSeq<|rx (c2<|.nil)<|pSeq ?_
   obtain⟨hp5,h⟩|⟨hp5,h⟩:=ik h
   ·refine wCT hp5.1 tm (s1 u)<|wSeq ?_
    obtain⟨y6,hy6,h⟩:=bd h
    refine rx (c1<|cC (cL.ok hy6)<|c1<|cp (oBuild (fs:=ba) (u:=⟨false,y6,a3⟩) u ze161 pl161 po161 (.ze (zc:=[(.bool false)]) zB (.op (zc:=[(.int .i64 0)]) tm u (.op (zc:=[(.int .i64 0)]) tm u .nil)))) (s2 u u)<|cwn (oStA (n:=0) (fs:=ba) u u z161 tm tm) (s2 u u)<|.nil)<|pSeq<|wRet<|pThenR ?_
    obtain rfl:=so h
    exact pR1 (.inl u) u (.box (n:=0) (fs:=ba) (u:=⟨false,y6,a3⟩) u u ⟨u,u,u,tv⟩ t161<|.nil)
   ·refine wCF hp5.1 tm (s1 u)<|wSkip<|pSeq<|wSeq ?_
    obtain⟨o1,h,hk1⟩:=bd h
    refine wJ1 (fun x8=>x8=o1) (fun x8=>[(1,.d ((kL ki).sig a1)),(2,.d ((kL ki).sig a2)),(3,.d (ki.sig a3)),(4,.d (sP (kR aj) a0)),(8,.p 8 0),(9,.d (ki.sig y1)),(40,.d (kB.sig x8))]) (fun x8=>[.box 8 161 [.d kB false,.d ki 0,.d ki 0]]) ?_ ?_
    ·obtain⟨hp9,h⟩|⟨hp9,h⟩:=ik h
     ·exact rx (c6<|.nil)<|pJ1 _ (so h) (sb u) u
     ·exact rx (c6<|.nil)<|pJ1 _ (so h) (sb u) u
    ·rintro x8 rfl
     replace h:=hk1
     obtain⟨hp10,h⟩|⟨hp10,h⟩:=ik h
     ·refine wBT hp10.1 tm (s1 u)<|wSeq ?_
      obtain⟨y11,hy11,h⟩:=bd h
      refine rx (c3<|cp (oIdx u56 z3 hy11 tm tm) (s2 u u)<|c2<|cp (oBuild (fs:=ba) (u:=⟨false,y11,a3⟩) u ze161 pl161 po161 (.ze (zc:=[(.bool false)]) zB (.op (zc:=[(.int .i64 0)]) tm u (.op (zc:=[(.int .i64 0)]) tm u .nil)))) (s2 u u)<|cwn (oStA (n:=0) (fs:=ba) u u z161 tm tm) (s2 u u)<|.nil)<|pSeq<|wRet<|pThenR ?_
      obtain rfl:=so h
      exact pR1 (.inl u) u (.box (n:=0) (fs:=ba) (u:=⟨false,y11,a3⟩) u u ⟨u,u,u,tv⟩ t161<|.nil)
     ·refine wBF hp10.1 tm (s1 u)<|wSkip<|pSeq<|wSeq ?_
      obtain⟨y12,hy12,h⟩:=bd h
      refine rx (c4<|c1<|cC (hrc hy12)<|cw (oAlloc (id:=10) (ls:=Z161) ze161 zl161) tv<|cwn (oStA (n:=0) (fs:=ba) u u z161 tm tm) (s2 u u)<|.nil)<|pSeq<|wSeq ?_
      obtain⟨y13,hy13,h⟩:=bd h
      refine rx (c4<|cr (oLdB (n:=0) (k:=2) u u u t3 tm) (s1 u)<|c1<|cC (hrc hy13)<|cw (oAlloc (id:=11) (ls:=Z161) ze161 zl161) tv<|cwn (oStA (n:=0) (fs:=ba) u u z161 tm tm) (s2 u u)<|.nil)<|pSeq<|wSeq<|rx (c1<|cr (oLdB (n:=0) (k:=2) u u u t3 tm) (s1 u)<|cp (oBuild (fs:=ba) (u:=⟨false,0,y13.From⟩) u ze161 pl161 po161 (.ze (zc:=[(.bool false)]) zB (.ze (zc:=[(.int .i64 0)]) zI_i64 (.op (zc:=[(.int .i64 0)]) tm u .nil)))) (s1 u)<|cw (oAlloc (id:=12) (ls:=Z161) ze161 zl161) tv<|cwn (oStA (n:=0) (fs:=ba) u u z161 tm tm) (s2 u u)<|.nil)<|pSeq<|wSeq<|wSeq<|rx (c1<|.nil)<|pSeq ?_
      obtain⟨o1,h,hk1⟩:=bd h
      refine wK2 (fun x28 x29=>(x28,x29)=o1) (fun x28 x29=>[(8,.p 8 0),(12,.p 12 0)]) (fun x28 x29=>[.box 12 161 [.d kB x28,.d ki x29,.d ki y13.From],.box 11 161 (L161 y13),.box 10 161 (L161 y12),.box 8 161 [.d kB false,.d ki 0,.d ki 0]]) ?_ ?_
      ·refine wBlock<|wSeq<|rx (c2<|.nil)<|pSeq ?_
       obtain⟨hp30,h⟩|⟨hp30,h⟩:=ik h
       ·refine wCT hp30.1 tm (s1 u) ?_
        obtain⟨o2,h,hk2⟩:=bd h
        refine wK1 (fun x32=>x32=o2) (fun x32=>[(8,.p 8 0),(12,.p 12 0)]) (fun x32=>[.box 12 161 [.d kB x32,.d ki 0,.d ki y13.From],.box 11 161 (L161 y13),.box 10 161 (L161 y12),.box 8 161 [.d kB false,.d ki 0,.d ki 0]]) ?_ ?_
        ·obtain⟨hp33,h⟩|⟨hp33,h⟩:=ik h
         ·exact rx (c1<|cr (oLdB (n:=1) (k:=0) u u u t4 tm) (s1 u)<|c2<|crgB hp33.1 u u (oLdB (n:=2) (k:=0) u u u t4 tm) (s1 u)<|c2<|cwn (oSt (n:=0) (k:=0) u u u u z4 tm tm) (s2 u u)<|.nil)<|pJ1 _ (so h) (sb u) u
         ·exact rx (c1<|cr (oLdB (n:=1) (k:=0) u u u t4 tm) (s1 u)<|c4<|c1<|cwn (oSt (n:=0) (k:=0) u u u u z4 tm tm) (s2 u u)<|.nil)<|pJ1 _ (so h) (sb u) u
        ·rintro x32 rfl
         replace h:=hk2
         exact pBlkN<|pJ2 _ _ (so h) (sb u) u
       ·refine wCF hp30.1 tm (s1 u)<|wSeq<|rx (c2<|.nil)<|pSeq ?_
        obtain⟨hp34,h⟩|⟨hp34,h⟩:=ik h
        ·refine wCT hp34.1 tm (s1 u) ?_
         obtain⟨o2,h,hk2⟩:=bd h
         refine wK1 (fun x36=>x36=o2) (fun x36=>[(8,.p 8 0),(12,.p 12 0)]) (fun x36=>[.box 12 161 [.d kB x36,.d ki 0,.d ki y13.From],.box 11 161 (L161 y13),.box 10 161 (L161 y12),.box 8 161 [.d kB false,.d ki 0,.d ki 0]]) ?_ ?_
         ·obtain⟨hp37,h⟩|⟨hp37,h⟩:=ik h
          ·exact rx (c1<|cr (oLdB (n:=1) (k:=0) u u u t4 tm) (s1 u)<|c4<|c1<|cwn (oSt (n:=0) (k:=0) u u u u z4 tm tm) (s2 u u)<|.nil)<|pJ1 _ (so h) (sb u) u
          ·exact rx (c1<|cr (oLdB (n:=1) (k:=0) u u u t4 tm) (s1 u)<|c2<|crgB (nb hp37.1) u u (oLdB (n:=2) (k:=0) u u u t4 tm) (s1 u)<|c2<|cwn (oSt (n:=0) (k:=0) u u u u z4 tm tm) (s2 u u)<|.nil)<|pJ1 _ (so h) (sb u) u
         ·rintro x36 rfl
          replace h:=hk2
          exact pBlkN<|pJ2 _ _ (so h) (sb u) u
        ·refine wCF hp34.1 tm (s1 u)<|wSeq<|rx (c2<|.nil)<|pSeq ?_
         obtain⟨hp38,h⟩|⟨hp38,h⟩:=ik h
         ·refine wCT hp38.1 tm (s1 u) ?_
          obtain⟨y39,hy39,h⟩:=bd h
          exact rx (c2<|cr (oLdB (n:=1) (k:=1) u u u t3 tm) (s1 u)<|c1<|cr (oLdB (n:=2) (k:=1) u u u t3 tm) (s1 u)<|cC (au.ok hy39)<|c1<|cwn (oSt (n:=0) (k:=0) u u u u z4 tm tm) (s2 u u)<|.nil)<|pBlkN<|pJ2 _ _ (so h) (sb u) u
         ·refine wCF hp38.1 tm (s1 u)<|wSeq<|rx (c2<|.nil)<|pSeq ?_
          obtain⟨hp40,h⟩|⟨hp40,h⟩:=ik h
          ·refine wCT hp40.1 tm (s1 u) ?_
           obtain⟨y41,hy41,h⟩:=bd h
           exact rx (c2<|cr (oLdB (n:=1) (k:=1) u u u t3 tm) (s1 u)<|c1<|cr (oLdB (n:=2) (k:=1) u u u t3 tm) (s1 u)<|cC (aT.ok hy41)<|c1<|cwn (oSt (n:=0) (k:=1) u u u u z3 tm tm) (s2 u u)<|.nil)<|pBlkN<|pJ2 _ _ (so h) (sb u) u
          ·refine wCF hp40.1 tm (s1 u)<|wSeq<|rx (c2<|.nil)<|pSeq ?_
           obtain⟨hp42,h⟩|⟨hp42,h⟩:=ik h
           ·refine wCT hp42.1 tm (s1 u) ?_
            obtain⟨y43,hy43,h⟩:=bd h
            exact rx (c2<|cr (oLdB (n:=1) (k:=1) u u u t3 tm) (s1 u)<|c1<|cr (oLdB (n:=2) (k:=1) u u u t3 tm) (s1 u)<|cC (aU.ok hy43)<|c1<|cwn (oSt (n:=0) (k:=1) u u u u z3 tm tm) (s2 u u)<|.nil)<|pBlkN<|pJ2 _ _ (so h) (sb u) u
           ·exact wCF hp42.1 tm (s1 u)<|wSkip<|pBlkN<|pJ2 _ _ (so h) (sb u) u
      ·rintro x28 x29 rfl
       replace h:=hk1
       refine pSeq<|wSeq<|rx (cr (oLdA (n:=0) (fs:=ba) (u:=⟨x28,x29,y13.From⟩) u ⟨u,u,u,tv⟩ t161 tm) (s1 u)<|cwn (oStA (n:=3) (fs:=ba) u u z161 tm tm) (s2 u u)<|.nil)<|pSeq<|wRet ?_
       obtain rfl:=so h
       exact pR1 (.inl u) u (.box (n:=3) (fs:=ba) (u:=⟨x28,x29,y13.From⟩) u u ⟨u,u,u,tv⟩ t161<|.nil)
theorem bo.okF:∀(k:Nat) {a0:ab} {a1:List Int} {a2:List Int} {a3:Int} {r:bY},bo.F k a0 a1 a2 a3=some r->FnA PP 132 [(kR aj).sig a0,(kL ki).sig a1,(kL ki).sig a2,ki.sig a3] ((kR ba).sig r)
 |0,_,_,_,_,_,h=>by cases h
 |k+1,_,_,_,_,_,h=>bo.okB (fun h=>bo.okF k h) h
theorem bo.ok{a0:ab} {a1:List Int} {a2:List Int} {a3:Int} {r:bY}(h:bo.f a0 a1 a2 a3=some r):FnA PP 132 [(kR aj).sig a0,(kL ki).sig a1,(kL ki).sig a2,ki.sig a3] ((kR ba).sig r):=bo.okF 1000 h
theorem bM.ok{a0:ab} {a1:List Int} {a2:List Int} {r:bY}(h:bM.f a0 a1 a2=some r):FnA PP 103 [(kR aj).sig a0,(kL ki).sig a1,(kL ki).sig a2] ((kR ba).sig r):=by
 refine fnIntro Tryz.func103 u (by kernel_rfl) fun H0 w0=>?_
 unfold bM.f at h
 refine wSeq<|rx (c1<|cw (oAlloc (id:=6) (ls:=Z161) ze161 zl161) tv<|.nil)<|pSeq<|wSeq ?_
 obtain⟨y1,hy1,h⟩:=bd h
 refine rx (c6<|cC (bo.ok hy1)<|cwn (oStA (n:=0) (fs:=ba) u u z161 tm tm) (s2 u u)<|.nil)<|pSeq<|wRet ?_
 obtain rfl:=so h
 exact pR1 (.inl u) u (.box (n:=0) (fs:=ba) (u:=⟨y1.Is,y1.A,y1.From⟩) u u ⟨u,u,u,tv⟩ t161<|.nil)
theorem cx.ok{a0:aa} {a1:aq} {a2:Int} {r:List am}(h:cx.f a0 a1 a2=some r):FnA PP 104 [(kR ae).sig a0,(kR aM).sig a1,ki.sig a2] ((kL (kR ai)).sig r):=by
 refine fnIntro Tryz.func104 u (by kernel_rfl) fun H0 w0=>?_
 unfold cx.f at h
 refine wSeq<|rx (c2<|cp (oAs cV) tv<|.nil)<|pSeq<|wSeq<|rx (cw (oLitR (id:=10) (d:=(kR ai)) el32 (by decide) u u u e0) tv<|c1<|.nil)<|pSeq<|wSeq<|wSeq<|rx (c4<|.nil)<|pSeq<|wWeak (Γ':=[(2,.d (ki.sig a2)),(3,.d (sP (kR ae) a0)),(4,.d (sP (kR aM) a1)),(7,.v 10),(12,.d ((kL (kR ai)).sig a0.Mem)),(13,.d (ki.sig (a0.Mem.length:Int))),(14,.d (ki.sig 0))]) (sb u)<|wRen 10 1007 u ?_
 obtain⟨o1,h,hk1⟩:=bd h
 refine wK1 (fun x43=>x43=o1) (fun x43=>[(7,.v 1007)]) (fun x43=>[.row 1007 30 (kR ai) x43]) ?_ ?_
 ·refine wBlock (wLoop ?_)
  refine lW (pc2 o1 (fun v41 v42=>[(2,.d (ki.sig a2)),(3,.d (sP (kR ae) a0)),(4,.d (sP (kR aM) a1)),(7,.v 1007),(12,.d ((kL (kR ai)).sig a0.Mem)),(13,.d (ki.sig (a0.Mem.length:Int))),(14,.d (ki.sig v42))]) (fun v41 v42=>[.row 1007 30 (kR ai) v41]) (cx.l0.partial_correctness a0 a1 a2) ?_ _ _ h) ⟨u,u,u,u,u,u,u,tv⟩ u
  clear h
  intro f' ih v41 v42 h
  refine wSeq<|rx (c1<|.nil)<|pSeq<|wSeq ?_
  obtain⟨hp44,h⟩|⟨hp44,h⟩:=ik h
  ·refine wCT hp44.1 tm (s1 u)<|wSkip<|pSeq ?_
   obtain⟨o2,h,hk2⟩:=bd h
   refine wJ1 (fun x54=>x54=o2) (fun x54=>[(2,.d (ki.sig a2)),(3,.d (sP (kR ae) a0)),(4,.d (sP (kR aM) a1)),(7,.v 1007),(12,.d ((kL (kR ai)).sig a0.Mem)),(13,.d (ki.sig (a0.Mem.length:Int))),(14,.d (ki.sig v42))]) (fun x54=>[.row 1007 30 (kR ai) x54]) ?_ ?_
   ·refine wBlock<|wSeq ?_
    obtain⟨y55,hy55,h⟩:=bd h
    refine rx (c1<|cp (oIdx u32 z30 hy55 tm tm) (s2 u u)<|c1<|cw (oAlloc (id:=9) (ls:=Z30) ze30 zl30) tv<|c1<|cwn (oStA (n:=0) (fs:=ai) u u z30 tm tm) (s2 u u)<|.nil)<|pSeq<|wSeq ?_
    obtain⟨o3,h,hk3⟩:=bd h
    refine wJ1 (fun x58=>x58=o3) (fun x58=>[(2,.d (ki.sig a2)),(3,.d (sP (kR ae) a0)),(4,.d (sP (kR aM) a1)),(7,.v 1007),(9,.p 9 0),(12,.d ((kL (kR ai)).sig a0.Mem)),(13,.d (ki.sig (a0.Mem.length:Int))),(14,.d (ki.sig v42)),(34,.d (kB.sig x58))]) (fun x58=>[.box 9 30 [.d ki y55.V,.d ki y55.L],.row 1007 30 (kR ai) v41]) ?_ ?_
    ·obtain⟨y59,hy59,h⟩:=bd h
     obtain⟨hp60,h⟩|⟨hp60,h⟩:=ik h
     ·exact rx (c4<|c1<|cp (oIdx u31 z73 hy59 tm tm) (s2 u u)<|c8<|c2<|.nil)<|pJ1 _ (so h) (sb u) u
     ·exact rx (c4<|c1<|cp (oIdx u31 z73 hy59 tm tm) (s2 u u)<|c8<|c2<|.nil)<|pJ1 _ (so h) (sb u) u
    ·rintro x58 rfl
     replace h:=hk3
     obtain⟨hp61,h⟩|⟨hp61,h⟩:=ik h
     ·refine wBT hp61.1 tm (s1 u)<|rx (c4<|cp (oBuild (fs:=ai) (u:=⟨a1.B.V,a2⟩) u ze30 pl30 po30 (.op (zc:=[(.int .i64 0)]) tm u (.op (zc:=[(.int .i64 0)]) tm u .nil))) (s2 u u)<|cwn (oStA (n:=0) (fs:=ai) u u z30 tm tm) (s2 u u)<|.nil)<|pSeq ?_
      obtain⟨hc62,h⟩:=ib h
      exact rx (c1<|cr (oLdA (n:=0) (fs:=ai) (u:=⟨a1.B.V,a2⟩) u ⟨u,u,tv⟩ t30 tm) (s1 u)<|cp (oLit (d:=(kR ai)) el32 (by decide) u u u (e1 tm e0)) (s1 u)<|cw (oApp (n:=1) (id':=43) el32 (by decide) u (by decide) hc62 tm tm) (s2 u u)<|c1<|.nil)<|pBlkN<|pDrop (.cons _ (.cons_cons _ .slnil))<|pSub (Γ':=[(2,.d (ki.sig a2)),(3,.d (sP (kR ae) a0)),(4,.d (sP (kR aM) a1)),(7,.v 43),(12,.d ((kL (kR ai)).sig a0.Mem)),(13,.d (ki.sig (a0.Mem.length:Int))),(14,.d (ki.sig v42))]) (sb u)<|pRen 43 1007 u<|pJ1 _ (so h) (sb u) u
     ·refine wBF hp61.1 tm (s1 u)<|wSkip<|pSeq ?_
      obtain⟨hc63,h⟩:=ib h
      exact rx (c1<|cr (oLdA (n:=0) (fs:=ai) (u:=⟨y55.V,y55.L⟩) u ⟨u,u,tv⟩ t30 tm) (s1 u)<|cp (oLit (d:=(kR ai)) el32 (by decide) u u u (e1 tm e0)) (s1 u)<|cw (oApp (n:=1) (id':=43) el32 (by decide) u (by decide) hc63 tm tm) (s2 u u)<|c1<|.nil)<|pBlkN<|pDrop (.cons _ (.cons_cons _ .slnil))<|pSub (Γ':=[(2,.d (ki.sig a2)),(3,.d (sP (kR ae) a0)),(4,.d (sP (kR aM) a1)),(7,.v 43),(12,.d ((kL (kR ai)).sig a0.Mem)),(13,.d (ki.sig (a0.Mem.length:Int))),(14,.d (ki.sig v42))]) (sb u)<|pRen 43 1007 u<|pJ1 _ (so h) (sb u) u
   ·rintro x54 rfl
    replace h:=hk2
    exact rx (c2<|.nil)<|pLoop (lW (ih _ _ h) ⟨u,u,u,u,u,u,u,tv⟩ u)
  ·exact wCF hp44.1 tm (s1 u)<|wExit<|pThenX<|pThenX<|pBlkX<|pJ1 _ (so h) (sb u) u
 ·rintro x43 rfl
  replace h:=hk1
  refine pSeq<|wSeq<|rx (c2<|.nil)<|pSeq<|wFrzR (n:=0) (id:=1007) [6] u u ⟨u,tv⟩<|wRet ?_
  obtain rfl:=so h
  exact pR1 (.inl u) u (.tmp u<|.nil)
theorem ck.ok{a0:List al} {a1:al} {r:List al}(h:ck.f a0 a1=some r):FnA PP 133 [(kL (kR ak)).sig a0,(kR ak).sig a1] ((kL (kR ak)).sig r):=by
 refine fnIntro Tryz.func133 u (by kernel_rfl) fun H0 w0=>?_
 unfold ck.f at h
 refine wSeq<|rx (c1<|cp (oAs cV) tv<|.nil)<|pSeq<|wSeq<|rx (cw (oLitR (id:=6) (d:=(kR ak)) el33 (by decide) u u u e0) tv<|c1<|.nil)<|pSeq<|wSeq ?_
 obtain⟨hc1,h⟩:=ib h
 refine rx (c2<|cw (oApp (n:=0) (id':=9) el33 (by decide) u (by decide) hc1 tm tm) (s2 u u)<|c1<|.nil)<|pSeq<|wSeq ?_
 obtain⟨hc2,h⟩:=ib h
 refine rx (c2<|cp (oLit (d:=(kR ak)) el33 (by decide) u u u (e1 tm e0)) (s1 u)<|cw (oApp (n:=0) (id':=13) el33 (by decide) u (by decide) hc2 tm tm) (s2 u u)<|c1<|.nil)<|pSeq<|wSeq<|rx (c2<|.nil)<|pSeq<|wFrzR (n:=0) (id:=13) [4] u u ⟨u,tv⟩<|wRet ?_
 obtain rfl:=so h
 exact pR1 (.inl u) u (.tmp u<|.nil)
theorem dV.ok{a0:List al} {a1:al} {r:(List al)}(h:dV.f a0 a1=some r):FnS PP 133 [.d ((kL (kR ak)).sig a0),.d ((kR ak).sig a1)] [] [] (.v 80000) [.row 80000 88 (kR ak) r]:=by
 refine fnIntroS Tryz.func133 u (by kernel_rfl) fun X H0 w0 pv=>?_
 unfold dV.f at h
 refine wSeq<|rx (c1<|cp (oAs cV) tv<|.nil)<|pSeq<|wSeq<|rx (cw (oLitR (id:=6) (d:=(kR ak)) el33 (by decide) u u u e0) tv<|c1<|.nil)<|pSeq<|wSeq ?_
 obtain⟨hc1,h⟩:=ib h
 refine rx (c2<|cw (oApp (n:=0) (id':=9) el33 (by decide) u (by decide) hc1 tm tm) (s2 u u)<|c1<|.nil)<|pSeq<|wSeq ?_
 obtain⟨hc2,h⟩:=ib h
 refine rx (c2<|cp (oLit (d:=(kR ak)) el33 (by decide) u u u (e1 tm e0)) (s1 u)<|cw (oApp (n:=0) (id':=13) el33 (by decide) u (by decide) hc2 tm tm) (s2 u u)<|c1<|.nil)<|pSeq<|wSeq<|rx (c2<|.nil)<|pSeq<|wRet ?_
 obtain rfl:=so h
 exact pSub (Γ':=[(4,.v 13)]) (sb u)<|pRen 13 80000 u<|pSv [0] u u (.inl u) u u
theorem dN.ok{a0:aa} {a1:aq} {a2:Int} {r:List al}(h:dN.f a0 a1 a2=some r):FnA PP 105 [(kR ae).sig a0,(kR aM).sig a1,ki.sig a2] ((kL (kR ak)).sig r):=by
 refine fnIntro Tryz.func105 u (by kernel_rfl) fun H0 w0=>?_
 unfold dN.f at h
 refine wSeq<|rx (c2<|cp (oAs cV) tv<|.nil)<|pSeq<|wSeq ?_
 obtain⟨y1,hy1,h⟩:=bd h
 refine rx (c4<|c1<|cp (oIdx u31 z73 hy1 tm tm) (s2 u u)<|c1<|cw (oAlloc (id:=7) (ls:=Z73) ze73 zl73) tv<|cwn (oStA (n:=0) (fs:=ao) u u z73 tm tm) (s2 u u)<|.nil)<|pSeq<|wSeq ?_
 obtain⟨hc2,h⟩:=ib h
 refine rx (c4<|cp (oCutHi u33 z88 hc2.1 hc2.2 tm tm) (s2 u u)<|c1<|.nil)<|pSeq<|wSeq<|wSeq<|rx (c1<|cr (oLdB (n:=0) (k:=0) u u u t3 tm) (s1 u)<|.nil)<|pSeq ?_
 obtain⟨o1,h,hk1⟩:=bd h
 refine wK0 (.inr ()=o1) ([(8,.d ((kL (kR ak)).sig (lCut a0.Stack 0 a1.Below)))]) ([.box 7 73 (L73 y1)]) ?_ ?_
 ·refine wBlock<|wSeq<|rx (c2<|.nil)<|pSeq ?_
  obtain⟨hp20,h⟩|⟨hp20,h⟩:=ik h
  ·refine wCT hp20.1 tm (s1 u)<|wSeq ?_
   obtain⟨y21,hy21,h⟩:=bd h
   refine rx (c2<|cr (oLdB (n:=0) (k:=1) u u u t3 tm) (s1 u)<|c1<|cp (oBuild (fs:=ak) (u:=⟨false,y1.N,a2⟩) u ze88 pl88 po88 (.ze (zc:=[(.bool false)]) zB (.op (zc:=[(.int .i64 0)]) tm u (.op (zc:=[(.int .i64 0)]) tm u .nil)))) (s2 u u)<|cC (ck.ok hy21)<|c1<|.nil)<|pSeq<|wRet<|pBlkR<|pThenR ?_
   obtain rfl:=so h
   replace h:=hk1
   refine pThenR ?_
   obtain rfl:=so h
   exact pR1 (.inl u) u (.tmp u<|.nil)
  ·refine wCF hp20.1 tm (s1 u)<|wSeq<|rx (c2<|.nil)<|pSeq ?_
   obtain⟨hp22,h⟩|⟨hp22,h⟩:=ik h
   ·refine wCT hp22.1 tm (s1 u)<|wSeq ?_
    obtain⟨y23,hy23,h⟩:=bd h
    refine rx (c8<|c1<|cp (oBuild (fs:=ak) (u:=⟨false,IntKind.i64.wrap (a1.B.V+a1.A.V),a2⟩) u ze88 pl88 po88 (.ze (zc:=[(.bool false)]) zB (.op (zc:=[(.int .i64 0)]) tm u (.op (zc:=[(.int .i64 0)]) tm u .nil)))) (s2 u u)<|cC (ck.ok hy23)<|c1<|.nil)<|pSeq<|wRet<|pBlkR<|pThenR ?_
    obtain rfl:=so h
    replace h:=hk1
    refine pThenR ?_
    obtain rfl:=so h
    exact pR1 (.inl u) u (.tmp u<|.nil)
   ·refine wCF hp22.1 tm (s1 u)<|wSeq<|rx (c2<|.nil)<|pSeq ?_
    obtain⟨hp24,h⟩|⟨hp24,h⟩:=ik h
    ·refine wCT hp24.1 tm (s1 u)<|wSeq ?_
     obtain⟨y25,hy25,h⟩:=bd h
     refine rx (c8<|c1<|cp (oBuild (fs:=ak) (u:=⟨false,IntKind.i64.wrap (a1.B.V-a1.A.V),a2⟩) u ze88 pl88 po88 (.ze (zc:=[(.bool false)]) zB (.op (zc:=[(.int .i64 0)]) tm u (.op (zc:=[(.int .i64 0)]) tm u .nil)))) (s2 u u)<|cC (ck.ok hy25)<|c1<|.nil)<|pSeq<|wRet<|pBlkR<|pThenR ?_
     obtain rfl:=so h
     replace h:=hk1
     refine pThenR ?_
     obtain rfl:=so h
     exact pR1 (.inl u) u (.tmp u<|.nil)
    ·refine wCF hp24.1 tm (s1 u)<|wSeq<|rx (c2<|.nil)<|pSeq ?_
     obtain⟨hp26,h⟩|⟨hp26,h⟩:=ik h
     ·refine wCT hp26.1 tm (s1 u)<|wSeq ?_
      obtain⟨y27,hy27,h⟩:=bd h
      obtain⟨y28,hy28,h⟩:=bd h
      refine rx (c6<|cp (oIdx u32 z30 hy27 tm tm) (s2 u u)<|c3<|cp (oBuild (fs:=ak) (u:=⟨false,y27.V,a2⟩) u ze88 pl88 po88 (.ze (zc:=[(.bool false)]) zB (.op (zc:=[(.int .i64 0)]) tm u (.op (zc:=[(.int .i64 0)]) tm u .nil)))) (s2 u u)<|cC (ck.ok hy28)<|c1<|.nil)<|pSeq<|wRet<|pBlkR<|pThenR ?_
      obtain rfl:=so h
      replace h:=hk1
      refine pThenR ?_
      obtain rfl:=so h
      exact pR1 (.inl u) u (.tmp u<|.nil)
     ·refine wCF hp26.1 tm (s1 u)<|wSeq<|rx (c2<|.nil)<|pSeq ?_
      obtain⟨hp29,h⟩|⟨hp29,h⟩:=ik h
      ·refine wCT hp29.1 tm (s1 u)<|wSeq ?_
       obtain⟨hc30,h⟩:=ib h
       obtain⟨y31,hy31,h⟩:=bd h
       refine rdx hm (c4<|cr (oLdB (n:=0) (k:=1) u u u t3 tm) (s1 u)<|c1<|cp (oCutHi u33 z88 hc30.1 hc30.2 tm tm) (s2 u u)<|c6<|c1<|cp (oBuild (fs:=ak) (u:=⟨true,IntKind.i64.wrap (a0.Pc.V+1),a0.Pc.L⟩) u ze88 pl88 po88 (.op (zc:=[(.bool false)]) cB u (.op (zc:=[(.int .i64 0)]) tm u (.op (zc:=[(.int .i64 0)]) tm u .nil)))) (s2 u u)<|cm (oCallS (rest:=[.box 7 73 (L73 y1)]) (R':=[.row 430600 88 (kR ak) y31,.box 7 73 (L73 y1)]) (out':=.v 430600) [] [(80000,430600)] [] [0] [0,1] u (dV.ok hy31) b133 (oE1 tm (oE1 tm oE0)) u u u u u u u u) (s2 u u)<|c1<|.nil)<|pSeq<|wSeq ?_
       obtain⟨hc32,h⟩:=ib h
       obtain⟨hc33,h⟩:=ib h
       refine rx (c4<|c1<|cr (oLdB (n:=1) (k:=1) u u u t3 tm) (s1 u)<|c1<|cp (oCutLo u33 z88 hc32.1 hc32.2 tm tm) (s2 u u)<|cw (oApp (n:=0) (id':=98) el33 (by decide) u (by decide) hc33 tm tm) (s2 u u)<|c1<|.nil)<|pSeq<|wSeq<|rx (c2<|.nil)<|pSeq<|wFrzR (n:=0) (id:=98) [6] u u ⟨u,tv⟩<|wRet<|pBlkR<|pThenR ?_
       obtain rfl:=so h
       replace h:=hk1
       refine pThenR ?_
       obtain rfl:=so h
       exact pR1 (.inl u) u (.tmp u<|.nil)
      ·refine wCF hp29.1 tm (s1 u)<|wSeq<|rx (c2<|.nil)<|pSeq ?_
       obtain⟨hp34,h⟩|⟨hp34,h⟩:=ik h
       ·refine wCT hp34.1 tm (s1 u)<|wSeq<|rx (c1<|cr (oLdB (n:=0) (k:=1) u u u t3 tm) (s1 u)<|c1<|.nil)<|pSeq ?_
        obtain⟨hp35,h⟩|⟨hp35,h⟩:=ik h
        ·refine wCT hp35.1 tm (s1 u)<|wSeq ?_
         obtain⟨y36,hy36,h⟩:=bd h
         refine rx (c4<|c1<|cp (oBuild (fs:=ak) (u:=⟨false,a1.A.V,a2⟩) u ze88 pl88 po88 (.ze (zc:=[(.bool false)]) zB (.op (zc:=[(.int .i64 0)]) tm u (.op (zc:=[(.int .i64 0)]) tm u .nil)))) (s2 u u)<|cC (ck.ok hy36)<|c1<|.nil)<|pSeq<|wRet<|pBlkR<|pThenR ?_
         obtain rfl:=so h
         replace h:=hk1
         refine pThenR ?_
         obtain rfl:=so h
         exact pR1 (.inl u) u (.tmp u<|.nil)
        ·exact wCF hp35.1 tm (s1 u)<|wSkip<|pBlkN<|pJ0 (so h) (sb u) u
       ·exact wCF hp34.1 tm (s1 u)<|wSkip<|pBlkN<|pJ0 (so h) (sb u) u
 ·rintro rfl
  replace h:=hk1
  refine pSeq<|wSeq<|rx (c2<|.nil)<|pSeq<|wRet ?_
  obtain rfl:=so h
  exact pR1 (.inl u) u (.tmp u<|.nil)
theorem ee.ok{a0:aa} {a1:aq} {r:Int}(h:ee.f a0 a1=some r):FnA PP 106 [(kR ae).sig a0,(kR aM).sig a1] (ki.sig r):=by
 refine fnIntro Tryz.func106 u (by kernel_rfl) fun H0 w0=>?_
 unfold ee.f at h
 refine wSeq<|rx (c3<|.nil)<|pSeq<|wSeq ?_
 obtain⟨y1,hy1,h⟩:=bd h
 refine rx (c4<|c1<|cp (oIdx u31 z73 hy1 tm tm) (s2 u u)<|c1<|cw (oAlloc (id:=5) (ls:=Z73) ze73 zl73) tv<|cwn (oStA (n:=0) (fs:=ao) u u z73 tm tm) (s2 u u)<|.nil)<|pSeq<|wSeq ?_
 obtain⟨o1,h,hk1⟩:=bd h
 refine wJ1 (fun x3=>x3=o1) (fun x3=>[(2,.d (sP (kR ae) a0)),(3,.d (sP (kR aM) a1)),(5,.p 5 0),(20,.d (kB.sig x3))]) (fun x3=>[.box 5 73 (L73 y1)]) ?_ ?_
 ·obtain⟨hp4,h⟩|⟨hp4,h⟩:=ik h
  ·exact rx (c1<|cr (oLdB (n:=0) (k:=0) u u u t3 tm) (s1 u)<|c6<|.nil)<|pJ1 _ (so h) (sb u) u
  ·exact rx (c1<|cr (oLdB (n:=0) (k:=0) u u u t3 tm) (s1 u)<|c3<|crgB (dF hp4.1) u u (oLdB (n:=0) (k:=0) u u u t3 tm) (s1 u)<|c2<|.nil)<|pJ1 _ (so h) (sb u) u
 ·rintro x3 rfl
  replace h:=hk1
  obtain⟨hp5,h⟩|⟨hp5,h⟩:=ik h
  ·refine wBT hp5.1 tm (s1 u)<|wSeq<|rx (c4<|.nil)<|pSeq<|wRet<|pThenR ?_
   obtain rfl:=so h
   exact pR1 (.inl u) u (.tmp u<|.nil)
  ·refine wBF hp5.1 tm (s1 u)<|wSkip<|pSeq<|wSeq<|wSeq<|rx (c1<|cr (oLdB (n:=0) (k:=0) u u u t3 tm) (s1 u)<|c1<|.nil)<|pSeq ?_
   obtain⟨hp6,h⟩|⟨hp6,h⟩:=ik h
   ·refine wCT hp6.1 tm (s1 u)<|wSeq<|rx (c4<|.nil)<|pSeq<|wRet<|pThenR ?_
    obtain rfl:=so h
    exact pR1 (.inl u) u (.tmp u<|.nil)
   ·refine wCF hp6.1 tm (s1 u)<|wSkip<|pSeq<|wSeq ?_
    obtain⟨o1,h,hk1⟩:=bd h
    refine wJ1 (fun x8=>x8=o1) (fun x8=>[(2,.d (sP (kR ae) a0)),(5,.p 5 0),(38,.d (kB.sig x8))]) (fun x8=>[.box 5 73 (L73 y1)]) ?_ ?_
    ·obtain⟨hp9,h⟩|⟨hp9,h⟩:=ik h
     ·exact rx (c1<|cr (oLdB (n:=0) (k:=0) u u u t3 tm) (s1 u)<|c6<|c1<|.nil)<|pJ1 _ (so h) (sb u) u
     ·exact rx (c1<|cr (oLdB (n:=0) (k:=0) u u u t3 tm) (s1 u)<|c6<|c1<|.nil)<|pJ1 _ (so h) (sb u) u
    ·rintro x8 rfl
     replace h:=hk1
     obtain⟨hp10,h⟩|⟨hp10,h⟩:=ik h
     ·refine wBT hp10.1 tm (s1 u)<|wSeq<|rx (c1<|cr (oLdB (n:=0) (k:=1) u u u t3 tm) (s1 u)<|c1<|.nil)<|pSeq<|wRet<|pThenR ?_
      obtain rfl:=so h
      exact pR1 (.inl u) u (.tmp u<|.nil)
     ·refine wBF hp10.1 tm (s1 u)<|wSkip<|pSeq<|wSeq<|rx (c4<|c1<|.nil)<|pSeq<|wRet ?_
      obtain rfl:=so h
      exact pR1 (.inl u) u (.tmp u<|.nil)
end Go.Proofs.YtmjcpkmongafnaaGreatDoor.TT
