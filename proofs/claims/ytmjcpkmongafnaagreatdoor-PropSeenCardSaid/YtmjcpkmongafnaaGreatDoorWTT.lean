import Derived.Test.YtmjcpkmongafnaaGreatDoorCln
import Derived.Test.YtmjcpkmongafnaaGreatDoorWTTp3
import Derived.Test.YtmjcpkmongafnaaGreatDoorProg
set_option linter.unusedVariables false
set_option maxRecDepth 10000
set_option maxHeartbeats 2000000
set_option synthInstance.maxHeartbeats 200000
set_option synthInstance.maxSize 2000
namespace Go.Proofs.YtmjcpkmongafnaaGreatDoor.TT
open Go Go.Proofs.YtmjcpkmongafnaaGreatDoor.Ab
theorem dJ.ok{a0:ab} {a1:aZ} {a2:aa} {r:aP}(h:dJ.f a0 a1 a2=some r):FnA PP 63 [(kR aj).sig a0,(kR aL).sig a1,(kR ae).sig a2] ((kR bj).sig r):=by
 refine fnIntro Tryz.func63 u (by kernel_rfl) fun H0 w0=>?_
 unfold dJ.f at h
 refine wSeq<|rx (c3<|cw (oAlloc (id:=6) (ls:=Z127) ze127 zl127) tv<|.nil)<|pSeq<|wSeq<|wSeq<|rx (c6<|c1<|.nil)<|pSeq ?_
 obtain⟨hp1,h⟩|⟨hp1,h⟩:=ik h
 ·refine wCT hp1.1 tm (s1 u)<|wSeq<|rx (c1<|cp (oBuild (fs:=bj) (u:=⟨a2,3⟩) u ze127 pl127 po127 (.op (zc:=[(.int .i64 0),(.int .i64 0),(.slice none 0 0),(.slice none 0 0),(.slice none 0 0),(.slice none 0 0)]) tm u (.op (zc:=[(.int .i64 0)]) (cI (by decide)) u .nil))) (s1 u)<|cwn (oStP (n:=0) (k:=0) (m:=7) (d:=(kR bj)) (u:=(⟨a2,3⟩:aP)) pt127 u u u z127 tm tm) (s2 u u)<|.nil)<|pSeq<|wRet<|pThenR ?_
  obtain rfl:=so h
  exact pR1 (.inl u) u (.boxP (n:=0) (d:=(kR bj)) (u:=(⟨a2,3⟩:aP)) u u pt127 u t127<|.nil)
 ·refine wCF hp1.1 tm (s1 u)<|wSkip<|pSeq<|wSeq ?_
  obtain⟨y2,hy2,h⟩:=bd h
  refine rx (c2<|cC (aY.ok hy2)<|cw (oAlloc (id:=7) (ls:=Z158) ze158 zl158) tv<|cwn (oStP (n:=0) (k:=0) (m:=14) (d:=(kR aM)) (u:=y2) pt158 u u u z158 tm tm) (s2 u u)<|.nil)<|pSeq<|wSeq ?_
  obtain⟨y3,hy3,h⟩:=bd h
  refine rx (c4<|c1<|cp (oIdx u31 z73 hy3 tm tm) (s2 u u)<|c1<|cw (oAlloc (id:=8) (ls:=Z73) ze73 zl73) tv<|cwn (oStA (n:=0) (fs:=ao) u u z73 tm tm) (s2 u u)<|.nil)<|pSeq<|wSeq<|wSeq<|rx (c1<|cr (oLdB (n:=1) (k:=0) u u u t4 tm) (s1 u)<|c1<|.nil)<|pSeq ?_
  obtain⟨hp4,h⟩|⟨hp4,h⟩:=ik h
  ·refine wBT hp4.1 tm (s1 u)<|wSeq<|rx (c1<|cp (oBuild (fs:=bj) (u:=⟨a2,3⟩) u ze127 pl127 po127 (.op (zc:=[(.int .i64 0),(.int .i64 0),(.slice none 0 0),(.slice none 0 0),(.slice none 0 0),(.slice none 0 0)]) tm u (.op (zc:=[(.int .i64 0)]) (cI (by decide)) u .nil))) (s1 u)<|cwn (oStP (n:=2) (k:=0) (m:=7) (d:=(kR bj)) (u:=(⟨a2,3⟩:aP)) pt127 u u u z127 tm tm) (s2 u u)<|.nil)<|pSeq<|wRet<|pThenR ?_
   obtain rfl:=so h
   exact pR1 (.inl u) u (.boxP (n:=2) (d:=(kR bj)) (u:=(⟨a2,3⟩:aP)) u u pt127 u t127<|.nil)
  ·refine wBF hp4.1 tm (s1 u)<|wSkip<|pSeq<|wSeq<|wSeq<|rx (c1<|cr (oLdB (n:=0) (k:=0) u u u t3 tm) (s1 u)<|c1<|.nil)<|pSeq ?_
   obtain⟨hp5,h⟩|⟨hp5,h⟩:=ik h
   ·refine wCT hp5.1 tm (s1 u)<|wSeq<|rx (c1<|cp (oBuild (fs:=bj) (u:=⟨a2,1⟩) u ze127 pl127 po127 (.op (zc:=[(.int .i64 0),(.int .i64 0),(.slice none 0 0),(.slice none 0 0),(.slice none 0 0),(.slice none 0 0)]) tm u (.op (zc:=[(.int .i64 0)]) (cI (by decide)) u .nil))) (s1 u)<|cwn (oStP (n:=2) (k:=0) (m:=7) (d:=(kR bj)) (u:=(⟨a2,1⟩:aP)) pt127 u u u z127 tm tm) (s2 u u)<|.nil)<|pSeq<|wRet<|pThenR ?_
    obtain rfl:=so h
    exact pR1 (.inl u) u (.boxP (n:=2) (d:=(kR bj)) (u:=(⟨a2,1⟩:aP)) u u pt127 u t127<|.nil)
   ·refine wCF hp5.1 tm (s1 u)<|wSkip<|pSeq<|wSeq<|rx (c4<|cr (oLdB (n:=1) (k:=10) u u u t3 tm) (s1 u)<|c1<|cr (oLdB (n:=1) (k:=11) u u u t3 tm) (s1 u)<|c1<|cr (oLdB (n:=1) (k:=12) u u u t3 tm) (s1 u)<|cp (oLit (d:=ki) el56 (by decide) u u u (e1 tm (e1 tm (e1 tm (e1 tm e0))))) ⟨u,u,u,u,tv⟩<|c1<|.nil)<|pSeq<|wSeq ?_
    obtain⟨y6,hy6,h⟩:=bd h
    refine rx (c3<|cr (oLdB (n:=0) (k:=0) u u u t3 tm) (s1 u)<|cp (oIdx u26 z58 hy6 tm tm) (s2 u u)<|c1<|cw (oAlloc (id:=10) (ls:=Z58) ze58 zl58) tv<|cwn (oStA (n:=0) (fs:=aJ) u u z58 tm tm) (s2 u u)<|.nil)<|pSeq<|wSeq<|wSeq ?_
    obtain⟨y7,hy7,h⟩:=bd h
    refine rx (c2<|cr (oLdB (n:=0) (k:=0) u u u t56 tm) (s1 u)<|c1<|cC (bM.ok hy7)<|cp (oField (fs:=ba) (k:=0) u ff161_0 t4 tm) (s1 u)<|c1<|.nil)<|pSeq ?_
    obtain⟨hp8,h⟩|⟨hp8,h⟩:=ik h
    ·refine wBT hp8.1 tm (s1 u)<|wSeq<|rx (c1<|cp (oBuild (fs:=bj) (u:=⟨a2,2⟩) u ze127 pl127 po127 (.op (zc:=[(.int .i64 0),(.int .i64 0),(.slice none 0 0),(.slice none 0 0),(.slice none 0 0),(.slice none 0 0)]) tm u (.op (zc:=[(.int .i64 0)]) (cI (by decide)) u .nil))) (s1 u)<|cwn (oStP (n:=3) (k:=0) (m:=7) (d:=(kR bj)) (u:=(⟨a2,2⟩:aP)) pt127 u u u z127 tm tm) (s2 u u)<|.nil)<|pSeq<|wRet<|pThenR ?_
     obtain rfl:=so h
     exact pR1 (.inl u) u (.boxP (n:=3) (d:=(kR bj)) (u:=(⟨a2,2⟩:aP)) u u pt127 u t127<|.nil)
    ·refine wBF hp8.1 tm (s1 u)<|wSkip<|pSeq<|wSeq ?_
     obtain⟨y9,hy9,h⟩:=bd h
     refine rx (c2<|cr (oLdB (n:=0) (k:=1) u u u t56 tm) (s1 u)<|c1<|cC (bM.ok hy9)<|cp (oField (fs:=ba) (k:=1) u ff161_1 t3 tm) (s1 u)<|c1<|.nil)<|pSeq<|wSeq ?_
     obtain⟨y10,hy10,h⟩:=bd h
     obtain⟨y11,hy11,h⟩:=bd h
     refine rgL hm (c3<|cl [] u (oLdP (n:=2) (k:=0) (m:=14) (d:=(kR aM)) (u:=y2) pt158 u u u t158 tm) (s1 u)<|c1<|cC (cx.ok hy10)<|c1<|cl [] u (oLdP (n:=2) (k:=0) (m:=14) (d:=(kR aM)) (u:=y2) pt158 u u u t158 tm) (s1 u)<|c1<|cC (dN.ok hy11)<|c2<|cp (oBuild (fs:=ae) (u:=⟨(⟨0,0⟩:am),a2.Code,y10,y11,a2.Out⟩) u ze35 pl35 po35 (.ze (zc:=[(.int .i64 0),(.int .i64 0)]) fy (.op (zc:=[(.slice none 0 0)]) tm u (.op (zc:=[(.slice none 0 0)]) tm u (.op (zc:=[(.slice none 0 0)]) tm u (.op (zc:=[(.slice none 0 0)]) tm u .nil)))))) ⟨u,u,u,u,tv⟩<|cn (oAlloc (id:=12) (ls:=Z35) ze35 zl35) tv<|cwn (oStP (n:=0) (k:=0) (m:=6) (d:=(kR ae)) (u:=(⟨(⟨0,0⟩:am),a2.Code,y10,y11,a2.Out⟩:aa)) pt35 u u u z35 tm tm) (s2 u u)<|.nil) (by kernel_rfl) (by kernel_rfl) (by kernel_rfl)<|pSeq<|wSeq ?_
     obtain⟨y12,hy12,h⟩:=bd h
     obtain⟨y13,hy13,h⟩:=bd h
     refine rdx hm (c1<|cr (oLdP (n:=3) (k:=0) (m:=14) (d:=(kR aM)) (u:=y2) pt158 u u u t158 tm) (s1 u)<|cC (ee.ok hy12)<|c2<|cr (oLdB (n:=1) (k:=2) u u u t56 tm) (s1 u)<|c1<|cC (bM.ok hy13)<|cp (oField (fs:=ba) (k:=1) u ff161_1 t3 tm) (s1 u)<|cp (oBuild (fs:=ai) (u:=⟨y12,y13.A⟩) u ze30 pl30 po30 (.op (zc:=[(.int .i64 0)]) tm u (.op (zc:=[(.int .i64 0)]) tm u .nil))) (s2 u u)<|c1<|cwn (oStP (n:=0) (k:=0) (m:=2) (d:=(kR ai)) (u:=(⟨y12,y13.A⟩:am)) pt30 u u u z30 tm tm) (s2 u u)<|.nil)<|pSeq<|wSeq<|wSeq<|rx (c1<|cr (oLdB (n:=2) (k:=0) u u u t3 tm) (s1 u)<|c1<|.nil)<|pSeq ?_
     obtain⟨hp14,h⟩|⟨hp14,h⟩:=ik h
     ·refine wCT hp14.1 tm (s1 u)<|wSeq<|rx (cw (oLitR (id:=101) (d:=(kR ai)) el32 (by decide) u u u e0) tv<|c1<|.nil)<|pSeq<|wSeq ?_
      obtain⟨hc15,h⟩:=ib h
      refine rx (c3<|cw (oApp (n:=0) (id':=105) el32 (by decide) u (by decide) hc15 tm tm) (s2 u u)<|c1<|.nil)<|pSeq<|wSeq ?_
      obtain⟨hc16,h⟩:=ib h
      refine rx (c3<|cr (oLdB (n:=4) (k:=2) u u u t3 tm) (s1 u)<|c1<|cp (oBuild (fs:=ai) (u:=⟨y2.A.V,y9.A⟩) u ze30 pl30 po30 (.op (zc:=[(.int .i64 0)]) tm u (.op (zc:=[(.int .i64 0)]) tm u .nil))) (s2 u u)<|cp (oLit (d:=(kR ai)) el32 (by decide) u u u (e1 tm e0)) (s1 u)<|cw (oApp (n:=0) (id':=113) el32 (by decide) u (by decide) hc16 tm tm) (s2 u u)<|c1<|.nil)<|pSeq<|rx (c2<|cwn (oStN (n:=1) (m:=0) (k:=5) u u u u z32 u tm tm) (s2 u u)<|.nil)<|pSeq<|wSeq<|wSeq<|wFrzR (n:=0) (id:=113) [13,113,114] u u ⟨u,u,u,tv⟩ ?_
      obtain⟨y17,hy17,h⟩:=bd h
      refine rx (c1<|cr (oLdP (n:=0) (k:=0) (m:=6) (d:=(kR ae)) (u:=(⟨⟨y12,y13.A⟩,a2.Code,y10,y11,(([]:List am)++a2.Out)++([(⟨y2.A.V,y9.A⟩:am)]:List am)⟩:aa)) pt35 u u u t35 tm) (s1 u)<|cC (cu.ok hy17)<|c1<|.nil)<|pSeq ?_
      obtain⟨hp18,h⟩|⟨hp18,h⟩:=ik h
      ·refine wBT hp18.1 tm (s1 u)<|wSeq<|rx (c1<|cp (oBuild (fs:=bj) (u:=⟨a2,3⟩) u ze127 pl127 po127 (.op (zc:=[(.int .i64 0),(.int .i64 0),(.slice none 0 0),(.slice none 0 0),(.slice none 0 0),(.slice none 0 0)]) tm u (.op (zc:=[(.int .i64 0)]) (cI (by decide)) u .nil))) (s1 u)<|cwn (oStP (n:=4) (k:=0) (m:=7) (d:=(kR bj)) (u:=(⟨a2,3⟩:aP)) pt127 u u u z127 tm tm) (s2 u u)<|.nil)<|pSeq<|wRet<|pThenR ?_
       obtain rfl:=so h
       exact pR1 (.inl u) u (.boxP (n:=4) (d:=(kR bj)) (u:=(⟨a2,3⟩:aP)) u u pt127 u t127<|.nil)
      ·refine wBF hp18.1 tm (s1 u)<|wSkip<|pSeq<|wSeq<|rx (cr (oLdP (n:=0) (k:=0) (m:=6) (d:=(kR ae)) (u:=(⟨⟨y12,y13.A⟩,a2.Code,y10,y11,(([]:List am)++a2.Out)++([(⟨y2.A.V,y9.A⟩:am)]:List am)⟩:aa)) pt35 u u u t35 tm) (s1 u)<|cp (oBuild (fs:=bj) (u:=⟨(⟨⟨y12,y13.A⟩,a2.Code,y10,y11,(([]:List am)++a2.Out)++([(⟨y2.A.V,y9.A⟩:am)]:List am)⟩:aa),0⟩) u ze127 pl127 po127 (.op (zc:=[(.int .i64 0),(.int .i64 0),(.slice none 0 0),(.slice none 0 0),(.slice none 0 0),(.slice none 0 0)]) tm u (.ze (zc:=[(.int .i64 0)]) zI_i64 .nil))) (s1 u)<|cwn (oStP (n:=4) (k:=0) (m:=7) (d:=(kR bj)) (u:=(⟨(⟨⟨y12,y13.A⟩,a2.Code,y10,y11,(([]:List am)++a2.Out)++([(⟨y2.A.V,y9.A⟩:am)]:List am)⟩:aa),0⟩:aP)) pt127 u u u z127 tm tm) (s2 u u)<|.nil)<|pSeq<|wRet ?_
       obtain rfl:=so h
       exact pR1 (.inl u) u (.boxP (n:=4) (d:=(kR bj)) (u:=(⟨⟨⟨y12,y13.A⟩,a2.Code,y10,y11,(([]:List am)++a2.Out)++([(⟨y2.A.V,y9.A⟩:am)]:List am)⟩,0⟩:aP)) u u pt127 u t127<|.nil)
     ·refine wCF hp14.1 tm (s1 u)<|wSkip<|pSeq<|wSeq<|wSeq ?_
      obtain⟨y19,hy19,h⟩:=bd h
      refine rx (c1<|cr (oLdP (n:=0) (k:=0) (m:=6) (d:=(kR ae)) (u:=(⟨⟨y12,y13.A⟩,a2.Code,y10,y11,a2.Out⟩:aa)) pt35 u u u t35 tm) (s1 u)<|cC (cu.ok hy19)<|c1<|.nil)<|pSeq ?_
      obtain⟨hp20,h⟩|⟨hp20,h⟩:=ik h
      ·refine wBT hp20.1 tm (s1 u)<|wSeq<|rx (c1<|cp (oBuild (fs:=bj) (u:=⟨a2,3⟩) u ze127 pl127 po127 (.op (zc:=[(.int .i64 0),(.int .i64 0),(.slice none 0 0),(.slice none 0 0),(.slice none 0 0),(.slice none 0 0)]) tm u (.op (zc:=[(.int .i64 0)]) (cI (by decide)) u .nil))) (s1 u)<|cwn (oStP (n:=4) (k:=0) (m:=7) (d:=(kR bj)) (u:=(⟨a2,3⟩:aP)) pt127 u u u z127 tm tm) (s2 u u)<|.nil)<|pSeq<|wRet<|pThenR ?_
       obtain rfl:=so h
       exact pR1 (.inl u) u (.boxP (n:=4) (d:=(kR bj)) (u:=(⟨a2,3⟩:aP)) u u pt127 u t127<|.nil)
      ·refine wBF hp20.1 tm (s1 u)<|wSkip<|pSeq<|wSeq<|rx (cr (oLdP (n:=0) (k:=0) (m:=6) (d:=(kR ae)) (u:=(⟨⟨y12,y13.A⟩,a2.Code,y10,y11,a2.Out⟩:aa)) pt35 u u u t35 tm) (s1 u)<|cp (oBuild (fs:=bj) (u:=⟨(⟨⟨y12,y13.A⟩,a2.Code,y10,y11,a2.Out⟩:aa),0⟩) u ze127 pl127 po127 (.op (zc:=[(.int .i64 0),(.int .i64 0),(.slice none 0 0),(.slice none 0 0),(.slice none 0 0),(.slice none 0 0)]) tm u (.ze (zc:=[(.int .i64 0)]) zI_i64 .nil))) (s1 u)<|cwn (oStP (n:=4) (k:=0) (m:=7) (d:=(kR bj)) (u:=(⟨(⟨⟨y12,y13.A⟩,a2.Code,y10,y11,a2.Out⟩:aa),0⟩:aP)) pt127 u u u z127 tm tm) (s2 u u)<|.nil)<|pSeq<|wRet ?_
       obtain rfl:=so h
       exact pR1 (.inl u) u (.boxP (n:=4) (d:=(kR bj)) (u:=(⟨⟨⟨y12,y13.A⟩,a2.Code,y10,y11,a2.Out⟩,0⟩:aP)) u u pt127 u t127<|.nil)
theorem cG.ok{a0:ab} {a1:aZ} {a2:aa} {a3:Int} {r:dj}(h:cG.f a0 a1 a2 a3=some r):FnA PP 32 [(kR aj).sig a0,(kR aL).sig a1,(kR ae).sig a2,ki.sig a3] ((kR eE).sig r):=by
 refine fnIntro Tryz.func32 u (by kernel_rfl) fun H0 w0=>?_
 unfold cG.f at h
 refine wSeq<|rx (c2<|cw (oBoxP (id:=6) (d:=(kR ae)) (ls:=[.d ki a2.Pc.V,.d ki a2.Pc.L,.d (kL (kR ao)) a2.Code,.d (kL (kR ai)) a2.Mem,.d (kL (kR ak)) a2.Stack,.d (kL (kR ai)) a2.Out]) pt35 u tm) (s1 u)<|cw (oAlloc (id:=8) (ls:=[.d (kN aa) [],.d ki 0]) ze82 (fun g=>⟨[(.slice none 0 0)],_,u,zN g.H,⟨[(.int .i64 0)],_,u,zI_i64 g.H,u⟩⟩)) tv<|.nil)<|pSeq<|wSeq<|rx (cp (oBuild (fs:=fj) (u:=⟨[],0⟩) u ze82 pl82 po82_0 (.ze (zc:=[(.slice none 0 0)]) zN (.ze (zc:=[(.int .i64 0)]) zI_i64 .nil))) tv<|cw (oAlloc (id:=9) (ls:=[.d (kN aa) [],.d ki 0]) ze82 (fun g=>⟨[(.slice none 0 0)],_,u,zN g.H,⟨[(.int .i64 0)],_,u,zI_i64 g.H,u⟩⟩)) tv<|cwn (oStA (n:=0) (fs:=fj) u u z82 tm tm) (s2 u u)<|.nil)<|pSeq<|wSeq<|wNilL (kR ae) 35 5450 (n:=0) (k:=0) u u u ?_
 obtain⟨hc1,h⟩:=ib h
 refine rx (c1<|cr (oLdN (n:=1) (k:=0) u u u t49 tm) (s1 u)<|cr (oLdP (n:=3) (k:=0) (m:=6) (d:=(kR ae)) (u:=a2) pt35 u u u t35 tm) (s1 u)<|cp (oLit (d:=(kR ae)) el49 (by decide) u u u (e1 tm e0)) (s1 u)<|cw (oApp (n:=0) (id':=17) el49 (by decide) u (by decide) hc1 tm tm) (s2 u u)<|c1<|cwn (oStN (n:=1) (m:=0) (k:=0) u u u u z49 u tm tm) (s2 u u)<|.nil)<|pSeq<|wSeq<|wSeq<|rx (c1<|.nil)<|pSeq<|wWeak (Γ':=[(3,.d (ki.sig a3)),(4,.d (sP (kR aj) a0)),(5,.d (sP (kR aL) a1)),(6,.p 6 0),(8,.p 8 0),(9,.p 9 0),(10,.d (ki.sig 0))]) (sb u)<|wRen 17 5450 u ?_
 obtain⟨o1,h,hk1⟩:=bd h
 refine wK3 (fun x14 x15 x16=>.inr (x14,x15,x16)=o1) (fun x14 x15 x16=>[(8,.p 8 0),(9,.p 9 0)]) (fun x14 x15 x16=>[.row 5450 35 (kR ae) x16,.box 9 82 [.v 5450,.d ki x15],.box 8 82 [.d (kN aa) [],.d ki 0],.box 6 35 (L35 x14)]) ?_ ?_
 ·refine wBlock (wLoop ?_)
  refine lW (pc4 o1 (fun v10 v11 v12 v13=>[(3,.d (ki.sig a3)),(4,.d (sP (kR aj) a0)),(5,.d (sP (kR aL) a1)),(6,.p 6 0),(8,.p 8 0),(9,.p 9 0),(10,.d (ki.sig v13))]) (fun v10 v11 v12 v13=>[.row 5450 35 (kR ae) v12,.box 9 82 [.v 5450,.d ki v11],.box 8 82 [.d (kN aa) [],.d ki 0],.box 6 35 (L35 v10)]) (cG.l0.partial_correctness a0 a1 a3) ?_ _ _ _ _ h) ⟨u,u,u,u,u,u,u,tv⟩ u
  clear h
  intro f' ih v10 v11 v12 v13 h
  refine wSeq<|wSeq<|rx (c3<|.nil)<|pSeq ?_
  obtain⟨hp17,h⟩|⟨hp17,h⟩:=ik h
  ·refine wCT hp17.1 tm (s1 u)<|wSkip<|pSeq<|wSeq<|wBlock<|wSeq ?_
   obtain⟨y18,hy18,h⟩:=bd h
   refine rx (c2<|cr (oLdP (n:=3) (k:=0) (m:=6) (d:=(kR ae)) (u:=v10) pt35 u u u t35 tm) (s1 u)<|cC (dJ.ok hy18)<|cw (oAlloc (id:=11) (ls:=Z127) ze127 zl127) tv<|cwn (oStP (n:=0) (k:=0) (m:=7) (d:=(kR bj)) (u:=y18) pt127 u u u z127 tm tm) (s2 u u)<|.nil)<|pSeq<|wSeq<|rx (c1<|cr (oLdB (n:=0) (k:=6) u u u t3 tm) (s1 u)<|c1<|cwn (oSt (n:=2) (k:=1) u u u u z3 tm tm) (s2 u u)<|.nil)<|pSeq<|wSeq<|wSeq<|rx (c1<|cr (oLdB (n:=0) (k:=6) u u u t3 tm) (s1 u)<|c1<|.nil)<|pSeq ?_
   obtain⟨hp19,h⟩|⟨hp19,h⟩:=ik h
   ·refine wNT hp19.1 tm (s1 u)<|wSkip<|pSeq<|wSeq<|rx (c1<|cr (oLdP (n:=0) (k:=0) (m:=6) (d:=(kR ae)) (u:=y18.S) pt35 u u u t35 tm) (s1 u)<|cwn (oStP (n:=4) (k:=0) (m:=6) (d:=(kR ae)) (u:=y18.S) pt35 u u u z35 tm tm) (s2 u u)<|.nil)<|pSeq ?_
    obtain⟨hc20,h⟩:=ib h
    exact rx (c1<|cr (oLdN (n:=2) (k:=0) u u u t49 tm) (s1 u)<|cr (oLdP (n:=4) (k:=0) (m:=6) (d:=(kR ae)) (u:=y18.S) pt35 u u u t35 tm) (s1 u)<|cp (oLit (d:=(kR ae)) el49 (by decide) u u u (e1 tm e0)) (s1 u)<|cw (oApp (n:=1) (id':=41) el49 (by decide) u (by decide) hc20 tm tm) (s2 u u)<|c1<|cwn (oStN (n:=2) (m:=1) (k:=0) u u u u z49 u tm tm) (s2 u u)<|.nil)<|pBlkN<|pSeq<|rx (c3<|.nil)<|pDrop (.cons _ (.cons_cons _ (.cons_cons _ (.cons_cons _ (.cons_cons _ .slnil)))))<|pSub (Γ':=[(3,.d (ki.sig a3)),(4,.d (sP (kR aj) a0)),(5,.d (sP (kR aL) a1)),(6,.p 6 0),(8,.p 8 0),(9,.p 9 0),(10,.d (ki.sig (IntKind.i64.wrap (v13+1))))]) (sb u)<|pRen 41 5450 u<|pLoop (lW (ih _ _ _ _ h) ⟨u,u,u,u,u,u,u,tv⟩ u)
   ·refine wNF hp19.1 tm (s1 u)<|wSeq<|wFrzR (n:=1) (id:=5450) [] u u tv<|rx (cr (oLdA (n:=1) (fs:=eE) (u:=⟨v12,y18.What⟩) u ⟨u,u,tv⟩ t82 tm) (s1 u)<|cwn (oStA (n:=2) (fs:=eE) u u z82 tm tm) (s2 u u)<|.nil)<|pSeq<|wRet<|pThenR<|pBlkR<|pThenR<|pThenR<|pBlkR<|pThenR ?_
    obtain rfl:=so h
    replace h:=hk1
    refine pThenR ?_
    obtain rfl:=so h
    exact pR1 (.inl u) u (.box (n:=2) (fs:=eE) (u:=⟨v12,y18.What⟩) u u ⟨u,u,tv⟩ t82<|.nil)
  ·exact wCF hp17.1 tm (s1 u)<|wExit<|pThenX<|pThenX<|pBlkX<|pJ3 _ _ _ (so h) (sb u) u
 ·rintro x14 x15 x16 rfl
  replace h:=hk1
  refine pSeq<|wSeq<|wFrzR (n:=0) (id:=5450) [] u u tv<|rx (cr (oLdA (n:=0) (fs:=eE) (u:=⟨x16,x15⟩) u ⟨u,u,tv⟩ t82 tm) (s1 u)<|cwn (oStA (n:=1) (fs:=eE) u u z82 tm tm) (s2 u u)<|.nil)<|pSeq<|wRet ?_
  obtain rfl:=so h
  exact pR1 (.inl u) u (.box (n:=1) (fs:=eE) (u:=⟨x16,x15⟩) u u ⟨u,u,tv⟩ t82<|.nil)
theorem fh.ok{a0:ab} {a1:Int} {a2:Int} {r:Bool}(h:fh.f a0 a1 a2=some r):FnA PP 58 [(kR aj).sig a0,ki.sig a1,ki.sig a2] (kB.sig r):=by
 refine fnIntro Tryz.func58 u (by kernel_rfl) fun H0 w0=>?_
 unfold fh.f at h
 refine wSeq<|rx (c2<|.nil)<|pSeq<|wSeq ?_
 obtain⟨y1,hy1,h⟩:=bd h
 refine rx (c3<|cC (au.ok hy1)<|c1<|.nil)<|pSeq<|wRet ?_
 obtain rfl:=so h
 exact pR1 (.inl u) u (.tmp u<|.nil)
theorem eI.ok{a0:cY} {a1:aa} {r:Bool}(h:eI.f a0 a1=some r):FnA PP 33 [(kR cy).sig a0,(kR ae).sig a1] (kB.sig r):=by
 refine fnIntro Tryz.func33 u (by kernel_rfl) fun H0 w0=>?_
 unfold eI.f at h
 refine wSeq<|rx (c3<|.nil)<|pSeq<|wSeq ?_
 obtain⟨y1,hy1,h⟩:=bd h
 refine rx (c6<|c1<|cC (fh.ok hy1)<|c1<|.nil)<|pSeq<|wRet ?_
 obtain rfl:=so h
 exact pR1 (.inl u) u (.tmp u<|.nil)
theorem cj.ok{a0:cY} {a1:aa} {r:List aa}(h:cj.f a0 a1=some r):FnA PP 16 [(kR cy).sig a0,(kR ae).sig a1] ((kL (kR ae)).sig r):=by
 refine fnIntro Tryz.func16 u (by kernel_rfl) fun H0 w0=>?_
 unfold cj.f at h
 refine wSeq<|rx (c2<|cp (oAs cV) tv<|.nil)<|pSeq<|wSeq<|rx (cw (oLitR (id:=8) (d:=(kR ae)) el49 (by decide) u u u e0) tv<|c1<|.nil)<|pSeq<|wSeq<|wSeq ?_
 obtain⟨y1,hy1,h⟩:=bd h
 refine rx (c6<|c1<|cC (cG.ok hy1)<|cp (oField (fs:=eE) (k:=0) u ff82_0 t49 tm) (s1 u)<|c2<|.nil)<|pSeq<|wWeak (Γ':=[(2,.d (sP (kR cy) a0)),(5,.v 8),(17,.d ((kL (kR ae)).sig y1.L)),(18,.d (ki.sig (y1.L.length:Int))),(19,.d (ki.sig 0))]) (sb u)<|wRen 8 1005 u ?_
 obtain⟨o1,h,hk1⟩:=bd h
 refine wK1 (fun x24=>x24=o1) (fun x24=>[(5,.v 1005)]) (fun x24=>[.row 1005 35 (kR ae) x24]) ?_ ?_
 ·refine wBlock (wLoop ?_)
  refine lW (pc2 o1 (fun v22 v23=>[(2,.d (sP (kR cy) a0)),(5,.v 1005),(17,.d ((kL (kR ae)).sig y1.L)),(18,.d (ki.sig (y1.L.length:Int))),(19,.d (ki.sig v23))]) (fun v22 v23=>[.row 1005 35 (kR ae) v22]) (cj.l0.partial_correctness a0 y1) ?_ _ _ h) ⟨u,u,u,u,u,tv⟩ u
  clear h
  intro f' ih v22 v23 h
  refine wSeq<|rx (c1<|.nil)<|pSeq<|wSeq ?_
  obtain⟨hp25,h⟩|⟨hp25,h⟩:=ik h
  ·refine wCT hp25.1 tm (s1 u)<|wSkip<|pSeq ?_
   obtain⟨o2,h,hk2⟩:=bd h
   refine wJ1 (fun x30=>x30=o2) (fun x30=>[(2,.d (sP (kR cy) a0)),(5,.v 1005),(17,.d ((kL (kR ae)).sig y1.L)),(18,.d (ki.sig (y1.L.length:Int))),(19,.d (ki.sig v23))]) (fun x30=>[.row 1005 35 (kR ae) x30]) ?_ ?_
   ·refine wBlock<|wSeq ?_
    obtain⟨y31,hy31,h⟩:=bd h
    refine rx (cp (oIdx u49 z35 hy31 tm tm) (s2 u u)<|c1<|cw (oAlloc (id:=7) (ls:=Z35) ze35 zl35) tv<|cwn (oStP (n:=0) (k:=0) (m:=6) (d:=(kR ae)) (u:=y31) pt35 u u u z35 tm tm) (s2 u u)<|.nil)<|pSeq<|wSeq ?_
    obtain⟨y32,hy32,h⟩:=bd h
    refine rx (c1<|cr (oLdP (n:=0) (k:=0) (m:=6) (d:=(kR ae)) (u:=y31) pt35 u u u t35 tm) (s1 u)<|cC (eI.ok hy32)<|.nil)<|pSeq ?_
    obtain⟨hp33,h⟩|⟨hp33,h⟩:=ik h
    ·refine wBT hp33.1 tm (s1 u) ?_
     obtain⟨hc34,h⟩:=ib h
     exact rx (c1<|cr (oLdP (n:=0) (k:=0) (m:=6) (d:=(kR ae)) (u:=y31) pt35 u u u t35 tm) (s1 u)<|cp (oLit (d:=(kR ae)) el49 (by decide) u u u (e1 tm e0)) (s1 u)<|cw (oApp (n:=1) (id':=29) el49 (by decide) u (by decide) hc34 tm tm) (s2 u u)<|c1<|.nil)<|pBlkN<|pDrop (.cons _ (.cons_cons _ .slnil))<|pSub (Γ':=[(2,.d (sP (kR cy) a0)),(5,.v 29),(17,.d ((kL (kR ae)).sig y1.L)),(18,.d (ki.sig (y1.L.length:Int))),(19,.d (ki.sig v23))]) (sb u)<|pRen 29 1005 u<|pJ1 _ (so h) (sb u) u
    ·exact wBF hp33.1 tm (s1 u)<|wSkip<|pBlkN<|pDrop (.cons _ (.cons_cons _ .slnil))<|pJ1 _ (so h) (sb u) u
   ·rintro x30 rfl
    replace h:=hk2
    exact rx (c2<|.nil)<|pLoop (lW (ih _ _ h) ⟨u,u,u,u,u,tv⟩ u)
  ·exact wCF hp25.1 tm (s1 u)<|wExit<|pThenX<|pThenX<|pBlkX<|pJ1 _ (so h) (sb u) u
 ·rintro x24 rfl
  replace h:=hk1
  refine pSeq<|wSeq<|rx (c2<|.nil)<|pSeq<|wFrzR (n:=0) (id:=1005) [4] u u ⟨u,tv⟩<|wRet ?_
  obtain rfl:=so h
  exact pR1 (.inl u) u (.tmp u<|.nil)
theorem bS.ok{a0:List ap} {a1:List ap} {r:Bool}(h:bS.f a0 a1=some r):FnA PP 34 [(kL (kR ao)).sig a0,(kL (kR ao)).sig a1] (kB.sig r):=by
 refine fnIntro Tryz.func34 u (by kernel_rfl) fun H0 w0=>?_
 unfold bS.f at h
 refine wSeq<|rx (c1<|.nil)<|pSeq<|wSeq<|wSeq<|rx (c4<|c1<|.nil)<|pSeq ?_
 obtain⟨hp1,h⟩|⟨hp1,h⟩:=ik h
 ·refine wNT hp1.1 tm (s1 u)<|wSkip<|pSeq<|wSeq<|wSeq<|rx (c3<|.nil)<|pSeq ?_
  obtain⟨o1,h,hk1⟩:=bd h
  refine wK0 (.inr ()=o1) ([]) ([]) ?_ ?_
  ·refine wBlock (wLoop ?_)
   refine lW (pc1 o1 (fun v10=>[(0,.d ((kL (kR ao)).sig a0)),(1,.d ((kL (kR ao)).sig a1)),(12,.d (ki.sig (a0.length:Int))),(13,.d (ki.sig v10))]) (fun v10=>[]) (bS.l0.partial_correctness a0 a1) ?_ _ h) ⟨u,u,u,u,tv⟩ u
   clear h
   intro f' ih v10 h
   refine wSeq<|rx (c1<|.nil)<|pSeq<|wSeq ?_
   obtain⟨hp11,h⟩|⟨hp11,h⟩:=ik h
   ·refine wCT hp11.1 tm (s1 u)<|wSkip<|pSeq<|wSeq<|wBlock<|wSeq<|rx (c2<|.nil)<|pSeq<|wSeq ?_
    obtain⟨y12,hy12,h⟩:=bd h
    obtain⟨y13,hy13,h⟩:=bd h
    refine rdx hm (c2<|cp (oIdx u31 z73 hy12 tm tm) (s2 u u)<|c3<|cp (oIdx u31 z73 hy13 tm tm) (s2 u u)<|c1<|cp (oRNe eqk73 u eg73 u tm tm) (s2 u u)<|.nil)<|pSeq ?_
    obtain⟨hp14,h⟩|⟨hp14,h⟩:=ik h
    ·exact wNT hp14.1 tm (s1 u)<|wSkip<|pBlkN<|pSeq<|rx (c2<|.nil)<|pLoop (lW (ih _ h) ⟨u,u,u,u,tv⟩ u)
    ·refine wNF hp14.1 tm (s1 u)<|wSeq<|rx (c1<|.nil)<|pSeq<|wRet<|pBlkR<|pThenR<|pThenR<|pBlkR<|pThenR ?_
     obtain rfl:=so h
     replace h:=hk1
     refine pThenR ?_
     obtain rfl:=so h
     exact pR1 (.inl u) u (.tmp u<|.nil)
   ·exact wCF hp11.1 tm (s1 u)<|wExit<|pThenX<|pThenX<|pBlkX<|pJ0 (so h) tv u
  ·rintro rfl
   replace h:=hk1
   refine pSeq<|wSeq<|rx (c1<|.nil)<|pSeq<|wRet ?_
   obtain rfl:=so h
   exact pR1 (.inl u) u (.tmp u<|.nil)
 ·refine wNF hp1.1 tm (s1 u)<|wSeq<|rx (c1<|.nil)<|pSeq<|wRet<|pThenR ?_
  obtain rfl:=so h
  exact pR1 (.inl u) u (.tmp u<|.nil)
theorem bv.ok{a0:List am} {a1:List am} {r:Bool}(h:bv.f a0 a1=some r):FnA PP 35 [(kL (kR ai)).sig a0,(kL (kR ai)).sig a1] (kB.sig r):=by
 refine fnIntro Tryz.func35 u (by kernel_rfl) fun H0 w0=>?_
 unfold bv.f at h
 refine wSeq<|rx (c1<|.nil)<|pSeq<|wSeq<|wSeq<|rx (c4<|c1<|.nil)<|pSeq ?_
 obtain⟨hp1,h⟩|⟨hp1,h⟩:=ik h
 ·refine wNT hp1.1 tm (s1 u)<|wSkip<|pSeq<|wSeq<|wSeq<|rx (c3<|.nil)<|pSeq ?_
  obtain⟨o1,h,hk1⟩:=bd h
  refine wK0 (.inr ()=o1) ([]) ([]) ?_ ?_
  ·refine wBlock (wLoop ?_)
   refine lW (pc1 o1 (fun v10=>[(0,.d ((kL (kR ai)).sig a0)),(1,.d ((kL (kR ai)).sig a1)),(12,.d (ki.sig (a0.length:Int))),(13,.d (ki.sig v10))]) (fun v10=>[]) (bv.l0.partial_correctness a0 a1) ?_ _ h) ⟨u,u,u,u,tv⟩ u
   clear h
   intro f' ih v10 h
   refine wSeq<|rx (c1<|.nil)<|pSeq<|wSeq ?_
   obtain⟨hp11,h⟩|⟨hp11,h⟩:=ik h
   ·refine wCT hp11.1 tm (s1 u)<|wSkip<|pSeq<|wSeq<|wBlock<|wSeq<|rx (c2<|.nil)<|pSeq<|wSeq ?_
    obtain⟨y12,hy12,h⟩:=bd h
    obtain⟨y13,hy13,h⟩:=bd h
    refine rdx hm (c2<|cp (oIdx u32 z30 hy12 tm tm) (s2 u u)<|c3<|cp (oIdx u32 z30 hy13 tm tm) (s2 u u)<|c1<|cp (oRNe eqk30 u eg30 u tm tm) (s2 u u)<|.nil)<|pSeq ?_
    obtain⟨hp14,h⟩|⟨hp14,h⟩:=ik h
    ·exact wNT hp14.1 tm (s1 u)<|wSkip<|pBlkN<|pSeq<|rx (c2<|.nil)<|pLoop (lW (ih _ h) ⟨u,u,u,u,tv⟩ u)
    ·refine wNF hp14.1 tm (s1 u)<|wSeq<|rx (c1<|.nil)<|pSeq<|wRet<|pBlkR<|pThenR<|pThenR<|pBlkR<|pThenR ?_
     obtain rfl:=so h
     replace h:=hk1
     refine pThenR ?_
     obtain rfl:=so h
     exact pR1 (.inl u) u (.tmp u<|.nil)
   ·exact wCF hp11.1 tm (s1 u)<|wExit<|pThenX<|pThenX<|pBlkX<|pJ0 (so h) tv u
  ·rintro rfl
   replace h:=hk1
   refine pSeq<|wSeq<|rx (c1<|.nil)<|pSeq<|wRet ?_
   obtain rfl:=so h
   exact pR1 (.inl u) u (.tmp u<|.nil)
 ·refine wNF hp1.1 tm (s1 u)<|wSeq<|rx (c1<|.nil)<|pSeq<|wRet<|pThenR ?_
  obtain rfl:=so h
  exact pR1 (.inl u) u (.tmp u<|.nil)
theorem bZ.ok{a0:aa} {a1:aa} {r:Bool}(h:bZ.f a0 a1=some r):FnA PP 17 [(kR ae).sig a0,(kR ae).sig a1] (kB.sig r):=by
 refine fnIntro Tryz.func17 u (by kernel_rfl) fun H0 w0=>?_
 unfold bZ.f at h
 refine wSeq<|rx (c3<|.nil)<|pSeq<|wSeq ?_
 obtain⟨o1,h,hk1⟩:=bd h
 refine wJ1 (fun x8=>x8=o1) (fun x8=>[(2,.d (sP (kR ae) a0)),(3,.d (sP (kR ae) a1)),(43,.d (kB.sig x8))]) (fun x8=>[]) ?_ ?_
 ·obtain⟨hp9,h⟩|⟨hp9,h⟩:=ik h
  ·obtain⟨y10,hy10,h⟩:=bd h
   obtain⟨hp11,h⟩|⟨hp11,h⟩:=ik h
   ·exact rx (c4<|cp (oRNe eqk30 u eg30 u tm tm) (s2 u u)<|c4<|c1<|cgB (nf hp9.1) u u (oCall u (bS.ok hy10) b34 (oc tm (oc tm o0))) (s2 u u)<|c12<|c12<|c3<|.nil)<|pJ1 _ (so h) (sb u) u
   ·obtain⟨y12,hy12,h⟩:=bd h
    obtain⟨hp13,h⟩|⟨hp13,h⟩:=ik h
    ·exact rx (c4<|cp (oRNe eqk30 u eg30 u tm tm) (s2 u u)<|c4<|c1<|cgB (nf hp9.1) u u (oCall u (bS.ok hy10) b34 (oc tm (oc tm o0))) (s2 u u)<|c6<|c1<|cgB (nb hp11.1) u u (oCall u (bv.ok hy12) b35 (oc tm (oc tm o0))) (s2 u u)<|c12<|c6<|c1<|.nil)<|pJ1 _ (so h) (sb u) u
    ·obtain⟨y14,hy14,h⟩:=bd h
     obtain⟨hp15,h⟩|⟨hp15,h⟩:=ik h
     ·exact rx (c4<|cp (oRNe eqk30 u eg30 u tm tm) (s2 u u)<|c4<|c1<|cgB (nf hp9.1) u u (oCall u (bS.ok hy10) b34 (oc tm (oc tm o0))) (s2 u u)<|c6<|c1<|cgB (nb hp11.1) u u (oCall u (bv.ok hy12) b35 (oc tm (oc tm o0))) (s2 u u)<|c6<|c1<|cgB (nb hp13.1) u u (oCall u (bv.ok hy14) b35 (oc tm (oc tm o0))) (s2 u u)<|c8<|c3<|.nil)<|pJ1 _ (so h) (sb u) u
     ·exact rx (c4<|cp (oRNe eqk30 u eg30 u tm tm) (s2 u u)<|c4<|c1<|cgB (nf hp9.1) u u (oCall u (bS.ok hy10) b34 (oc tm (oc tm o0))) (s2 u u)<|c6<|c1<|cgB (nb hp11.1) u u (oCall u (bv.ok hy12) b35 (oc tm (oc tm o0))) (s2 u u)<|c6<|c1<|cgB (nb hp13.1) u u (oCall u (bv.ok hy14) b35 (oc tm (oc tm o0))) (s2 u u)<|c8<|c3<|.nil)<|pJ1 _ (so h) (sb u) u
  ·exact rx (c4<|cp (oRNe eqk30 u eg30 u tm tm) (s2 u u)<|c12<|c12<|c8<|c1<|.nil)<|pJ1 _ (so h) (sb u) u
 ·rintro x8 rfl
  replace h:=hk1
  obtain⟨hp16,h⟩|⟨hp16,h⟩:=ik h
  ·refine wBT hp16.1 tm (s1 u)<|wSeq<|rx (c1<|.nil)<|pSeq<|wRet<|pThenR ?_
   obtain rfl:=so h
   exact pR1 (.inl u) u (.tmp u<|.nil)
  ·refine wBF hp16.1 tm (s1 u)<|wSkip<|pSeq<|wSeq<|wSeq<|rx (c4<|.nil)<|pSeq ?_
   obtain⟨o1,h,hk1⟩:=bd h
   refine wK0 (.inr ()=o1) ([]) ([]) ?_ ?_
   ·refine wBlock (wLoop ?_)
    refine lW (pc1 o1 (fun v25=>[(2,.d (sP (kR ae) a0)),(3,.d (sP (kR ae) a1)),(46,.d (ki.sig (a0.Stack.length:Int))),(47,.d (ki.sig v25))]) (fun v25=>[]) (bZ.l0.partial_correctness a0 a1) ?_ _ h) ⟨u,u,u,u,tv⟩ u
    clear h
    intro f' ih v25 h
    refine wSeq<|rx (c1<|.nil)<|pSeq<|wSeq ?_
    obtain⟨hp26,h⟩|⟨hp26,h⟩:=ik h
    ·refine wCT hp26.1 tm (s1 u)<|wSkip<|pSeq<|wSeq<|wBlock<|wSeq<|rx (c2<|.nil)<|pSeq<|wSeq ?_
     obtain⟨y27,hy27,h⟩:=bd h
     obtain⟨y28,hy28,h⟩:=bd h
     refine rdx hm (c3<|cp (oIdx u33 z88 hy27 tm tm) (s2 u u)<|c4<|cp (oIdx u33 z88 hy28 tm tm) (s2 u u)<|c1<|cp (oRNe eqk88 u eg88 u tm tm) (s2 u u)<|.nil)<|pSeq ?_
     obtain⟨hp29,h⟩|⟨hp29,h⟩:=ik h
     ·exact wNT hp29.1 tm (s1 u)<|wSkip<|pBlkN<|pSeq<|rx (c2<|.nil)<|pLoop (lW (ih _ h) ⟨u,u,u,u,tv⟩ u)
     ·refine wNF hp29.1 tm (s1 u)<|wSeq<|rx (c1<|.nil)<|pSeq<|wRet<|pBlkR<|pThenR<|pThenR<|pBlkR<|pThenR ?_
      obtain rfl:=so h
      replace h:=hk1
      refine pThenR ?_
      obtain rfl:=so h
      exact pR1 (.inl u) u (.tmp u<|.nil)
    ·exact wCF hp26.1 tm (s1 u)<|wExit<|pThenX<|pThenX<|pBlkX<|pJ0 (so h) tv u
   ·rintro rfl
    replace h:=hk1
    refine pSeq<|wSeq<|rx (c1<|.nil)<|pSeq<|wRet ?_
    obtain rfl:=so h
    exact pR1 (.inl u) u (.tmp u<|.nil)
theorem bu.ok{a0:ab} {a1:aZ} {a2:Int} {a3:aa} {a4:Int} {r:Bool}(h:bu.f a0 a1 a2 a3 a4=some r):FnA PP 5 [(kR aj).sig a0,(kR aL).sig a1,ki.sig a2,(kR ae).sig a3,ki.sig a4] (kB.sig r):=by
 refine fnIntro Tryz.func5 u (by kernel_rfl) fun H0 w0=>?_
 unfold bu.f at h
 refine wSeq<|rx (cw (oBoxS (id:=5) (fs:=aj) tm) (s1 u)<|cw (oBoxS (id:=6) (fs:=aL) tm) (s1 u)<|cw (oBoxP (id:=8) (d:=(kR ae)) (ls:=[.d ki a3.Pc.V,.d ki a3.Pc.L,.d (kL (kR ao)) a3.Code,.d (kL (kR ai)) a3.Mem,.d (kL (kR ak)) a3.Stack,.d (kL (kR ai)) a3.Out]) pt35 u tm) (s1 u)<|c1<|.nil)<|pSeq<|wSeq ?_
 obtain⟨y1,hy1,h⟩:=bd h
 obtain⟨y2,hy2,h⟩:=bd h
 obtain⟨y3,hy3,h⟩:=bd h
 refine rdx hm (cr (oLdA (n:=2) (fs:=aj) (u:=⟨a0.Names,a0.Up⟩) u ⟨u,u,tv⟩ t25 tm) (s1 u)<|cC (cZ.ok hy1)<|cr (oLdA (n:=1) (fs:=aL) (u:=⟨a1.Rows⟩) u ⟨u,tv⟩ t28 tm) (s1 u)<|cC (cM.ok hy2)<|cr (oLdP (n:=0) (k:=0) (m:=6) (d:=(kR ae)) (u:=a3) pt35 u u u t35 tm) (s1 u)<|cC (eQ.ok hy3)<|cwn (oStA (n:=2) (fs:=aj) u u z25 tm tm) (s2 u u)<|cwn (oStA (n:=1) (fs:=aL) u u z28 tm tm) (s2 u u)<|cwn (oStP (n:=0) (k:=0) (m:=6) (d:=(kR ae)) (u:=y3) pt35 u u u z35 tm tm) (s2 u u)<|.nil)<|pSeq<|wSeq ?_
 obtain⟨y4,hy4,h⟩:=bd h
 refine rx (cr (oLdA (n:=2) (fs:=aj) (u:=⟨y1.Names,y1.Up⟩) u ⟨u,u,tv⟩ t25 tm) (s1 u)<|cr (oLdA (n:=1) (fs:=aL) (u:=⟨y2.Rows⟩) u ⟨u,tv⟩ t28 tm) (s1 u)<|c1<|cr (oLdP (n:=0) (k:=0) (m:=6) (d:=(kR ae)) (u:=y3) pt35 u u u t35 tm) (s1 u)<|c1<|cC (fm.ok hy4)<|c4<|c1<|.nil)<|pSeq<|wSeq ?_
 obtain⟨y5,hy5,h⟩:=bd h
 refine rx (cr (oLdA (n:=2) (fs:=aj) (u:=⟨y1.Names,y1.Up⟩) u ⟨u,u,tv⟩ t25 tm) (s1 u)<|cr (oLdA (n:=1) (fs:=aL) (u:=⟨y2.Rows⟩) u ⟨u,tv⟩ t28 tm) (s1 u)<|cr (oLdP (n:=0) (k:=0) (m:=6) (d:=(kR ae)) (u:=y3) pt35 u u u t35 tm) (s1 u)<|c1<|cC (eJ.ok hy5)<|c1<|.nil)<|pSeq<|wSeq ?_
 obtain⟨o1,h,hk1⟩:=bd h
 refine wJ1 (fun x8=>x8=o1) (fun x8=>[(2,.d (ki.sig a2)),(4,.d (ki.sig a4)),(5,.p 5 0),(6,.p 6 0),(8,.p 8 0),(11,.d ((kL (kR ae)).sig y4.1)),(12,.d (ki.sig y4.2)),(13,.d (ki.sig y5)),(48,.d (kB.sig x8))]) (fun x8=>[.box 8 35 (L35 y3),.box 6 28 [.d (kL (kR aJ)) y2.Rows],.box 5 25 [.d (kL kS) y1.Names,.d (kL (kI .u32)) y1.Up]]) ?_ ?_
 ·obtain⟨hp9,h⟩|⟨hp9,h⟩:=ik h
  ·obtain⟨hp10,h⟩|⟨hp10,h⟩:=ik h
   ·exact rx (c12<|c1<|.nil)<|pJ1 _ (so h) (sb u) u
   ·exact rx (c8<|crgB (dF hp10.1) u u (oLdB (n:=2) (k:=1) u u u t23 tm) (s1 u)<|c4<|.nil)<|pJ1 _ (so h) (sb u) u
  ·exact rx (c6<|csU u u<|csU u u<|csU u u<|csU u u<|csU u u<|c2<|.nil)<|pJ1 _ (so h) (sb u) u
 ·rintro x8 rfl
  replace h:=hk1
  obtain⟨hp11,h⟩|⟨hp11,h⟩:=ik h
  ·refine wBT hp11.1 tm (s1 u)<|rx (c1<|.nil)<|pSeq<|wSeq<|wSeq<|rx (c2<|.nil)<|pSeq ?_
   obtain⟨hp12,h⟩|⟨hp12,h⟩:=ik h
   ·refine wNT hp12.1 tm (s1 u)<|wSkip<|pSeq<|wSeq ?_
    obtain⟨y13,hy13,h⟩:=bd h
    refine rx (cr (oLdA (n:=2) (fs:=aj) (u:=⟨y1.Names,y1.Up⟩) u ⟨u,u,tv⟩ t25 tm) (s1 u)<|cr (oLdA (n:=1) (fs:=aL) (u:=⟨y2.Rows⟩) u ⟨u,tv⟩ t28 tm) (s1 u)<|c2<|cp (oBuild (fs:=cy) (u:=⟨y1,y2,a2,a4⟩) u ze43 pl43 po43 (.op (zc:=[(.slice none 0 0),(.slice none 0 0)]) tm u (.op (zc:=[(.slice none 0 0)]) tm u (.op (zc:=[(.int .i64 0)]) tm u (.op (zc:=[(.int .i64 0)]) tm u .nil))))) ⟨u,u,u,u,tv⟩<|cr (oLdP (n:=0) (k:=0) (m:=6) (d:=(kR ae)) (u:=y3) pt35 u u u t35 tm) (s1 u)<|cC (cj.ok hy13)<|c1<|.nil)<|pSeq<|wSeq ?_
    obtain⟨o1,h,hk1⟩:=bd h
    refine wJ1 (fun x17=>x17=o1) (fun x17=>[(11,.d ((kL (kR ae)).sig y4.1)),(14,.d ((kL (kR ae)).sig y13)),(81,.d (kB.sig x17))]) (fun x17=>[.box 8 35 (L35 y3),.box 6 28 [.d (kL (kR aJ)) y2.Rows],.box 5 25 [.d (kL kS) y1.Names,.d (kL (kI .u32)) y1.Up]]) ?_ ?_
    ·obtain⟨hp18,h⟩|⟨hp18,h⟩:=ik h
     ·obtain⟨hp19,h⟩|⟨hp19,h⟩:=ik h
      ·obtain⟨y20,hy20,h⟩:=bd h
       exact rx (c8<|c2<|cgB (nf hp19.1) u u (oCall u (reticentlaw20_alive.ok hy20) b11 o0) tv<|c2<|.nil)<|pJ1 _ (so h) (sb u) u
      ·exact rx (c12<|c1<|.nil)<|pJ1 _ (so h) (sb u) u
     ·exact rx (c12<|c1<|.nil)<|pJ1 _ (so h) (sb u) u
    ·rintro x17 rfl
     replace h:=hk1
     obtain⟨hp21,h⟩|⟨hp21,h⟩:=ik h
     ·refine wBT hp21.1 tm (s1 u)<|wSeq<|rx (c1<|.nil)<|pSeq<|wRet<|pThenR ?_
      obtain rfl:=so h
      exact pR1 (.inl u) u (.tmp u<|.nil)
     ·refine wBF hp21.1 tm (s1 u)<|wSkip<|pSeq<|wSeq<|wSeq<|rx (c3<|.nil)<|pSeq ?_
      obtain⟨o1,h,hk1⟩:=bd h
      refine wK0 (.inr ()=o1) ([]) ([.box 8 35 (L35 y3),.box 6 28 [.d (kL (kR aJ)) y2.Rows],.box 5 25 [.d (kL kS) y1.Names,.d (kL (kI .u32)) y1.Up]]) ?_ ?_
      ·refine wBlock (wLoop ?_)
       refine lW (pc1 o1 (fun v32=>[(11,.d ((kL (kR ae)).sig y4.1)),(14,.d ((kL (kR ae)).sig y13)),(83,.d (ki.sig (y4.1.length:Int))),(84,.d (ki.sig v32))]) (fun v32=>[.box 8 35 (L35 y3),.box 6 28 [.d (kL (kR aJ)) y2.Rows],.box 5 25 [.d (kL kS) y1.Names,.d (kL (kI .u32)) y1.Up]]) (bu.l0.partial_correctness y4 y13) ?_ _ h) ⟨u,u,u,u,tv⟩ u
       clear h
       intro f' ih v32 h
       refine wSeq<|rx (c1<|.nil)<|pSeq<|wSeq ?_
       obtain⟨hp33,h⟩|⟨hp33,h⟩:=ik h
       ·refine wCT hp33.1 tm (s1 u)<|wSkip<|pSeq<|wSeq<|wBlock<|wSeq<|rx (c2<|.nil)<|pSeq<|wSeq ?_
        obtain⟨y34,hy34,h⟩:=bd h
        obtain⟨y35,hy35,h⟩:=bd h
        obtain⟨y36,hy36,h⟩:=bd h
        refine rdx hm (c2<|cp (oIdx u49 z35 hy34 tm tm) (s2 u u)<|c3<|cp (oIdx u49 z35 hy35 tm tm) (s2 u u)<|c1<|cC (bZ.ok hy36)<|c1<|.nil)<|pSeq ?_
        obtain⟨hp37,h⟩|⟨hp37,h⟩:=ik h
        ·refine wBT hp37.1 tm (s1 u)<|wSeq<|rx (c1<|.nil)<|pSeq<|wRet<|pBlkR<|pThenR<|pThenR<|pBlkR<|pThenR ?_
         obtain rfl:=so h
         replace h:=hk1
         refine pThenR ?_
         obtain rfl:=so h
         exact pR1 (.inl u) u (.tmp u<|.nil)
        ·exact wBF hp37.1 tm (s1 u)<|wSkip<|pBlkN<|pSeq<|rx (c2<|.nil)<|pLoop (lW (ih _ h) ⟨u,u,u,u,tv⟩ u)
       ·exact wCF hp33.1 tm (s1 u)<|wExit<|pThenX<|pThenX<|pBlkX<|pJ0 (so h) tv u
      ·rintro rfl
       replace h:=hk1
       refine pSeq<|wSeq<|rx (c1<|.nil)<|pSeq<|wRet ?_
       obtain rfl:=so h
       exact pR1 (.inl u) u (.tmp u<|.nil)
   ·refine wNF hp12.1 tm (s1 u) ?_
    obtain⟨o1,h,hk1⟩:=bd h
    refine wJ1 (fun x41=>x41=o1) (fun x41=>[(10,.d (kB.sig x41))]) (fun x41=>[.box 8 35 (L35 y3),.box 6 28 [.d (kL (kR aJ)) y2.Rows],.box 5 25 [.d (kL kS) y1.Names,.d (kL (kI .u32)) y1.Up]]) ?_ ?_
    ·obtain⟨y42,hy42,h⟩:=bd h
     obtain⟨hp43,h⟩|⟨hp43,h⟩:=ik h
     ·obtain⟨hp44,h⟩|⟨hp44,h⟩:=ik h
      ·exact rx (cC (reticentlaw20_alive.ok hy42)<|c8<|c3<|.nil)<|pJ1 _ (so h) (sb u) u
      ·exact rx (cC (reticentlaw20_alive.ok hy42)<|c8<|c3<|.nil)<|pJ1 _ (so h) (sb u) u
     ·exact rx (cC (reticentlaw20_alive.ok hy42)<|c8<|c3<|.nil)<|pJ1 _ (so h) (sb u) u
    ·rintro x41 rfl
     replace h:=hk1
     refine wRet<|pThenR ?_
     obtain rfl:=so h
     exact pR1 (.inl u) u (.tmp u<|.nil)
  ·refine wBF hp11.1 tm (s1 u)<|wSkip<|pSeq<|wSeq<|wSeq<|rx (c2<|.nil)<|pSeq ?_
   obtain⟨hp45,h⟩|⟨hp45,h⟩:=ik h
   ·refine wNT hp45.1 tm (s1 u)<|wSkip<|pSeq<|wSeq ?_
    obtain⟨y46,hy46,h⟩:=bd h
    refine rx (cr (oLdA (n:=2) (fs:=aj) (u:=⟨y1.Names,y1.Up⟩) u ⟨u,u,tv⟩ t25 tm) (s1 u)<|cr (oLdA (n:=1) (fs:=aL) (u:=⟨y2.Rows⟩) u ⟨u,tv⟩ t28 tm) (s1 u)<|c2<|cp (oBuild (fs:=cy) (u:=⟨y1,y2,a2,a4⟩) u ze43 pl43 po43 (.op (zc:=[(.slice none 0 0),(.slice none 0 0)]) tm u (.op (zc:=[(.slice none 0 0)]) tm u (.op (zc:=[(.int .i64 0)]) tm u (.op (zc:=[(.int .i64 0)]) tm u .nil))))) ⟨u,u,u,u,tv⟩<|cr (oLdP (n:=0) (k:=0) (m:=6) (d:=(kR ae)) (u:=y3) pt35 u u u t35 tm) (s1 u)<|cC (cj.ok hy46)<|c1<|.nil)<|pSeq<|wSeq ?_
    obtain⟨o1,h,hk1⟩:=bd h
    refine wJ1 (fun x50=>x50=o1) (fun x50=>[(11,.d ((kL (kR ae)).sig y4.1)),(14,.d ((kL (kR ae)).sig y46)),(81,.d (kB.sig x50))]) (fun x50=>[.box 8 35 (L35 y3),.box 6 28 [.d (kL (kR aJ)) y2.Rows],.box 5 25 [.d (kL kS) y1.Names,.d (kL (kI .u32)) y1.Up]]) ?_ ?_
    ·obtain⟨hp51,h⟩|⟨hp51,h⟩:=ik h
     ·obtain⟨hp52,h⟩|⟨hp52,h⟩:=ik h
      ·obtain⟨y53,hy53,h⟩:=bd h
       exact rx (c8<|c2<|cgB (nf hp52.1) u u (oCall u (reticentlaw20_alive.ok hy53) b11 o0) tv<|c2<|.nil)<|pJ1 _ (so h) (sb u) u
      ·exact rx (c12<|c1<|.nil)<|pJ1 _ (so h) (sb u) u
     ·exact rx (c12<|c1<|.nil)<|pJ1 _ (so h) (sb u) u
    ·rintro x50 rfl
     replace h:=hk1
     obtain⟨hp54,h⟩|⟨hp54,h⟩:=ik h
     ·refine wBT hp54.1 tm (s1 u)<|wSeq<|rx (c1<|.nil)<|pSeq<|wRet<|pThenR ?_
      obtain rfl:=so h
      exact pR1 (.inl u) u (.tmp u<|.nil)
     ·refine wBF hp54.1 tm (s1 u)<|wSkip<|pSeq<|wSeq<|wSeq<|rx (c3<|.nil)<|pSeq ?_
      obtain⟨o1,h,hk1⟩:=bd h
      refine wK0 (.inr ()=o1) ([]) ([.box 8 35 (L35 y3),.box 6 28 [.d (kL (kR aJ)) y2.Rows],.box 5 25 [.d (kL kS) y1.Names,.d (kL (kI .u32)) y1.Up]]) ?_ ?_
      ·refine wBlock (wLoop ?_)
       refine lW (pc1 o1 (fun v65=>[(11,.d ((kL (kR ae)).sig y4.1)),(14,.d ((kL (kR ae)).sig y46)),(83,.d (ki.sig (y4.1.length:Int))),(84,.d (ki.sig v65))]) (fun v65=>[.box 8 35 (L35 y3),.box 6 28 [.d (kL (kR aJ)) y2.Rows],.box 5 25 [.d (kL kS) y1.Names,.d (kL (kI .u32)) y1.Up]]) (bu.l1.partial_correctness y4 y46) ?_ _ h) ⟨u,u,u,u,tv⟩ u
       clear h
       intro f' ih v65 h
       refine wSeq<|rx (c1<|.nil)<|pSeq<|wSeq ?_
       obtain⟨hp66,h⟩|⟨hp66,h⟩:=ik h
       ·refine wCT hp66.1 tm (s1 u)<|wSkip<|pSeq<|wSeq<|wBlock<|wSeq<|rx (c2<|.nil)<|pSeq<|wSeq ?_
        obtain⟨y67,hy67,h⟩:=bd h
        obtain⟨y68,hy68,h⟩:=bd h
        obtain⟨y69,hy69,h⟩:=bd h
        refine rdx hm (c2<|cp (oIdx u49 z35 hy67 tm tm) (s2 u u)<|c3<|cp (oIdx u49 z35 hy68 tm tm) (s2 u u)<|c1<|cC (bZ.ok hy69)<|c1<|.nil)<|pSeq ?_
        obtain⟨hp70,h⟩|⟨hp70,h⟩:=ik h
        ·refine wBT hp70.1 tm (s1 u)<|wSeq<|rx (c1<|.nil)<|pSeq<|wRet<|pBlkR<|pThenR<|pThenR<|pBlkR<|pThenR ?_
         obtain rfl:=so h
         replace h:=hk1
         refine pThenR ?_
         obtain rfl:=so h
         exact pR1 (.inl u) u (.tmp u<|.nil)
        ·exact wBF hp70.1 tm (s1 u)<|wSkip<|pBlkN<|pSeq<|rx (c2<|.nil)<|pLoop (lW (ih _ h) ⟨u,u,u,u,tv⟩ u)
       ·exact wCF hp66.1 tm (s1 u)<|wExit<|pThenX<|pThenX<|pBlkX<|pJ0 (so h) tv u
      ·rintro rfl
       replace h:=hk1
       refine pSeq<|wSeq<|rx (c1<|.nil)<|pSeq<|wRet ?_
       obtain rfl:=so h
       exact pR1 (.inl u) u (.tmp u<|.nil)
   ·refine wNF hp45.1 tm (s1 u) ?_
    obtain⟨o1,h,hk1⟩:=bd h
    refine wJ1 (fun x74=>x74=o1) (fun x74=>[(10,.d (kB.sig x74))]) (fun x74=>[.box 8 35 (L35 y3),.box 6 28 [.d (kL (kR aJ)) y2.Rows],.box 5 25 [.d (kL kS) y1.Names,.d (kL (kI .u32)) y1.Up]]) ?_ ?_
    ·obtain⟨y75,hy75,h⟩:=bd h
     obtain⟨hp76,h⟩|⟨hp76,h⟩:=ik h
     ·obtain⟨hp77,h⟩|⟨hp77,h⟩:=ik h
      ·exact rx (cC (reticentlaw20_alive.ok hy75)<|c8<|c3<|.nil)<|pJ1 _ (so h) (sb u) u
      ·exact rx (cC (reticentlaw20_alive.ok hy75)<|c8<|c3<|.nil)<|pJ1 _ (so h) (sb u) u
     ·exact rx (cC (reticentlaw20_alive.ok hy75)<|c8<|c3<|.nil)<|pJ1 _ (so h) (sb u) u
    ·rintro x74 rfl
     replace h:=hk1
     refine wRet<|pThenR ?_
     obtain rfl:=so h
     exact pR1 (.inl u) u (.tmp u<|.nil)
end Go.Proofs.YtmjcpkmongafnaaGreatDoor.TT
