import Derived.Test.YtmjcpkmongafnaaGreatDoorCln
import Derived.Test.YtmjcpkmongafnaaGreatDoorWTTp1
import Derived.Test.YtmjcpkmongafnaaGreatDoorProg
set_option linter.unusedVariables false
set_option maxRecDepth 10000
set_option maxHeartbeats 2000000
set_option synthInstance.maxHeartbeats 200000
set_option synthInstance.maxSize 2000
namespace Go.Proofs.YtmjcpkmongafnaaGreatDoor.TT
open Go Go.Proofs.YtmjcpkmongafnaaGreatDoor.Ab
theorem aG.ok{a0:ah} {z:Pn⊕ah}(h:aG.f a0=some z):FnZ PP 181 [.p 70000 0] [.box 70000 204 (L204 a0)] [70000] 199 (fun(r:ah)=>.d (tup [])) (fun(r:ah)=>[.box 70000 204 (L204 r)]) z:=by
 refine fnIntroZ Tryz.func181 u (by kernel_rfl) fun X H0 w0 pv=>?_
 unfold aG.f at h
 refine wSeq<|rx (c4<|c1<|cr (oLdK (n:=0) (k:=6) u u (by kernel_rfl) t33 tm) (s1 u)<|c3<|cwn (oStK (n:=0) (k:=20) u u u (by kernel_rfl) z3 tm tm) (s2 u u)<|.nil)<|pSeq<|wSeq<|wSeq<|rx (c4<|cr (oLdK (n:=0) (k:=9) u u (by kernel_rfl) t3 tm) (s1 u)<|c1<|.nil)<|pSeq ?_
 obtain⟨hp1,h⟩|⟨hp1,h⟩:=ik h
 ·refine wCT hp1.1 tm (s1 u)<|wT0<|wTk 0 1 (c1<|.nil) (by kernel_rfl) u ?_
  obtain⟨z2,hz2,h⟩:=bd h
  rcases z2 with p3|y4
  ·refine wTx (Γp:=[]) 1 u (oCallX (rest:=[]) [(70000,70000)] [0] [] u (aW.okP hz2) b175 (oE1 tm oE0) u u) u u (s1 u) tv<|pThenP ?_
   obtain rfl:=so h
   exact pX
  ·refine wTe 1 (cm (oCallS (rest:=[]) (R':=[.box 70000 204 (L204 y4)]) (out':=.d (tup [])) [(70000,70000)] [] [0] [] [0] u (aW.okR hz2) b175 (oE1 tm oE0) u u u u u u u u) (s1 u)<|.nil) (by kernel_rfl)<|pSeq ?_
   obtain⟨o1,h,hk1⟩:=bd h
   refine wJ1 (fun x18=>x18=o1) (fun x18=>[(0,.p 70000 0)]) (fun x18=>[.box 70000 204 [.d (kL kS) y4.l_.Names,.d (kL (kI .u32)) y4.l_.Up,.d ki y4.s_.Pc.V,.d ki y4.s_.Pc.L,.d (kL (kR ao)) y4.s_.Code,.d (kL (kR ai)) y4.s_.Mem,.d (kL (kR ak)) y4.s_.Stack,.d (kL (kR ai)) y4.s_.Out,.d ki y4.x_.Op,.d ki y4.x_.N,.d ki y4.x_.L,.d kB y4.a_.Ret,.d ki y4.a_.V,.d ki y4.a_.L,.d kB y4.b_.Ret,.d ki y4.b_.V,.d ki y4.b_.L,.d kB y4.r_.Ret,.d ki y4.r_.V,.d ki y4.r_.L,.d ki x18,.d ki y4.one_.x0_,.d ki y4.one_.x1_,.d ki y4.one_.x2_]]) ?_ ?_
   ·refine wBlock (wLoop ?_)
    refine lW (pc1 o1 (fun v17=>[(0,.p 70000 0)]) (fun v17=>[.box 70000 204 [.d (kL kS) y4.l_.Names,.d (kL (kI .u32)) y4.l_.Up,.d ki y4.s_.Pc.V,.d ki y4.s_.Pc.L,.d (kL (kR ao)) y4.s_.Code,.d (kL (kR ai)) y4.s_.Mem,.d (kL (kR ak)) y4.s_.Stack,.d (kL (kR ai)) y4.s_.Out,.d ki y4.x_.Op,.d ki y4.x_.N,.d ki y4.x_.L,.d kB y4.a_.Ret,.d ki y4.a_.V,.d ki y4.a_.L,.d kB y4.b_.Ret,.d ki y4.b_.V,.d ki y4.b_.L,.d kB y4.r_.Ret,.d ki y4.r_.V,.d ki y4.r_.L,.d ki v17,.d ki y4.one_.x0_,.d ki y4.one_.x1_,.d ki y4.one_.x2_]]) (aG.l0.partial_correctness y4) ?_ _ h) ⟨u,tv⟩ u
    clear h
    intro f' ih v17 h
    refine wSeq ?_
    obtain⟨o2,h,hk2⟩:=bd h
    refine wJ1 (fun x21=>x21=o2) (fun x21=>[(0,.p 70000 0),(39,.d (kB.sig x21))]) (fun x21=>[.box 70000 204 [.d (kL kS) y4.l_.Names,.d (kL (kI .u32)) y4.l_.Up,.d ki y4.s_.Pc.V,.d ki y4.s_.Pc.L,.d (kL (kR ao)) y4.s_.Code,.d (kL (kR ai)) y4.s_.Mem,.d (kL (kR ak)) y4.s_.Stack,.d (kL (kR ai)) y4.s_.Out,.d ki y4.x_.Op,.d ki y4.x_.N,.d ki y4.x_.L,.d kB y4.a_.Ret,.d ki y4.a_.V,.d ki y4.a_.L,.d kB y4.b_.Ret,.d ki y4.b_.V,.d ki y4.b_.L,.d kB y4.r_.Ret,.d ki y4.r_.V,.d ki y4.r_.L,.d ki v17,.d ki y4.one_.x0_,.d ki y4.one_.x1_,.d ki y4.one_.x2_]]) ?_ ?_
    ·obtain⟨hp22,h⟩|⟨hp22,h⟩:=ik h
     ·obtain⟨y23,hy23,h⟩:=bd h
      exact rdx hm (c3<|cr (oLdK (n:=0) (k:=20) u u (by kernel_rfl) t3 tm) (s1 u)<|c6<|crgB (dT hp22.1) u u (oLdK (n:=0) (k:=6) u u (by kernel_rfl) t33 tm) (s1 u)<|c3<|crgB (dT hp22.1) u u (oLdK (n:=0) (k:=20) u u (by kernel_rfl) t3 tm) (s1 u)<|c1<|cgB (dT hp22.1) u u (oIdx u33 z88 hy23 tm tm) (s2 u u)<|c4<|.nil)<|pJ1 _ (so h) (sb u) u
     ·exact rdx hm (c3<|cr (oLdK (n:=0) (k:=20) u u (by kernel_rfl) t3 tm) (s1 u)<|c12<|c4<|c1<|.nil)<|pJ1 _ (so h) (sb u) u
    ·rintro x21 rfl
     replace h:=hk2
     obtain⟨hp24,h⟩|⟨hp24,h⟩:=ik h
     ·exact wBT hp24.1 tm (s1 u)<|wSkip<|pSeq<|wBlock<|rx (c3<|cr (oLdK (n:=0) (k:=20) u u (by kernel_rfl) t3 tm) (s1 u)<|c3<|cwn (oStK (n:=0) (k:=20) u u u (by kernel_rfl) z3 tm tm) (s2 u u)<|.nil)<|pBlkN<|pLoop (lW (ih _ h) ⟨u,tv⟩ u)
     ·exact wBF hp24.1 tm (s1 u)<|wExit<|pThenX<|pThenX<|pBlkX<|pJ1 _ (so h) (sb u) u
   ·rintro x18 rfl
    replace h:=hk1
    refine wSeq<|wT0<|wTk 0 5 (c3<|cr (oLdK (n:=0) (k:=20) u u (by kernel_rfl) t3 tm) (s1 u)<|c1<|.nil) (by kernel_rfl) u ?_
    obtain⟨z25,hz25,h⟩:=bd h
    rcases z25 with p26|y27
    ·refine wTx (Γp:=[]) 5 u (oCallX (rest:=[.box 70000 204 [.d (kL kS) y4.l_.Names,.d (kL (kI .u32)) y4.l_.Up,.d ki y4.s_.Pc.V,.d ki y4.s_.Pc.L,.d (kL (kR ao)) y4.s_.Code,.d (kL (kR ai)) y4.s_.Mem,.d (kL (kR ak)) y4.s_.Stack,.d (kL (kR ai)) y4.s_.Out,.d ki y4.x_.Op,.d ki y4.x_.N,.d ki y4.x_.L,.d kB y4.a_.Ret,.d ki y4.a_.V,.d ki y4.a_.L,.d kB y4.b_.Ret,.d ki y4.b_.V,.d ki y4.b_.L,.d kB y4.r_.Ret,.d ki y4.r_.V,.d ki y4.r_.L,.d ki x18,.d ki y4.one_.x0_,.d ki y4.one_.x1_,.d ki y4.one_.x2_]]) [] [] [0] u (bF.okP hz25) b155 (oE1 tm oE0) u u) u u (s1 u) tv<|pThenP ?_
     obtain rfl:=so h
     exact pX
    ·refine wTe 5 (cm (oCallS (rest:=[.box 70000 204 [.d (kL kS) y4.l_.Names,.d (kL (kI .u32)) y4.l_.Up,.d ki y4.s_.Pc.V,.d ki y4.s_.Pc.L,.d (kL (kR ao)) y4.s_.Code,.d (kL (kR ai)) y4.s_.Mem,.d (kL (kR ak)) y4.s_.Stack,.d (kL (kR ai)) y4.s_.Out,.d ki y4.x_.Op,.d ki y4.x_.N,.d ki y4.x_.L,.d kB y4.a_.Ret,.d ki y4.a_.V,.d ki y4.a_.L,.d kB y4.b_.Ret,.d ki y4.b_.V,.d ki y4.b_.L,.d kB y4.r_.Ret,.d ki y4.r_.V,.d ki y4.r_.L,.d ki x18,.d ki y4.one_.x0_,.d ki y4.one_.x1_,.d ki y4.one_.x2_]]) (R':=[.box 70000 204 [.d (kL kS) y4.l_.Names,.d (kL (kI .u32)) y4.l_.Up,.d ki y4.s_.Pc.V,.d ki y4.s_.Pc.L,.d (kL (kR ao)) y4.s_.Code,.d (kL (kR ai)) y4.s_.Mem,.d (kL (kR ak)) y4.s_.Stack,.d (kL (kR ai)) y4.s_.Out,.d ki y4.x_.Op,.d ki y4.x_.N,.d ki y4.x_.L,.d kB y4.a_.Ret,.d ki y4.a_.V,.d ki y4.a_.L,.d kB y4.b_.Ret,.d ki y4.b_.V,.d ki y4.b_.L,.d kB y4.r_.Ret,.d ki y4.r_.V,.d ki y4.r_.L,.d ki x18,.d ki y4.one_.x0_,.d ki y4.one_.x1_,.d ki y4.one_.x2_]]) (out':=.d (tup [])) [] [] [] [0] [0] u (bF.okR hz25) b155 (oE1 tm oE0) u u u u u u u u) (s1 u)<|.nil) (by kernel_rfl)<|pSeq<|wSeq<|rx (c3<|cr (oLdK (n:=0) (k:=20) u u (by kernel_rfl) t3 tm) (s1 u)<|c3<|cwn (oStK (n:=0) (k:=20) u u u (by kernel_rfl) z3 tm tm) (s2 u u)<|.nil)<|pSeq<|wSeq ?_
     obtain⟨y28,hy28,h⟩:=bd h
     refine rdx hm (c4<|c1<|cr (oLdK (n:=0) (k:=6) u u (by kernel_rfl) t33 tm) (s1 u)<|c3<|cr (oLdK (n:=0) (k:=20) u u (by kernel_rfl) t3 tm) (s1 u)<|cp (oIdx u33 z88 hy28 tm tm) (s2 u u)<|c3<|cwn (oStPK (n:=0) (k:=17) (m:=3) (d:=(kR ak)) (u:=y28) pt88 u u (by kernel_rfl) z88 tm tm) (s2 u u)<|.nil)<|pSeq<|rdx hm (c4<|c1<|cr (oLdK (n:=0) (k:=19) u u (by kernel_rfl) t3 tm) (s1 u)<|c2<|cp (oIdxA 1 1 u u202 z3 u tm (cI (by decide))) (s1 u)<|cwn (oStK (n:=0) (k:=22) u u u (by kernel_rfl) z3 tm tm) (s2 u u)<|.nil) ?_
     obtain rfl:=so h
     exact pZ<|pSn [0] u u (.inr u) u u (.nil)
 ·refine wCF hp1.1 tm (s1 u)<|wSkip<|pSeq ?_
  obtain⟨o1,h,hk1⟩:=bd h
  refine wJ1 (fun x42=>x42=o1) (fun x42=>[(0,.p 70000 0)]) (fun x42=>[.box 70000 204 [.d (kL kS) a0.l_.Names,.d (kL (kI .u32)) a0.l_.Up,.d ki a0.s_.Pc.V,.d ki a0.s_.Pc.L,.d (kL (kR ao)) a0.s_.Code,.d (kL (kR ai)) a0.s_.Mem,.d (kL (kR ak)) a0.s_.Stack,.d (kL (kR ai)) a0.s_.Out,.d ki a0.x_.Op,.d ki a0.x_.N,.d ki a0.x_.L,.d kB a0.a_.Ret,.d ki a0.a_.V,.d ki a0.a_.L,.d kB a0.b_.Ret,.d ki a0.b_.V,.d ki a0.b_.L,.d kB a0.r_.Ret,.d ki a0.r_.V,.d ki a0.r_.L,.d ki x42,.d ki a0.one_.x0_,.d ki a0.one_.x1_,.d ki a0.one_.x2_]]) ?_ ?_
  ·refine wBlock (wLoop ?_)
   refine lW (pc1 o1 (fun v41=>[(0,.p 70000 0)]) (fun v41=>[.box 70000 204 [.d (kL kS) a0.l_.Names,.d (kL (kI .u32)) a0.l_.Up,.d ki a0.s_.Pc.V,.d ki a0.s_.Pc.L,.d (kL (kR ao)) a0.s_.Code,.d (kL (kR ai)) a0.s_.Mem,.d (kL (kR ak)) a0.s_.Stack,.d (kL (kR ai)) a0.s_.Out,.d ki a0.x_.Op,.d ki a0.x_.N,.d ki a0.x_.L,.d kB a0.a_.Ret,.d ki a0.a_.V,.d ki a0.a_.L,.d kB a0.b_.Ret,.d ki a0.b_.V,.d ki a0.b_.L,.d kB a0.r_.Ret,.d ki a0.r_.V,.d ki a0.r_.L,.d ki v41,.d ki a0.one_.x0_,.d ki a0.one_.x1_,.d ki a0.one_.x2_]]) (aG.l1.partial_correctness a0) ?_ _ h) ⟨u,tv⟩ u
   clear h
   intro f' ih v41 h
   refine wSeq ?_
   obtain⟨o2,h,hk2⟩:=bd h
   refine wJ1 (fun x45=>x45=o2) (fun x45=>[(0,.p 70000 0),(39,.d (kB.sig x45))]) (fun x45=>[.box 70000 204 [.d (kL kS) a0.l_.Names,.d (kL (kI .u32)) a0.l_.Up,.d ki a0.s_.Pc.V,.d ki a0.s_.Pc.L,.d (kL (kR ao)) a0.s_.Code,.d (kL (kR ai)) a0.s_.Mem,.d (kL (kR ak)) a0.s_.Stack,.d (kL (kR ai)) a0.s_.Out,.d ki a0.x_.Op,.d ki a0.x_.N,.d ki a0.x_.L,.d kB a0.a_.Ret,.d ki a0.a_.V,.d ki a0.a_.L,.d kB a0.b_.Ret,.d ki a0.b_.V,.d ki a0.b_.L,.d kB a0.r_.Ret,.d ki a0.r_.V,.d ki a0.r_.L,.d ki v41,.d ki a0.one_.x0_,.d ki a0.one_.x1_,.d ki a0.one_.x2_]]) ?_ ?_
   ·obtain⟨hp46,h⟩|⟨hp46,h⟩:=ik h
    ·obtain⟨y47,hy47,h⟩:=bd h
     exact rdx hm (c3<|cr (oLdK (n:=0) (k:=20) u u (by kernel_rfl) t3 tm) (s1 u)<|c6<|crgB (dT hp46.1) u u (oLdK (n:=0) (k:=6) u u (by kernel_rfl) t33 tm) (s1 u)<|c3<|crgB (dT hp46.1) u u (oLdK (n:=0) (k:=20) u u (by kernel_rfl) t3 tm) (s1 u)<|c1<|cgB (dT hp46.1) u u (oIdx u33 z88 hy47 tm tm) (s2 u u)<|c4<|.nil)<|pJ1 _ (so h) (sb u) u
    ·exact rdx hm (c3<|cr (oLdK (n:=0) (k:=20) u u (by kernel_rfl) t3 tm) (s1 u)<|c12<|c4<|c1<|.nil)<|pJ1 _ (so h) (sb u) u
   ·rintro x45 rfl
    replace h:=hk2
    obtain⟨hp48,h⟩|⟨hp48,h⟩:=ik h
    ·exact wBT hp48.1 tm (s1 u)<|wSkip<|pSeq<|wBlock<|rx (c3<|cr (oLdK (n:=0) (k:=20) u u (by kernel_rfl) t3 tm) (s1 u)<|c3<|cwn (oStK (n:=0) (k:=20) u u u (by kernel_rfl) z3 tm tm) (s2 u u)<|.nil)<|pBlkN<|pLoop (lW (ih _ h) ⟨u,tv⟩ u)
    ·exact wBF hp48.1 tm (s1 u)<|wExit<|pThenX<|pThenX<|pBlkX<|pJ1 _ (so h) (sb u) u
  ·rintro x42 rfl
   replace h:=hk1
   refine wSeq<|wT0<|wTk 0 5 (c3<|cr (oLdK (n:=0) (k:=20) u u (by kernel_rfl) t3 tm) (s1 u)<|c1<|.nil) (by kernel_rfl) u ?_
   obtain⟨z49,hz49,h⟩:=bd h
   rcases z49 with p50|y51
   ·refine wTx (Γp:=[]) 5 u (oCallX (rest:=[.box 70000 204 [.d (kL kS) a0.l_.Names,.d (kL (kI .u32)) a0.l_.Up,.d ki a0.s_.Pc.V,.d ki a0.s_.Pc.L,.d (kL (kR ao)) a0.s_.Code,.d (kL (kR ai)) a0.s_.Mem,.d (kL (kR ak)) a0.s_.Stack,.d (kL (kR ai)) a0.s_.Out,.d ki a0.x_.Op,.d ki a0.x_.N,.d ki a0.x_.L,.d kB a0.a_.Ret,.d ki a0.a_.V,.d ki a0.a_.L,.d kB a0.b_.Ret,.d ki a0.b_.V,.d ki a0.b_.L,.d kB a0.r_.Ret,.d ki a0.r_.V,.d ki a0.r_.L,.d ki x42,.d ki a0.one_.x0_,.d ki a0.one_.x1_,.d ki a0.one_.x2_]]) [] [] [0] u (bF.okP hz49) b155 (oE1 tm oE0) u u) u u (s1 u) tv<|pThenP ?_
    obtain rfl:=so h
    exact pX
   ·refine wTe 5 (cm (oCallS (rest:=[.box 70000 204 [.d (kL kS) a0.l_.Names,.d (kL (kI .u32)) a0.l_.Up,.d ki a0.s_.Pc.V,.d ki a0.s_.Pc.L,.d (kL (kR ao)) a0.s_.Code,.d (kL (kR ai)) a0.s_.Mem,.d (kL (kR ak)) a0.s_.Stack,.d (kL (kR ai)) a0.s_.Out,.d ki a0.x_.Op,.d ki a0.x_.N,.d ki a0.x_.L,.d kB a0.a_.Ret,.d ki a0.a_.V,.d ki a0.a_.L,.d kB a0.b_.Ret,.d ki a0.b_.V,.d ki a0.b_.L,.d kB a0.r_.Ret,.d ki a0.r_.V,.d ki a0.r_.L,.d ki x42,.d ki a0.one_.x0_,.d ki a0.one_.x1_,.d ki a0.one_.x2_]]) (R':=[.box 70000 204 [.d (kL kS) a0.l_.Names,.d (kL (kI .u32)) a0.l_.Up,.d ki a0.s_.Pc.V,.d ki a0.s_.Pc.L,.d (kL (kR ao)) a0.s_.Code,.d (kL (kR ai)) a0.s_.Mem,.d (kL (kR ak)) a0.s_.Stack,.d (kL (kR ai)) a0.s_.Out,.d ki a0.x_.Op,.d ki a0.x_.N,.d ki a0.x_.L,.d kB a0.a_.Ret,.d ki a0.a_.V,.d ki a0.a_.L,.d kB a0.b_.Ret,.d ki a0.b_.V,.d ki a0.b_.L,.d kB a0.r_.Ret,.d ki a0.r_.V,.d ki a0.r_.L,.d ki x42,.d ki a0.one_.x0_,.d ki a0.one_.x1_,.d ki a0.one_.x2_]]) (out':=.d (tup [])) [] [] [] [0] [0] u (bF.okR hz49) b155 (oE1 tm oE0) u u u u u u u u) (s1 u)<|.nil) (by kernel_rfl)<|pSeq<|wSeq<|rx (c3<|cr (oLdK (n:=0) (k:=20) u u (by kernel_rfl) t3 tm) (s1 u)<|c3<|cwn (oStK (n:=0) (k:=20) u u u (by kernel_rfl) z3 tm tm) (s2 u u)<|.nil)<|pSeq<|wSeq ?_
    obtain⟨y52,hy52,h⟩:=bd h
    refine rdx hm (c4<|c1<|cr (oLdK (n:=0) (k:=6) u u (by kernel_rfl) t33 tm) (s1 u)<|c3<|cr (oLdK (n:=0) (k:=20) u u (by kernel_rfl) t3 tm) (s1 u)<|cp (oIdx u33 z88 hy52 tm tm) (s2 u u)<|c3<|cwn (oStPK (n:=0) (k:=17) (m:=3) (d:=(kR ak)) (u:=y52) pt88 u u (by kernel_rfl) z88 tm tm) (s2 u u)<|.nil)<|pSeq<|rdx hm (c4<|c1<|cr (oLdK (n:=0) (k:=19) u u (by kernel_rfl) t3 tm) (s1 u)<|c2<|cp (oIdxA 1 1 u u202 z3 u tm (cI (by decide))) (s1 u)<|cwn (oStK (n:=0) (k:=22) u u u (by kernel_rfl) z3 tm tm) (s2 u u)<|.nil) ?_
    obtain rfl:=so h
    exact pZ<|pSn [0] u u (.inr u) u u (.nil)
theorem aG.okR{a0:ah} {r:ah}(h:aG.f a0=some (.inr r)):FnS PP 181 [.p 70000 0] [.box 70000 204 (L204 a0)] [70000] (.d (tup [])) [.box 70000 204 (L204 r)]:=aG.ok h
theorem aG.okP{a0:ah} {n:Pn}(h:aG.f a0=some (.inl n)):FnX PP 181 [.p 70000 0] [.box 70000 204 (L204 a0)] (pvv 199 n):=aG.ok h
theorem bG.ok{a0:ah} {z:Pn⊕ah}(h:bG.f a0=some z):FnZ PP 157 [.p 70000 0] [.box 70000 204 (L204 a0)] [70000] 199 (fun(r:ah)=>.d (tup [])) (fun(r:ah)=>[.box 70000 204 (L204 r)]) z:=by
 refine fnIntroZ Tryz.func157 u (by kernel_rfl) fun X H0 w0 pv=>?_
 unfold bG.f at h
 refine wSeq<|rx (c4<|c1<|cr (oLdK (n:=0) (k:=6) u u (by kernel_rfl) t33 tm) (s1 u)<|c3<|cwn (oStK (n:=0) (k:=20) u u u (by kernel_rfl) z3 tm tm) (s2 u u)<|.nil)<|pSeq<|wPtr (n:=0) 0 u u (fun b0=>?_)
 refine wT0<|wTk 0 47 (cw (oMkMap (id:=11) (dk:=ki) (dv:=kV)) tv<|c1<|cp (oMkBV tm) (s1 u)<|cwn (oInsert (n:=0) (dk:=ki) (dv:=kV) u u216 mk3 u u tm (cI (by decide)) tm) (s2 u u)<|c1<|cp (oMkBV tm) (s1 u)<|cwn (oInsert (n:=0) (dk:=ki) (dv:=kV) u u216 mk3 u u tm (cI (by decide)) tm) (s2 u u)<|c1<|cp (oMkBV tm) (s1 u)<|cwn (oInsert (n:=0) (dk:=ki) (dv:=kV) u u216 mk3 u u tm (cI (by decide)) tm) (s2 u u)<|c1<|cp (oMkBV tm) (s1 u)<|cwn (oInsert (n:=0) (dk:=ki) (dv:=kV) u u216 mk3 u u tm (cI (by decide)) tm) (s2 u u)<|c1<|cp (oMkBV tm) (s1 u)<|cwn (oInsert (n:=0) (dk:=ki) (dv:=kV) u u216 mk3 u u tm (cI (by decide)) tm) (s2 u u)<|c1<|cp (oMkBV tm) (s1 u)<|cwn (oInsert (n:=0) (dk:=ki) (dv:=kV) u u216 mk3 u u tm (cI (by decide)) tm) (s2 u u)<|c1<|cp (oMkBV tm) (s1 u)<|cwn (oInsert (n:=0) (dk:=ki) (dv:=kV) u u216 mk3 u u tm (cI (by decide)) tm) (s2 u u)<|c1<|cp (oMkBV tm) (s1 u)<|cwn (oInsert (n:=0) (dk:=ki) (dv:=kV) u u216 mk3 u u tm (cI (by decide)) tm) (s2 u u)<|c1<|cp (oMkBV tm) (s1 u)<|cwn (oInsert (n:=0) (dk:=ki) (dv:=kV) u u216 mk3 u u tm (cI (by decide)) tm) (s2 u u)<|c1<|cp (oMkBV tm) (s1 u)<|cwn (oInsert (n:=0) (dk:=ki) (dv:=kV) u u216 mk3 u u tm (cI (by decide)) tm) (s2 u u)<|c1<|cp (oMkBV tm) (s1 u)<|cwn (oInsert (n:=0) (dk:=ki) (dv:=kV) u u216 mk3 u u tm (cI (by decide)) tm) (s2 u u)<|c1<|cp (oMkBV tm) (s1 u)<|cwn (oInsert (n:=0) (dk:=ki) (dv:=kV) u u216 mk3 u u tm (cI (by decide)) tm) (s2 u u)<|c1<|cp (oMkBV tm) (s1 u)<|cwn (oInsert (n:=0) (dk:=ki) (dv:=kV) u u216 mk3 u u tm (cI (by decide)) tm) (s2 u u)<|c2<|cp (oNilP tmP) (s1 u)<|c2<|cr (oLdK (n:=1) (k:=8) u u (by kernel_rfl) t3 tm) (s1 u)<|cr (oLookR (n:=0) u u216 mk3 zv1 (fun H=>⟨u,u⟩) u tm tm) (s2 u u)<|.nil) (by kernel_rfl) u ?_
 obtain⟨hp1,h⟩|⟨hp1,h⟩:=ik h
 ·obtain⟨y2,hy2,h⟩:=bd h
  refine wTe 47 (cm (oCallBV (kn:=70000) (rest:=[.abs 11 (aMap ki kV) [(0,bmV 173 b0),(12,bmV 173 b0),(1,bmV 174 b0),(2,bmV 175 b0),(11,bmV 175 b0),(3,bmV 176 b0),(4,bmV 176 b0),(5,bmV 177 b0),(6,bmV 178 b0),(7,bmV 179 b0),(8,bmV 175 b0),(9,bmV 180 b0),(10,bmV 181 b0)]]) (R':=[.abs 11 (aMap ki kV) [(0,bmV 173 b0),(12,bmV 173 b0),(1,bmV 174 b0),(2,bmV 175 b0),(11,bmV 175 b0),(3,bmV 176 b0),(4,bmV 176 b0),(5,bmV 177 b0),(6,bmV 178 b0),(7,bmV 179 b0),(8,bmV 175 b0),(9,bmV 180 b0),(10,bmV 181 b0)],.box 70000 204 (L204 y2)]) (out':=.d (tup [])) [(70000,70000)] [] [1] [0] [1,0] (by rw[hp1.1];rfl) tm (tm (t:=0)) (et.ok hy2) u b173 u u u u u u u u) (s2 u u)<|.nil) (by kernel_rfl) ?_
  obtain rfl:=so h
  exact pZ<|pSn [1] u u (.inr u) u u (.nil)
 ·obtain⟨hp3,h⟩|⟨hp3,h⟩:=ik h
  ·obtain⟨y4,hy4,h⟩:=bd h
   refine wTe 47 (cm (oCallBV (kn:=70000) (rest:=[.abs 11 (aMap ki kV) [(0,bmV 173 b0),(12,bmV 173 b0),(1,bmV 174 b0),(2,bmV 175 b0),(11,bmV 175 b0),(3,bmV 176 b0),(4,bmV 176 b0),(5,bmV 177 b0),(6,bmV 178 b0),(7,bmV 179 b0),(8,bmV 175 b0),(9,bmV 180 b0),(10,bmV 181 b0)]]) (R':=[.abs 11 (aMap ki kV) [(0,bmV 173 b0),(12,bmV 173 b0),(1,bmV 174 b0),(2,bmV 175 b0),(11,bmV 175 b0),(3,bmV 176 b0),(4,bmV 176 b0),(5,bmV 177 b0),(6,bmV 178 b0),(7,bmV 179 b0),(8,bmV 175 b0),(9,bmV 180 b0),(10,bmV 181 b0)],.box 70000 204 (L204 y4)]) (out':=.d (tup [])) [(70000,70000)] [] [1] [0] [1,0] (by rw[hp3.1];rfl) tm (tm (t:=0)) (et.ok hy4) u b173 u u u u u u u u) (s2 u u)<|.nil) (by kernel_rfl) ?_
   obtain rfl:=so h
   exact pZ<|pSn [1] u u (.inr u) u u (.nil)
  ·obtain⟨hp5,h⟩|⟨hp5,h⟩:=ik h
   ·obtain⟨y6,hy6,h⟩:=bd h
    refine wTe 47 (cm (oCallBV (kn:=70000) (rest:=[.abs 11 (aMap ki kV) [(0,bmV 173 b0),(12,bmV 173 b0),(1,bmV 174 b0),(2,bmV 175 b0),(11,bmV 175 b0),(3,bmV 176 b0),(4,bmV 176 b0),(5,bmV 177 b0),(6,bmV 178 b0),(7,bmV 179 b0),(8,bmV 175 b0),(9,bmV 180 b0),(10,bmV 181 b0)]]) (R':=[.abs 11 (aMap ki kV) [(0,bmV 173 b0),(12,bmV 173 b0),(1,bmV 174 b0),(2,bmV 175 b0),(11,bmV 175 b0),(3,bmV 176 b0),(4,bmV 176 b0),(5,bmV 177 b0),(6,bmV 178 b0),(7,bmV 179 b0),(8,bmV 175 b0),(9,bmV 180 b0),(10,bmV 181 b0)],.box 70000 204 (L204 y6)]) (out':=.d (tup [])) [(70000,70000)] [] [1] [0] [1,0] (by rw[hp5.1];rfl) tm (tm (t:=0)) (fp.ok hy6) u b174 u u u u u u u u) (s2 u u)<|.nil) (by kernel_rfl) ?_
    obtain rfl:=so h
    exact pZ<|pSn [1] u u (.inr u) u u (.nil)
   ·obtain⟨hp7,h⟩|⟨hp7,h⟩:=ik h
    ·obtain⟨z8,hz8,h⟩:=bd h
     rcases z8 with p9|y10
     ·refine wTx (Γp:=[]) 47 u (oCallBX (kn:=70000) (rest:=[.abs 11 (aMap ki kV) [(0,bmV 173 b0),(12,bmV 173 b0),(1,bmV 174 b0),(2,bmV 175 b0),(11,bmV 175 b0),(3,bmV 176 b0),(4,bmV 176 b0),(5,bmV 177 b0),(6,bmV 178 b0),(7,bmV 179 b0),(8,bmV 175 b0),(9,bmV 180 b0),(10,bmV 181 b0)]]) [(70000,70000)] [1] [0] (by rw[hp7.1];rfl) tm (tm (t:=0)) (aW.okP hz8) u b175 u u) u u (s2 u u) tv ?_
      obtain rfl:=so h
      exact pX
     ·refine wTe 47 (cm (oCallBV (kn:=70000) (rest:=[.abs 11 (aMap ki kV) [(0,bmV 173 b0),(12,bmV 173 b0),(1,bmV 174 b0),(2,bmV 175 b0),(11,bmV 175 b0),(3,bmV 176 b0),(4,bmV 176 b0),(5,bmV 177 b0),(6,bmV 178 b0),(7,bmV 179 b0),(8,bmV 175 b0),(9,bmV 180 b0),(10,bmV 181 b0)]]) (R':=[.abs 11 (aMap ki kV) [(0,bmV 173 b0),(12,bmV 173 b0),(1,bmV 174 b0),(2,bmV 175 b0),(11,bmV 175 b0),(3,bmV 176 b0),(4,bmV 176 b0),(5,bmV 177 b0),(6,bmV 178 b0),(7,bmV 179 b0),(8,bmV 175 b0),(9,bmV 180 b0),(10,bmV 181 b0)],.box 70000 204 (L204 y10)]) (out':=.d (tup [])) [(70000,70000)] [] [1] [0] [1,0] (by rw[hp7.1];rfl) tm (tm (t:=0)) (aW.okR hz8) u b175 u u u u u u u u) (s2 u u)<|.nil) (by kernel_rfl) ?_
      obtain rfl:=so h
      exact pZ<|pSn [1] u u (.inr u) u u (.nil)
    ·obtain⟨hp11,h⟩|⟨hp11,h⟩:=ik h
     ·obtain⟨z12,hz12,h⟩:=bd h
      rcases z12 with p13|y14
      ·refine wTx (Γp:=[]) 47 u (oCallBX (kn:=70000) (rest:=[.abs 11 (aMap ki kV) [(0,bmV 173 b0),(12,bmV 173 b0),(1,bmV 174 b0),(2,bmV 175 b0),(11,bmV 175 b0),(3,bmV 176 b0),(4,bmV 176 b0),(5,bmV 177 b0),(6,bmV 178 b0),(7,bmV 179 b0),(8,bmV 175 b0),(9,bmV 180 b0),(10,bmV 181 b0)]]) [(70000,70000)] [1] [0] (by rw[hp11.1];rfl) tm (tm (t:=0)) (aW.okP hz12) u b175 u u) u u (s2 u u) tv ?_
       obtain rfl:=so h
       exact pX
      ·refine wTe 47 (cm (oCallBV (kn:=70000) (rest:=[.abs 11 (aMap ki kV) [(0,bmV 173 b0),(12,bmV 173 b0),(1,bmV 174 b0),(2,bmV 175 b0),(11,bmV 175 b0),(3,bmV 176 b0),(4,bmV 176 b0),(5,bmV 177 b0),(6,bmV 178 b0),(7,bmV 179 b0),(8,bmV 175 b0),(9,bmV 180 b0),(10,bmV 181 b0)]]) (R':=[.abs 11 (aMap ki kV) [(0,bmV 173 b0),(12,bmV 173 b0),(1,bmV 174 b0),(2,bmV 175 b0),(11,bmV 175 b0),(3,bmV 176 b0),(4,bmV 176 b0),(5,bmV 177 b0),(6,bmV 178 b0),(7,bmV 179 b0),(8,bmV 175 b0),(9,bmV 180 b0),(10,bmV 181 b0)],.box 70000 204 (L204 y14)]) (out':=.d (tup [])) [(70000,70000)] [] [1] [0] [1,0] (by rw[hp11.1];rfl) tm (tm (t:=0)) (aW.okR hz12) u b175 u u u u u u u u) (s2 u u)<|.nil) (by kernel_rfl) ?_
       obtain rfl:=so h
       exact pZ<|pSn [1] u u (.inr u) u u (.nil)
     ·obtain⟨hp15,h⟩|⟨hp15,h⟩:=ik h
      ·obtain⟨z16,hz16,h⟩:=bd h
       rcases z16 with p17|y18
       ·refine wTx (Γp:=[]) 47 u (oCallBX (kn:=70000) (rest:=[.abs 11 (aMap ki kV) [(0,bmV 173 b0),(12,bmV 173 b0),(1,bmV 174 b0),(2,bmV 175 b0),(11,bmV 175 b0),(3,bmV 176 b0),(4,bmV 176 b0),(5,bmV 177 b0),(6,bmV 178 b0),(7,bmV 179 b0),(8,bmV 175 b0),(9,bmV 180 b0),(10,bmV 181 b0)]]) [(70000,70000)] [1] [0] (by rw[hp15.1];rfl) tm (tm (t:=0)) (bQ.okP hz16) u b176 u u) u u (s2 u u) tv ?_
        obtain rfl:=so h
        exact pX
       ·refine wTe 47 (cm (oCallBV (kn:=70000) (rest:=[.abs 11 (aMap ki kV) [(0,bmV 173 b0),(12,bmV 173 b0),(1,bmV 174 b0),(2,bmV 175 b0),(11,bmV 175 b0),(3,bmV 176 b0),(4,bmV 176 b0),(5,bmV 177 b0),(6,bmV 178 b0),(7,bmV 179 b0),(8,bmV 175 b0),(9,bmV 180 b0),(10,bmV 181 b0)]]) (R':=[.abs 11 (aMap ki kV) [(0,bmV 173 b0),(12,bmV 173 b0),(1,bmV 174 b0),(2,bmV 175 b0),(11,bmV 175 b0),(3,bmV 176 b0),(4,bmV 176 b0),(5,bmV 177 b0),(6,bmV 178 b0),(7,bmV 179 b0),(8,bmV 175 b0),(9,bmV 180 b0),(10,bmV 181 b0)],.box 70000 204 (L204 y18)]) (out':=.d (tup [])) [(70000,70000)] [] [1] [0] [1,0] (by rw[hp15.1];rfl) tm (tm (t:=0)) (bQ.okR hz16) u b176 u u u u u u u u) (s2 u u)<|.nil) (by kernel_rfl) ?_
        obtain rfl:=so h
        exact pZ<|pSn [1] u u (.inr u) u u (.nil)
      ·obtain⟨hp19,h⟩|⟨hp19,h⟩:=ik h
       ·obtain⟨z20,hz20,h⟩:=bd h
        rcases z20 with p21|y22
        ·refine wTx (Γp:=[]) 47 u (oCallBX (kn:=70000) (rest:=[.abs 11 (aMap ki kV) [(0,bmV 173 b0),(12,bmV 173 b0),(1,bmV 174 b0),(2,bmV 175 b0),(11,bmV 175 b0),(3,bmV 176 b0),(4,bmV 176 b0),(5,bmV 177 b0),(6,bmV 178 b0),(7,bmV 179 b0),(8,bmV 175 b0),(9,bmV 180 b0),(10,bmV 181 b0)]]) [(70000,70000)] [1] [0] (by rw[hp19.1];rfl) tm (tm (t:=0)) (bQ.okP hz20) u b176 u u) u u (s2 u u) tv ?_
         obtain rfl:=so h
         exact pX
        ·refine wTe 47 (cm (oCallBV (kn:=70000) (rest:=[.abs 11 (aMap ki kV) [(0,bmV 173 b0),(12,bmV 173 b0),(1,bmV 174 b0),(2,bmV 175 b0),(11,bmV 175 b0),(3,bmV 176 b0),(4,bmV 176 b0),(5,bmV 177 b0),(6,bmV 178 b0),(7,bmV 179 b0),(8,bmV 175 b0),(9,bmV 180 b0),(10,bmV 181 b0)]]) (R':=[.abs 11 (aMap ki kV) [(0,bmV 173 b0),(12,bmV 173 b0),(1,bmV 174 b0),(2,bmV 175 b0),(11,bmV 175 b0),(3,bmV 176 b0),(4,bmV 176 b0),(5,bmV 177 b0),(6,bmV 178 b0),(7,bmV 179 b0),(8,bmV 175 b0),(9,bmV 180 b0),(10,bmV 181 b0)],.box 70000 204 (L204 y22)]) (out':=.d (tup [])) [(70000,70000)] [] [1] [0] [1,0] (by rw[hp19.1];rfl) tm (tm (t:=0)) (bQ.okR hz20) u b176 u u u u u u u u) (s2 u u)<|.nil) (by kernel_rfl) ?_
         obtain rfl:=so h
         exact pZ<|pSn [1] u u (.inr u) u u (.nil)
       ·obtain⟨hp23,h⟩|⟨hp23,h⟩:=ik h
        ·obtain⟨z24,hz24,h⟩:=bd h
         rcases z24 with p25|y26
         ·refine wTx (Γp:=[]) 47 u (oCallBX (kn:=70000) (rest:=[.abs 11 (aMap ki kV) [(0,bmV 173 b0),(12,bmV 173 b0),(1,bmV 174 b0),(2,bmV 175 b0),(11,bmV 175 b0),(3,bmV 176 b0),(4,bmV 176 b0),(5,bmV 177 b0),(6,bmV 178 b0),(7,bmV 179 b0),(8,bmV 175 b0),(9,bmV 180 b0),(10,bmV 181 b0)]]) [(70000,70000)] [1] [0] (by rw[hp23.1];rfl) tm (tm (t:=0)) (cO.okP hz24) u b177 u u) u u (s2 u u) tv ?_
          obtain rfl:=so h
          exact pX
         ·refine wTe 47 (cm (oCallBV (kn:=70000) (rest:=[.abs 11 (aMap ki kV) [(0,bmV 173 b0),(12,bmV 173 b0),(1,bmV 174 b0),(2,bmV 175 b0),(11,bmV 175 b0),(3,bmV 176 b0),(4,bmV 176 b0),(5,bmV 177 b0),(6,bmV 178 b0),(7,bmV 179 b0),(8,bmV 175 b0),(9,bmV 180 b0),(10,bmV 181 b0)]]) (R':=[.abs 11 (aMap ki kV) [(0,bmV 173 b0),(12,bmV 173 b0),(1,bmV 174 b0),(2,bmV 175 b0),(11,bmV 175 b0),(3,bmV 176 b0),(4,bmV 176 b0),(5,bmV 177 b0),(6,bmV 178 b0),(7,bmV 179 b0),(8,bmV 175 b0),(9,bmV 180 b0),(10,bmV 181 b0)],.box 70000 204 (L204 y26)]) (out':=.d (tup [])) [(70000,70000)] [] [1] [0] [1,0] (by rw[hp23.1];rfl) tm (tm (t:=0)) (cO.okR hz24) u b177 u u u u u u u u) (s2 u u)<|.nil) (by kernel_rfl) ?_
          obtain rfl:=so h
          exact pZ<|pSn [1] u u (.inr u) u u (.nil)
        ·obtain⟨hp27,h⟩|⟨hp27,h⟩:=ik h
         ·obtain⟨z28,hz28,h⟩:=bd h
          rcases z28 with p29|y30
          ·refine wTx (Γp:=[]) 47 u (oCallBX (kn:=70000) (rest:=[.abs 11 (aMap ki kV) [(0,bmV 173 b0),(12,bmV 173 b0),(1,bmV 174 b0),(2,bmV 175 b0),(11,bmV 175 b0),(3,bmV 176 b0),(4,bmV 176 b0),(5,bmV 177 b0),(6,bmV 178 b0),(7,bmV 179 b0),(8,bmV 175 b0),(9,bmV 180 b0),(10,bmV 181 b0)]]) [(70000,70000)] [1] [0] (by rw[hp27.1];rfl) tm (tm (t:=0)) (cD.okP hz28) u b178 u u) u u (s2 u u) tv ?_
           obtain rfl:=so h
           exact pX
          ·refine wTe 47 (cm (oCallBV (kn:=70000) (rest:=[.abs 11 (aMap ki kV) [(0,bmV 173 b0),(12,bmV 173 b0),(1,bmV 174 b0),(2,bmV 175 b0),(11,bmV 175 b0),(3,bmV 176 b0),(4,bmV 176 b0),(5,bmV 177 b0),(6,bmV 178 b0),(7,bmV 179 b0),(8,bmV 175 b0),(9,bmV 180 b0),(10,bmV 181 b0)]]) (R':=[.abs 11 (aMap ki kV) [(0,bmV 173 b0),(12,bmV 173 b0),(1,bmV 174 b0),(2,bmV 175 b0),(11,bmV 175 b0),(3,bmV 176 b0),(4,bmV 176 b0),(5,bmV 177 b0),(6,bmV 178 b0),(7,bmV 179 b0),(8,bmV 175 b0),(9,bmV 180 b0),(10,bmV 181 b0)],.box 70000 204 (L204 y30)]) (out':=.d (tup [])) [(70000,70000)] [] [1] [0] [1,0] (by rw[hp27.1];rfl) tm (tm (t:=0)) (cD.okR hz28) u b178 u u u u u u u u) (s2 u u)<|.nil) (by kernel_rfl) ?_
           obtain rfl:=so h
           exact pZ<|pSn [1] u u (.inr u) u u (.nil)
         ·obtain⟨hp31,h⟩|⟨hp31,h⟩:=ik h
          ·obtain⟨z32,hz32,h⟩:=bd h
           rcases z32 with p33|y34
           ·refine wTx (Γp:=[]) 47 u (oCallBX (kn:=70000) (rest:=[.abs 11 (aMap ki kV) [(0,bmV 173 b0),(12,bmV 173 b0),(1,bmV 174 b0),(2,bmV 175 b0),(11,bmV 175 b0),(3,bmV 176 b0),(4,bmV 176 b0),(5,bmV 177 b0),(6,bmV 178 b0),(7,bmV 179 b0),(8,bmV 175 b0),(9,bmV 180 b0),(10,bmV 181 b0)]]) [(70000,70000)] [1] [0] (by rw[hp31.1];rfl) tm (tm (t:=0)) (cq.okP hz32) u b179 u u) u u (s2 u u) tv ?_
            obtain rfl:=so h
            exact pX
           ·refine wTe 47 (cm (oCallBV (kn:=70000) (rest:=[.abs 11 (aMap ki kV) [(0,bmV 173 b0),(12,bmV 173 b0),(1,bmV 174 b0),(2,bmV 175 b0),(11,bmV 175 b0),(3,bmV 176 b0),(4,bmV 176 b0),(5,bmV 177 b0),(6,bmV 178 b0),(7,bmV 179 b0),(8,bmV 175 b0),(9,bmV 180 b0),(10,bmV 181 b0)]]) (R':=[.abs 11 (aMap ki kV) [(0,bmV 173 b0),(12,bmV 173 b0),(1,bmV 174 b0),(2,bmV 175 b0),(11,bmV 175 b0),(3,bmV 176 b0),(4,bmV 176 b0),(5,bmV 177 b0),(6,bmV 178 b0),(7,bmV 179 b0),(8,bmV 175 b0),(9,bmV 180 b0),(10,bmV 181 b0)],.box 70000 204 (L204 y34)]) (out':=.d (tup [])) [(70000,70000)] [] [1] [0] [1,0] (by rw[hp31.1];rfl) tm (tm (t:=0)) (cq.okR hz32) u b179 u u u u u u u u) (s2 u u)<|.nil) (by kernel_rfl) ?_
            obtain rfl:=so h
            exact pZ<|pSn [1] u u (.inr u) u u (.nil)
          ·obtain⟨hp35,h⟩|⟨hp35,h⟩:=ik h
           ·obtain⟨z36,hz36,h⟩:=bd h
            rcases z36 with p37|y38
            ·refine wTx (Γp:=[]) 47 u (oCallBX (kn:=70000) (rest:=[.abs 11 (aMap ki kV) [(0,bmV 173 b0),(12,bmV 173 b0),(1,bmV 174 b0),(2,bmV 175 b0),(11,bmV 175 b0),(3,bmV 176 b0),(4,bmV 176 b0),(5,bmV 177 b0),(6,bmV 178 b0),(7,bmV 179 b0),(8,bmV 175 b0),(9,bmV 180 b0),(10,bmV 181 b0)]]) [(70000,70000)] [1] [0] (by rw[hp35.1];rfl) tm (tm (t:=0)) (aW.okP hz36) u b175 u u) u u (s2 u u) tv ?_
             obtain rfl:=so h
             exact pX
            ·refine wTe 47 (cm (oCallBV (kn:=70000) (rest:=[.abs 11 (aMap ki kV) [(0,bmV 173 b0),(12,bmV 173 b0),(1,bmV 174 b0),(2,bmV 175 b0),(11,bmV 175 b0),(3,bmV 176 b0),(4,bmV 176 b0),(5,bmV 177 b0),(6,bmV 178 b0),(7,bmV 179 b0),(8,bmV 175 b0),(9,bmV 180 b0),(10,bmV 181 b0)]]) (R':=[.abs 11 (aMap ki kV) [(0,bmV 173 b0),(12,bmV 173 b0),(1,bmV 174 b0),(2,bmV 175 b0),(11,bmV 175 b0),(3,bmV 176 b0),(4,bmV 176 b0),(5,bmV 177 b0),(6,bmV 178 b0),(7,bmV 179 b0),(8,bmV 175 b0),(9,bmV 180 b0),(10,bmV 181 b0)],.box 70000 204 (L204 y38)]) (out':=.d (tup [])) [(70000,70000)] [] [1] [0] [1,0] (by rw[hp35.1];rfl) tm (tm (t:=0)) (aW.okR hz36) u b175 u u u u u u u u) (s2 u u)<|.nil) (by kernel_rfl) ?_
             obtain rfl:=so h
             exact pZ<|pSn [1] u u (.inr u) u u (.nil)
           ·obtain⟨hp39,h⟩|⟨hp39,h⟩:=ik h
            ·obtain⟨z40,hz40,h⟩:=bd h
             rcases z40 with p41|y42
             ·refine wTx (Γp:=[]) 47 u (oCallBX (kn:=70000) (rest:=[.abs 11 (aMap ki kV) [(0,bmV 173 b0),(12,bmV 173 b0),(1,bmV 174 b0),(2,bmV 175 b0),(11,bmV 175 b0),(3,bmV 176 b0),(4,bmV 176 b0),(5,bmV 177 b0),(6,bmV 178 b0),(7,bmV 179 b0),(8,bmV 175 b0),(9,bmV 180 b0),(10,bmV 181 b0)]]) [(70000,70000)] [1] [0] (by rw[hp39.1];rfl) tm (tm (t:=0)) (bg.okP hz40) u b180 u u) u u (s2 u u) tv ?_
              obtain rfl:=so h
              exact pX
             ·refine wTe 47 (cm (oCallBV (kn:=70000) (rest:=[.abs 11 (aMap ki kV) [(0,bmV 173 b0),(12,bmV 173 b0),(1,bmV 174 b0),(2,bmV 175 b0),(11,bmV 175 b0),(3,bmV 176 b0),(4,bmV 176 b0),(5,bmV 177 b0),(6,bmV 178 b0),(7,bmV 179 b0),(8,bmV 175 b0),(9,bmV 180 b0),(10,bmV 181 b0)]]) (R':=[.abs 11 (aMap ki kV) [(0,bmV 173 b0),(12,bmV 173 b0),(1,bmV 174 b0),(2,bmV 175 b0),(11,bmV 175 b0),(3,bmV 176 b0),(4,bmV 176 b0),(5,bmV 177 b0),(6,bmV 178 b0),(7,bmV 179 b0),(8,bmV 175 b0),(9,bmV 180 b0),(10,bmV 181 b0)],.box 70000 204 (L204 y42)]) (out':=.d (tup [])) [(70000,70000)] [] [1] [0] [1,0] (by rw[hp39.1];rfl) tm (tm (t:=0)) (bg.okR hz40) u b180 u u u u u u u u) (s2 u u)<|.nil) (by kernel_rfl) ?_
              obtain rfl:=so h
              exact pZ<|pSn [1] u u (.inr u) u u (.nil)
            ·obtain⟨hp43,h⟩|⟨hp43,h⟩:=ik h
             ·obtain⟨z44,hz44,h⟩:=bd h
              rcases z44 with p45|y46
              ·refine wTx (Γp:=[]) 47 u (oCallBX (kn:=70000) (rest:=[.abs 11 (aMap ki kV) [(0,bmV 173 b0),(12,bmV 173 b0),(1,bmV 174 b0),(2,bmV 175 b0),(11,bmV 175 b0),(3,bmV 176 b0),(4,bmV 176 b0),(5,bmV 177 b0),(6,bmV 178 b0),(7,bmV 179 b0),(8,bmV 175 b0),(9,bmV 180 b0),(10,bmV 181 b0)]]) [(70000,70000)] [1] [0] (by rw[hp43.1];rfl) tm (tm (t:=0)) (aG.okP hz44) u b181 u u) u u (s2 u u) tv ?_
               obtain rfl:=so h
               exact pX
              ·refine wTe 47 (cm (oCallBV (kn:=70000) (rest:=[.abs 11 (aMap ki kV) [(0,bmV 173 b0),(12,bmV 173 b0),(1,bmV 174 b0),(2,bmV 175 b0),(11,bmV 175 b0),(3,bmV 176 b0),(4,bmV 176 b0),(5,bmV 177 b0),(6,bmV 178 b0),(7,bmV 179 b0),(8,bmV 175 b0),(9,bmV 180 b0),(10,bmV 181 b0)]]) (R':=[.abs 11 (aMap ki kV) [(0,bmV 173 b0),(12,bmV 173 b0),(1,bmV 174 b0),(2,bmV 175 b0),(11,bmV 175 b0),(3,bmV 176 b0),(4,bmV 176 b0),(5,bmV 177 b0),(6,bmV 178 b0),(7,bmV 179 b0),(8,bmV 175 b0),(9,bmV 180 b0),(10,bmV 181 b0)],.box 70000 204 (L204 y46)]) (out':=.d (tup [])) [(70000,70000)] [] [1] [0] [1,0] (by rw[hp43.1];rfl) tm (tm (t:=0)) (aG.okR hz44) u b181 u u u u u u u u) (s2 u u)<|.nil) (by kernel_rfl) ?_
               obtain rfl:=so h
               exact pZ<|pSn [1] u u (.inr u) u u (.nil)
             ·cases h
theorem bG.okR{a0:ah} {r:ah}(h:bG.f a0=some (.inr r)):FnS PP 157 [.p 70000 0] [.box 70000 204 (L204 a0)] [70000] (.d (tup [])) [.box 70000 204 (L204 r)]:=bG.ok h
theorem bG.okP{a0:ah} {n:Pn}(h:bG.f a0=some (.inl n)):FnX PP 157 [.p 70000 0] [.box 70000 204 (L204 a0)] (pvv 199 n):=bG.ok h
theorem fA.ok{a0:Int} {a1:ab} {r:Bool}(h:fA.f a0 a1=some r):FnA PP 194 [ki.sig a0,sP (kR aj) a1] (kB.sig r):=by
 refine fnIntro Tryz.func194 u (by kernel_rfl) fun H0 w0=>?_
 unfold fA.f at h
 refine wSeq<|rx (c1<|.nil)<|pSeq ?_
 obtain⟨o1,h,hk1⟩:=bd h
 refine wJ1 (fun x2=>x2=o1) (fun x2=>[(3,.d (kB.sig x2))]) (fun x2=>[]) ?_ ?_
 ·obtain⟨hp3,h⟩|⟨hp3,h⟩:=ik h
  ·exact rx (c8<|c2<|.nil)<|pJ1 _ (so h) (sb u) u
  ·exact rx (c8<|c2<|.nil)<|pJ1 _ (so h) (sb u) u
 ·rintro x2 rfl
  replace h:=hk1
  refine wRet ?_
  obtain rfl:=so h
  exact pR1 (.inl u) u (.tmp u<|.nil)
theorem fo.ok{a0:ab} {a1:List Int} {a2:List Int} {a3:Bool} {r:Int}(h:fo.f a0 a1 a2 a3=some r):FnA PP 182 [(kR aj).sig a0,(kL ki).sig a1,(kL ki).sig a2,kB.sig a3] (ki.sig r):=by
 refine fnIntro Tryz.func182 u (by kernel_rfl) fun H0 w0=>?_
 unfold fo.f at h
 refine wSeq<|rx (c2<|.nil)<|pSeq<|wSeq<|wSeq ?_
 obtain⟨y1,hy1,h⟩:=bd h
 refine rx (c1<|cC (bK.ok hy1)<|c1<|.nil)<|pSeq<|wSeq<|rx (c2<|.nil)<|pSeq ?_
 obtain⟨hp2,h⟩|⟨hp2,h⟩:=ik h
 ·refine wNT hp2.1 tm (s1 u)<|wSkip<|pSeq<|wSeq<|rx (cp (oMkF (Rl:=rl1 ki kB (fun z0=>fA.f z0 a0)) u b194 (rl1e fA.ok) (oc tm o0)) (s1 u)<|c1<|.nil)<|pSeq<|wSeq<|wBlock<|wSeq ?_
  obtain⟨y3,hy3,h⟩:=bd h
  refine rx (c2<|cC (dI.ok hy3)<|c2<|.nil)<|pSeq ?_
  obtain⟨hp4,h⟩|⟨hp4,h⟩:=ik h
  ·refine wBT hp4.1 tm (s1 u)<|wSeq<|rx (c1<|.nil)<|pSeq<|wRet<|pBlkR<|pThenR ?_
   obtain rfl:=so h
   exact pR1 (.inl u) u (.tmp u<|.nil)
  ·refine wBF hp4.1 tm (s1 u) ?_
   obtain⟨o1,h,hk1⟩:=bd h
   refine wJ1 (fun x7=>x7=o1) (fun x7=>[(22,.d (kB.sig x7))]) (fun x7=>[]) ?_ ?_
   ·obtain⟨hp8,h⟩|⟨hp8,h⟩:=ik h
    ·obtain⟨y9,hy9,h⟩:=bd h
     exact rx (c6<|cgB (nf hp8.1) u u (oCall u (bH.ok hy9) b65 (oc tm (oc tm o0))) (s2 u u)<|c2<|.nil)<|pJ1 _ (so h) (sb u) u
    ·exact rx (c8<|c1<|.nil)<|pJ1 _ (so h) (sb u) u
   ·rintro x7 rfl
    replace h:=hk1
    obtain⟨hp10,h⟩|⟨hp10,h⟩:=ik h
    ·refine wBT hp10.1 tm (s1 u)<|wSeq<|rx (c1<|.nil)<|pSeq<|wRet<|pBlkR<|pThenR ?_
     obtain rfl:=so h
     exact pR1 (.inl u) u (.tmp u<|.nil)
    ·refine wBF hp10.1 tm (s1 u)<|wSkip<|pBlkN<|pSeq<|wSeq<|rx (c1<|.nil)<|pSeq<|wRet ?_
     obtain rfl:=so h
     exact pR1 (.inl u) u (.tmp u<|.nil)
 ·refine wNF hp2.1 tm (s1 u)<|wSeq<|rx (c2<|.nil)<|pSeq<|wRet<|pThenR ?_
  obtain rfl:=so h
  exact pR1 (.inl u) u (.tmp u<|.nil)
theorem bI.ok{a0:bb} {a1:If221} {r:bb}(h:bI.f a0 a1=some r):FnS PP 195 [.p 70000 0,.d ((kF vIf221).sig a1)] [.box 70000 225 [.d (kL kS) a0.l_.Names,.d (kL (kI .u32)) a0.l_.Up,.d (kL ki) a0.labels_,.v 70004],.row 70004 221 (kF vIf221) a0.pile_] [70000] (.d (tup [])) [.box 70000 225 [.d (kL kS) r.l_.Names,.d (kL (kI .u32)) r.l_.Up,.d (kL ki) r.labels_,.v 70004],.row 70004 221 (kF vIf221) r.pile_]:=by
 refine fnIntroS Tryz.func195 u (by kernel_rfl) fun X H0 w0 pv=>?_
 unfold bI.f at h
 obtain⟨hc1,h⟩:=ib h
 refine rx (c4<|cr (oLdN (n:=0) (k:=3) u u u t223 tm) (s1 u)<|c1<|cp (oLit (d:=(kF vIf221)) el223 (by decide) u u u (e1 tm e0)) (s1 u)<|cw (oApp (n:=1) (id':=11) el223 (by decide) u (by decide) hc1 tm tm) (s2 u u)<|c2<|cwn (oStN (n:=0) (m:=1) (k:=3) u u u u z223 u tm tm) (s2 u u)<|.nil) ?_
 obtain rfl:=so h
 exact pSub (Γ':=[]) tv<|pRen 11 70004 u<|pSn [0,1] u u (.inr u) u u (.nil)
theorem fu.ok{a0:Int} {r:Int}(h:fu.f a0=some r):FnA PP 29 [(kI .u32).sig a0] (ki.sig r):=by
 refine fnIntro Tryz.func29 u (by kernel_rfl) fun H0 w0=>?_
 unfold fu.f at h
 refine wSeq<|rx (c1<|.nil)<|pSeq<|wSeq ?_
 obtain⟨hc1,h⟩:=ib h
 obtain⟨hc2,h⟩:=ib h
 obtain⟨hc3,h⟩:=ib h
 obtain⟨hc4,h⟩:=ib h
 refine rdx hm (c1<|cp (oShr (by decide) tm (cI (by decide))) (s1 u)<|cp (oIdxS u9 hc1.1 hc1.2 (cS (s:=ks0) (by decide)) tm) (s1 u)<|c1<|cp (oShr (by decide) tm (cI (by decide))) (s1 u)<|cp (oAnd tm (cI (by decide))) (s1 u)<|cp (oIdxS u9 hc2.1 hc2.2 (cS (s:=ks0) (by decide)) tm) (s1 u)<|c2<|cp (oShr (by decide) tm (cI (by decide))) (s1 u)<|cp (oAnd tm (cI (by decide))) (s1 u)<|cp (oIdxS u9 hc3.1 hc3.2 (cS (s:=ks0) (by decide)) tm) (s1 u)<|c2<|cp (oAnd tm (cI (by decide))) (s1 u)<|cp (oIdxS u9 hc4.1 hc4.2 (cS (s:=ks0) (by decide)) tm) (s1 u)<|c1<|cp (oConv u5 u3 tm) (s1 u)<|c1<|.nil)<|pSeq<|wRet ?_
 obtain rfl:=so h
 exact pR1 (.inl u) u (.tmp u<|.nil)
theorem eu.ok{a0:Int} {r:Bool}(h:eu.f a0=some r):FnA PP 28 [(kI .u32).sig a0] (kB.sig r):=by
 refine fnIntro Tryz.func28 u (by kernel_rfl) fun H0 w0=>?_
 unfold eu.f at h
 refine wSeq<|rx (c1<|.nil)<|pSeq<|wSeq ?_
 obtain⟨y1,hy1,h⟩:=bd h
 refine rx (c1<|cC (fu.ok hy1)<|c2<|.nil)<|pSeq<|wRet ?_
 obtain rfl:=so h
 exact pR1 (.inl u) u (.tmp u<|.nil)
theorem eL.ok{a0:ab} {r:Int×Int}(h:eL.f a0=some r):FnA PP 13 [(kR aj).sig a0] (tup [ki.sig r.1,ki.sig r.2]):=by
 refine fnIntro Tryz.func13 u (by kernel_rfl) fun H0 w0=>?_
 unfold eL.f at h
 refine wSeq<|rx (c3<|.nil)<|pSeq<|wSeq<|wSeq ?_
 obtain⟨y1,hy1,h⟩:=bd h
 refine rx (c1<|cp (oCall u (df.ok hy1) b26 (oc tm (oc (cN (d:=ki)) o0))) (s1 u)<|c1<|.nil)<|pSeq<|wSeq<|rx (c2<|.nil)<|pSeq ?_
 obtain⟨hp2,h⟩|⟨hp2,h⟩:=ik h
 ·refine wNT hp2.1 tm (s1 u)<|wSkip<|pSeq<|wSeq ?_
  obtain⟨y3,hy3,h⟩:=bd h
  refine rx (c2<|cp (oCall u (az.ok hy3) b27 (oc tm (oc (oFn b28 (rl1n eu.ok)) o0))) (s1 u)<|c2<|.nil)<|pSeq<|wRet ?_
  obtain rfl:=so h
  exact pRn (.inl u) u u (.tmp u<|.tmp u<|.nil)
 ·refine wNF hp2.1 tm (s1 u)<|wSeq<|rx (c3<|.nil)<|pSeq<|wRet<|pThenR ?_
  obtain rfl:=so h
  exact pRn (.inl u) u u (.tmp u<|.tmp u<|.nil)
theorem eU.ok{a0:bb} {r:bb×If221×If221}(h:eU.f a0=some r):FnS PP 196 [.p 70000 0] [.box 70000 225 [.d (kL kS) a0.l_.Names,.d (kL (kI .u32)) a0.l_.Up,.d (kL ki) a0.labels_,.v 70004],.row 70004 221 (kF vIf221) a0.pile_] [70000] (.d (tup [(kF vIf221).sig r.2.1,(kF vIf221).sig r.2.2])) [.box 70000 225 [.d (kL kS) r.1.l_.Names,.d (kL (kI .u32)) r.1.l_.Up,.d (kL ki) r.1.labels_,.v 70004],.row 70004 221 (kF vIf221) r.1.pile_]:=by
 refine fnIntroS Tryz.func196 u (by kernel_rfl) fun X H0 w0 pv=>?_
 unfold eU.f at h
 refine wSeq<|rx (cp (oAs (cNil (view:=vIf221) (x:=.nil) u)) tv<|cp (oAs (cNil (view:=vIf221) (x:=.nil) u)) tv<|.nil)<|pSeq<|wSeq<|rx (c3<|cr (oLdN (n:=0) (k:=3) u u u t223 tm) (s1 u)<|cr (oLenR (n:=1) u223 u tm) (s1 u)<|c2<|.nil)<|pSeq<|wSeq ?_
 obtain⟨y1,hy1,h⟩:=bd h
 obtain⟨y2,hy2,h⟩:=bd h
 refine rdx hm (c3<|cr (oLdN (n:=0) (k:=3) u u u t223 tm) (s1 u)<|c1<|cr (oIdxR (n:=1) u223 z221 u hy1 tm tm) (s2 u u)<|cr (oLdE (n:=1) u hy1 u t221 tm) (s1 u)<|c3<|cr (oLdN (n:=0) (k:=3) u u u t223 tm) (s1 u)<|c2<|cr (oIdxR (n:=1) u223 z221 u hy2 tm tm) (s2 u u)<|cr (oLdE (n:=1) u hy2 u t221 tm) (s1 u)<|c2<|.nil)<|pSeq<|wSeq ?_
 obtain⟨hc3,h⟩:=ib h
 refine rx (c4<|cr (oLdN (n:=0) (k:=3) u u u t223 tm) (s1 u)<|c1<|cw (oCutR (n:=1) (id':=34) u223 z221 u hc3.1 hc3.2 tm tm) (s2 u u)<|c2<|cwn (oStN (n:=0) (m:=1) (k:=3) u u u u z223 u tm tm) (s2 u u)<|.nil)<|pSeq<|wSeq<|rx (c4<|.nil)<|pSeq<|wRet ?_
 obtain rfl:=so h
 exact pSub (Γ':=[(2,.d ((kF vIf221).sig y1)),(3,.d ((kF vIf221).sig y2))]) (sb u)<|pRen 34 70004 u<|pSn [0,1] u u (.inl u) u u (.tmp u<|.tmp u<|.nil)
theorem dq.ok{a0:ab} {a1:Int} {a2:Int} {r:Bool×Int}(h:dq.f a0 a1 a2=some r):FnA PP 96 [(kR aj).sig a0,ki.sig a1,ki.sig a2] (tup [kB.sig r.1,ki.sig r.2]):=by
 refine fnIntro Tryz.func96 u (by kernel_rfl) fun H0 w0=>?_
 unfold dq.f at h
 refine wSeq<|rx (c3<|.nil)<|pSeq<|wSeq<|wSeq ?_
 obtain⟨y1,hy1,h⟩:=bd h
 refine rx (c3<|cp (oLit (d:=ki) el56 (by decide) u u u (e1 tm (e1 tm e0))) (s2 u u)<|cC (df.ok hy1)<|c1<|.nil)<|pSeq<|wSeq<|rx (c2<|.nil)<|pSeq ?_
 obtain⟨hp2,h⟩|⟨hp2,h⟩:=ik h
 ·refine wNT hp2.1 tm (s1 u)<|wSkip<|pSeq<|wSeq ?_
  obtain⟨y3,hy3,h⟩:=bd h
  refine rx (c3<|cC (dg.ok hy3)<|c2<|.nil)<|pSeq<|wRet ?_
  obtain rfl:=so h
  exact pRn (.inl u) u u (.tmp u<|.tmp u<|.nil)
 ·refine wNF hp2.1 tm (s1 u)<|wSeq<|rx (c3<|.nil)<|pSeq<|wRet<|pThenR ?_
  obtain rfl:=so h
  exact pRn (.inl u) u u (.tmp u<|.tmp u<|.nil)
theorem ez.ok{a0:ab} {a1:Int} {a2:Int} {r:Int×Int}(h:ez.f a0 a1 a2=some r):FnA PP 202 [(kR aj).sig a0,ki.sig a1,ki.sig a2] (tup [ki.sig r.1,ki.sig r.2]):=by
 refine fnIntro Tryz.func202 u (by kernel_rfl) fun H0 w0=>?_
 unfold ez.f at h
 refine wSeq<|rx (c3<|.nil)<|pSeq<|wSeq<|wSeq ?_
 obtain⟨y1,hy1,h⟩:=bd h
 refine rx (c3<|cp (oLit (d:=ki) el56 (by decide) u u u (e1 tm (e1 tm e0))) (s2 u u)<|cC (df.ok hy1)<|c1<|.nil)<|pSeq<|wSeq<|rx (c2<|.nil)<|pSeq ?_
 obtain⟨hp2,h⟩|⟨hp2,h⟩:=ik h
 ·refine wNT hp2.1 tm (s1 u)<|wSkip<|pSeq<|wSeq ?_
  obtain⟨y3,hy3,h⟩:=bd h
  refine rx (c3<|cC (ed.ok hy3)<|c2<|.nil)<|pSeq<|wRet ?_
  obtain rfl:=so h
  exact pRn (.inl u) u u (.tmp u<|.tmp u<|.nil)
 ·refine wNF hp2.1 tm (s1 u)<|wSeq<|rx (c3<|.nil)<|pSeq<|wRet<|pThenR ?_
  obtain rfl:=so h
  exact pRn (.inl u) u u (.tmp u<|.tmp u<|.nil)
theorem eA.ok{a0:ab} {a1:Int} {a2:Int} {r:Int×Int}(h:eA.f a0 a1 a2=some r):FnA PP 203 [(kR aj).sig a0,ki.sig a1,ki.sig a2] (tup [ki.sig r.1,ki.sig r.2]):=by
 refine fnIntro Tryz.func203 u (by kernel_rfl) fun H0 w0=>?_
 unfold eA.f at h
 refine wSeq<|rx (c3<|.nil)<|pSeq<|wSeq<|wSeq ?_
 obtain⟨y1,hy1,h⟩:=bd h
 refine rx (c3<|cp (oLit (d:=ki) el56 (by decide) u u u (e1 tm (e1 tm e0))) (s2 u u)<|cC (df.ok hy1)<|c1<|.nil)<|pSeq<|wSeq<|rx (c2<|.nil)<|pSeq ?_
 obtain⟨hp2,h⟩|⟨hp2,h⟩:=ik h
 ·refine wNT hp2.1 tm (s1 u)<|wSkip<|pSeq<|wSeq ?_
  obtain⟨y3,hy3,h⟩:=bd h
  refine rx (c3<|cC (b4.ok hy3)<|c2<|.nil)<|pSeq<|wRet ?_
  obtain rfl:=so h
  exact pRn (.inl u) u u (.tmp u<|.tmp u<|.nil)
 ·refine wNF hp2.1 tm (s1 u)<|wSeq<|rx (c3<|.nil)<|pSeq<|wRet<|pThenR ?_
  obtain rfl:=so h
  exact pRn (.inl u) u u (.tmp u<|.tmp u<|.nil)
theorem dE.ok{a0:bb} {a1:Int} {a2:If221} {a3:If221} {r:bb×If221}(h:dE.f a0 a1 a2 a3=some r):FnS PP 197 [.p 70000 0,.d (ki.sig a1),.d ((kF vIf221).sig a2),.d ((kF vIf221).sig a3)] [.box 70000 225 [.d (kL kS) a0.l_.Names,.d (kL (kI .u32)) a0.l_.Up,.d (kL ki) a0.labels_,.v 70004],.row 70004 221 (kF vIf221) a0.pile_] [70000] (.d ((kF vIf221).sig r.2)) [.box 70000 225 [.d (kL kS) r.1.l_.Names,.d (kL (kI .u32)) r.1.l_.Up,.d (kL ki) r.1.labels_,.v 70004],.row 70004 221 (kF vIf221) r.1.pile_]:=by
 refine fnIntroS Tryz.func197 u (by kernel_rfl) fun X H0 w0 pv=>?_
 unfold dE.f at h
 refine wSeq<|rx (cp (oAs (cNil (view:=vIf221) (x:=.nil) u)) tv<|.nil)<|pSeq<|wSeq<|wSeq<|rx (c1<|.nil)<|pSeq<|wBlock<|wSeq<|rx (cp (oTA iF cb218 zv218 zvB tm) (s1 u)<|c2<|.nil)<|pSeq ?_
 obtain⟨hp1,h⟩|⟨hp1,h⟩:=ik h
 ·refine wBT hp1.1 tm (s1 u)<|wSeq<|rx (c1<|.nil)<|pSeq<|wSeq<|rx (c1<|cp (oTA iF cb218 zv218 zvB tm) (s1 u)<|c4<|c1<|.nil)<|pSeq<|wSeq<|wSeq<|rx (c2<|.nil)<|pSeq ?_
  obtain⟨hp2,h⟩|⟨hp2,h⟩:=ik h
  ·refine wCT hp2.1 tm (s1 u)<|wWeak (Γ':=[(8,.d ((kF vIf221).sig If221.nil)),(9,.d (kB.sig ((eV a2).1))),(10,.d (kB.sig ((eV a3).1)))]) (sb u)<|wRen 70004 3505003 u ?_
   obtain⟨o1,h,hk1⟩:=bd h
   refine wJ1 (fun x4=>x4=o1) (fun x4=>[(8,.d ((kF vIf221).sig x4))]) (fun x4=>[.box 70000 225 [.d (kL kS) a0.l_.Names,.d (kL (kI .u32)) a0.l_.Up,.d (kL ki) a0.labels_,.v 3505003],.row 3505003 221 (kF vIf221) a0.pile_]) ?_ ?_
   ·obtain⟨hp5,h⟩|⟨hp5,h⟩:=ik h
    ·exact rx (c4<|cp (oMkI (view:=vIf221) (x0:=If221.c218 ((eV a3).1)) u cb218 tm) (s1 u)<|c1<|.nil)<|pJ1 _ (so h) (sb u) u
    ·exact rx (c4<|cp (oMkI (view:=vIf221) (x0:=If221.c218 false) u cb218 tm) (s1 u)<|c1<|.nil)<|pJ1 _ (so h) (sb u) u
   ·rintro x4 rfl
    replace h:=hk1
    refine wRet<|pThenR<|pBlkR<|pThenR ?_
    obtain rfl:=so h
    exact pSub (Γ':=[(8,.d ((kF vIf221).sig x4))]) (sb u)<|pRen 3505003 70004 u<|pS1 [0,1] u u (.inl u) u (.tmp u<|.nil)
  ·refine wCF hp2.1 tm (s1 u)<|wSkip<|pSeq<|wWeak (Γ':=[(8,.d ((kF vIf221).sig If221.nil)),(9,.d (kB.sig ((eV a2).1))),(10,.d (kB.sig ((eV a3).1)))]) (sb u)<|wRen 70004 3505003 u ?_
   obtain⟨o1,h,hk1⟩:=bd h
   refine wJ1 (fun x7=>x7=o1) (fun x7=>[(8,.d ((kF vIf221).sig x7))]) (fun x7=>[.box 70000 225 [.d (kL kS) a0.l_.Names,.d (kL (kI .u32)) a0.l_.Up,.d (kL ki) a0.labels_,.v 3505003],.row 3505003 221 (kF vIf221) a0.pile_]) ?_ ?_
   ·obtain⟨hp8,h⟩|⟨hp8,h⟩:=ik h
    ·exact rx (c4<|cp (oMkI (view:=vIf221) (x0:=If221.c218 true) u cb218 tm) (s1 u)<|c1<|.nil)<|pJ1 _ (so h) (sb u) u
    ·exact rx (c4<|cp (oMkI (view:=vIf221) (x0:=If221.c218 ((eV a3).1)) u cb218 tm) (s1 u)<|c1<|.nil)<|pJ1 _ (so h) (sb u) u
   ·rintro x7 rfl
    replace h:=hk1
    refine wRet<|pBlkR<|pThenR ?_
    obtain rfl:=so h
    exact pSub (Γ':=[(8,.d ((kF vIf221).sig x7))]) (sb u)<|pRen 3505003 70004 u<|pS1 [0,1] u u (.inl u) u (.tmp u<|.nil)
 ·refine wBF hp1.1 tm (s1 u)<|wSeq<|rx (cp (oTA iG cb227 zv227 (zvI (by decide)) tm) (s1 u)<|c2<|.nil)<|pSeq ?_
  obtain⟨hp9,h⟩|⟨hp9,h⟩:=ik h
  ·refine wBT hp9.1 tm (s1 u)<|wSeq<|rx (c1<|.nil)<|pSeq<|wSeq<|rx (c1<|cp (oTA iG cb227 zv227 (zvI (by decide)) tm) (s1 u)<|c4<|c1<|.nil)<|pSeq<|wSeq<|wSeq<|rx (c1<|.nil)<|pSeq<|wBlock<|wSeq<|rx (c2<|.nil)<|pSeq ?_
   obtain⟨hp10,h⟩|⟨hp10,h⟩:=ik h
   ·refine wCT hp10.1 tm (s1 u)<|wSeq ?_
    obtain⟨y11,hy11,h⟩:=bd h
    refine rx (c3<|cr (oLdP (n:=0) (k:=0) (m:=2) (d:=(kR aj)) (u:=a0.l_) pt25 u u u t25 tm) (s1 u)<|c2<|cC (dq.ok hy11)<|c4<|c1<|.nil)<|pSeq<|wSeq<|rx (c1<|cp (oMkI (view:=vIf221) (x0:=If221.c218 y11.1) u cb218 tm) (s1 u)<|c1<|.nil)<|pSeq<|wRet<|pBlkR<|pThenR<|pBlkR<|pThenR ?_
    obtain rfl:=so h
    exact pS1 [0,1] u u (.inl u) u (.tmp u<|.nil)
   ·refine wCF hp10.1 tm (s1 u)<|wSeq<|rx (c2<|.nil)<|pSeq ?_
    obtain⟨hp12,h⟩|⟨hp12,h⟩:=ik h
    ·refine wCT hp12.1 tm (s1 u)<|wSeq ?_
     obtain⟨y13,hy13,h⟩:=bd h
     refine rx (c3<|cr (oLdP (n:=0) (k:=0) (m:=2) (d:=(kR aj)) (u:=a0.l_) pt25 u u u t25 tm) (s1 u)<|c2<|cC (ez.ok hy13)<|c4<|c1<|.nil)<|pSeq<|wSeq<|rx (c1<|cp (oMkI (view:=vIf221) (x0:=If221.c227 y13.1) u cb227 tm) (s1 u)<|c1<|.nil)<|pSeq<|wRet<|pBlkR<|pThenR<|pBlkR<|pThenR ?_
     obtain rfl:=so h
     exact pS1 [0,1] u u (.inl u) u (.tmp u<|.nil)
    ·refine wCF hp12.1 tm (s1 u)<|wSkip<|pBlkN<|pSeq<|wSeq ?_
     obtain⟨y14,hy14,h⟩:=bd h
     refine rx (c3<|cr (oLdP (n:=0) (k:=0) (m:=2) (d:=(kR aj)) (u:=a0.l_) pt25 u u u t25 tm) (s1 u)<|c2<|cC (eA.ok hy14)<|c4<|c1<|.nil)<|pSeq<|wSeq<|rx (c1<|cp (oMkI (view:=vIf221) (x0:=If221.c227 y14.1) u cb227 tm) (s1 u)<|c1<|.nil)<|pSeq<|wRet<|pBlkR<|pThenR ?_
     obtain rfl:=so h
     exact pS1 [0,1] u u (.inl u) u (.tmp u<|.nil)
  ·refine wBF hp9.1 tm (s1 u)<|wSkip<|pBlkN<|pSeq<|wSeq<|rx (c2<|.nil)<|pSeq<|wRet ?_
   obtain rfl:=so h
   exact pS1 [0,1] u u (.inl u) u (.tmp u<|.nil)
theorem bf.ok{a0:bb} {a1:List Int} {r:bb×If221}(h:bf.f a0 a1=some r):FnS PP 183 [.p 70000 0,.d ((kL ki).sig a1)] [.box 70000 225 [.d (kL kS) a0.l_.Names,.d (kL (kI .u32)) a0.l_.Up,.d (kL ki) a0.labels_,.v 70004],.row 70004 221 (kF vIf221) a0.pile_] [70000] (.d ((kF vIf221).sig r.2)) [.box 70000 225 [.d (kL kS) r.1.l_.Names,.d (kL (kI .u32)) r.1.l_.Up,.d (kL ki) r.1.labels_,.v 70004],.row 70004 221 (kF vIf221) r.1.pile_]:=by
 refine fnIntroS Tryz.func183 u (by kernel_rfl) fun X H0 w0 pv=>?_
 unfold bf.f at h
 refine wSeq<|rx (cp (oAs (cNil (view:=vIf221) (x:=.nil) u)) tv<|.nil)<|pSeq<|wSeq<|wSeq<|rx (c3<|.nil)<|pSeq<|wWeak (Γ':=[(0,.p 70000 0),(13,.d ((kL ki).sig a1)),(14,.d (ki.sig (a1.length:Int))),(15,.d (ki.sig 0))]) (sb u)<|wRen 70004 3505003 u ?_
 obtain⟨o1,h,hk1⟩:=bd h
 refine wK4 (fun x236 x237 x238 x239=>(x236,x237,x238,x239)=o1) (fun x236 x237 x238 x239=>[(0,.p 70000 0)]) (fun x236 x237 x238 x239=>[.box 70000 225 [.d (kL kS) x236,.d (kL (kI .u32)) x237,.d (kL ki) x238,.v 3505003],.row 3505003 221 (kF vIf221) x239]) ?_ ?_
 ·refine wBlock (wLoop ?_)
  refine lW (pc5 o1 (fun v231 v232 v233 v234 v235=>[(0,.p 70000 0),(13,.d ((kL ki).sig a1)),(14,.d (ki.sig (a1.length:Int))),(15,.d (ki.sig v235))]) (fun v231 v232 v233 v234 v235=>[.box 70000 225 [.d (kL kS) v231,.d (kL (kI .u32)) v232,.d (kL ki) v233,.v 3505003],.row 3505003 221 (kF vIf221) v234]) (bf.l0.partial_correctness a1) ?_ _ _ _ _ _ h) ⟨u,u,u,u,tv⟩ u
  clear h
  intro f' ih v231 v232 v233 v234 v235 h
  refine wSeq<|rx (c1<|.nil)<|pSeq<|wSeq ?_
  obtain⟨hp240,h⟩|⟨hp240,h⟩:=ik h
  ·refine wCT hp240.1 tm (s1 u)<|wSkip<|pSeq ?_
   obtain⟨o2,h,hk2⟩:=bd h
   refine wJ4 (fun x296 x297 x298 x299=>(x296,x297,x298,x299)=o2) (fun x296 x297 x298 x299=>[(0,.p 70000 0),(13,.d ((kL ki).sig a1)),(14,.d (ki.sig (a1.length:Int))),(15,.d (ki.sig v235))]) (fun x296 x297 x298 x299=>[.box 70000 225 [.d (kL kS) x296,.d (kL (kI .u32)) x297,.d (kL ki) x298,.v 3505003],.row 3505003 221 (kF vIf221) x299]) ?_ ?_
   ·refine wBlock<|wSeq ?_
    obtain⟨y300,hy300,h⟩:=bd h
    refine rx (cp (oIdx u56 z3 hy300 tm tm) (s2 u u)<|c2<|.nil)<|pSeq<|wSeq<|rx (c1<|.nil)<|pSeq ?_
    obtain⟨o3,h,hk3⟩:=bd h
    refine wK4 (fun x326 x327 x328 x329=>(x326,x327,x328,x329)=o3) (fun x326 x327 x328 x329=>[(0,.p 70000 0),(13,.d ((kL ki).sig a1)),(14,.d (ki.sig (a1.length:Int))),(15,.d (ki.sig v235))]) (fun x326 x327 x328 x329=>[.box 70000 225 [.d (kL kS) x326,.d (kL (kI .u32)) x327,.d (kL ki) x328,.v 3505003],.row 3505003 221 (kF vIf221) x329]) ?_ ?_
    ·refine wBlock<|wSeq<|wSeq<|rx (c2<|.nil)<|pSeq ?_
     obtain⟨hp330,h⟩|⟨hp330,h⟩:=ik h
     ·refine wCT hp330.1 tm (s1 u)<|wSkip<|pSeq<|wCT hp330.1 tm (s1 u) ?_
      obtain⟨y331,hy331,h⟩:=bd h
      exact rx (c3<|cp (oMkI (view:=vIf221) (x0:=If221.c218 (decide (y300=1))) u cb218 tm) (s1 u)<|cm (oCallS (rest:=[]) (R':=[.box 70000 225 [.d (kL kS) y331.l_.Names,.d (kL (kI .u32)) y331.l_.Up,.d (kL ki) y331.labels_,.v 390160],.row 390160 221 (kF vIf221) y331.pile_]) (out':=.d (tup [])) [(70000,70000),(70004,3505003)] [(70004,390160)] [0,1] [] [0,1] u (bI.ok hy331) b195 (oE1 tm (oE1 tm oE0)) u u u u u u u u) (s2 u u)<|.nil)<|pBlkN<|pSub (Γ':=[(0,.p 70000 0),(13,.d ((kL ki).sig a1)),(14,.d (ki.sig (a1.length:Int))),(15,.d (ki.sig v235))]) (sb u)<|pRen 390160 3505003 u<|pJ4 _ _ _ _ (so h) (sb u) u
     ·refine wCF hp330.1 tm (s1 u)<|rx (c2<|.nil)<|pSeq ?_
      obtain⟨hp332,h⟩|⟨hp332,h⟩:=ik h
      ·refine wCT hp332.1 tm (s1 u) ?_
       obtain⟨y333,hy333,h⟩:=bd h
       exact rx (c3<|cp (oMkI (view:=vIf221) (x0:=If221.c218 (decide (y300=1))) u cb218 tm) (s1 u)<|cm (oCallS (rest:=[]) (R':=[.box 70000 225 [.d (kL kS) y333.l_.Names,.d (kL (kI .u32)) y333.l_.Up,.d (kL ki) y333.labels_,.v 390160],.row 390160 221 (kF vIf221) y333.pile_]) (out':=.d (tup [])) [(70000,70000),(70004,3505003)] [(70004,390160)] [0,1] [] [0,1] u (bI.ok hy333) b195 (oE1 tm (oE1 tm oE0)) u u u u u u u u) (s2 u u)<|.nil)<|pBlkN<|pSub (Γ':=[(0,.p 70000 0),(13,.d ((kL ki).sig a1)),(14,.d (ki.sig (a1.length:Int))),(15,.d (ki.sig v235))]) (sb u)<|pRen 390160 3505003 u<|pJ4 _ _ _ _ (so h) (sb u) u
      ·refine wCF hp332.1 tm (s1 u)<|wSeq<|rx (c2<|.nil)<|pSeq ?_
       obtain⟨hp334,h⟩|⟨hp334,h⟩:=ik h
       ·refine wCT hp334.1 tm (s1 u)<|wSeq ?_
        obtain⟨y335,hy335,h⟩:=bd h
        refine rx (c3<|cr (oLdP (n:=0) (k:=0) (m:=2) (d:=(kR aj)) (u:=(⟨v231,v232⟩:ab)) pt25 u u u t25 tm) (s1 u)<|cC (cR.ok hy335)<|c4<|c1<|.nil)<|pSeq ?_
        obtain⟨y336,hy336,h⟩:=bd h
        exact rx (c2<|cp (oMkI (view:=vIf221) (x0:=If221.c227 y335.1) u cb227 tm) (s1 u)<|cm (oCallS (rest:=[]) (R':=[.box 70000 225 [.d (kL kS) y336.l_.Names,.d (kL (kI .u32)) y336.l_.Up,.d (kL ki) y336.labels_,.v 420120],.row 420120 221 (kF vIf221) y336.pile_]) (out':=.d (tup [])) [(70000,70000),(70004,3505003)] [(70004,420120)] [0,1] [] [0,1] u (bI.ok hy336) b195 (oE1 tm (oE1 tm oE0)) u u u u u u u u) (s2 u u)<|.nil)<|pBlkN<|pSub (Γ':=[(0,.p 70000 0),(13,.d ((kL ki).sig a1)),(14,.d (ki.sig (a1.length:Int))),(15,.d (ki.sig v235))]) (sb u)<|pRen 420120 3505003 u<|pJ4 _ _ _ _ (so h) (sb u) u
       ·refine wCF hp334.1 tm (s1 u)<|wSeq<|rx (c2<|.nil)<|pSeq ?_
        obtain⟨hp337,h⟩|⟨hp337,h⟩:=ik h
        ·refine wCT hp337.1 tm (s1 u)<|wSeq ?_
         obtain⟨y338,hy338,h⟩:=bd h
         refine rx (c3<|cr (oLdP (n:=0) (k:=0) (m:=2) (d:=(kR aj)) (u:=(⟨v231,v232⟩:ab)) pt25 u u u t25 tm) (s1 u)<|cC (eL.ok hy338)<|c4<|c1<|.nil)<|pSeq ?_
         obtain⟨y339,hy339,h⟩:=bd h
         exact rx (c2<|cp (oMkI (view:=vIf221) (x0:=If221.c227 y338.1) u cb227 tm) (s1 u)<|cm (oCallS (rest:=[]) (R':=[.box 70000 225 [.d (kL kS) y339.l_.Names,.d (kL (kI .u32)) y339.l_.Up,.d (kL ki) y339.labels_,.v 450120],.row 450120 221 (kF vIf221) y339.pile_]) (out':=.d (tup [])) [(70000,70000),(70004,3505003)] [(70004,450120)] [0,1] [] [0,1] u (bI.ok hy339) b195 (oE1 tm (oE1 tm oE0)) u u u u u u u u) (s2 u u)<|.nil)<|pBlkN<|pSub (Γ':=[(0,.p 70000 0),(13,.d ((kL ki).sig a1)),(14,.d (ki.sig (a1.length:Int))),(15,.d (ki.sig v235))]) (sb u)<|pRen 450120 3505003 u<|pJ4 _ _ _ _ (so h) (sb u) u
        ·refine wCF hp337.1 tm (s1 u)<|wSeq<|wSeq<|rx (c2<|.nil)<|pSeq ?_
         obtain⟨hp340,h⟩|⟨hp340,h⟩:=ik h
         ·refine wCT hp340.1 tm (s1 u)<|wSkip<|pSeq<|wCT hp340.1 tm (s1 u) ?_
          obtain⟨y341,hy341,h⟩:=bd h
          obtain⟨y342,hy342,h⟩:=bd h
          exact rx (c4<|cr (oLdB (n:=0) (k:=2) u u u t56 tm) (s1 u)<|c2<|cp (oIdx u56 z3 hy341 tm tm) (s2 u u)<|c1<|cp (oMkI (view:=vIf221) (x0:=If221.c227 y341) u cb227 tm) (s1 u)<|cm (oCallS (rest:=[]) (R':=[.box 70000 225 [.d (kL kS) y342.l_.Names,.d (kL (kI .u32)) y342.l_.Up,.d (kL ki) y342.labels_,.v 500400],.row 500400 221 (kF vIf221) y342.pile_]) (out':=.d (tup [])) [(70000,70000),(70004,3505003)] [(70004,500400)] [0,1] [] [0,1] u (bI.ok hy342) b195 (oE1 tm (oE1 tm oE0)) u u u u u u u u) (s2 u u)<|.nil)<|pBlkN<|pSub (Γ':=[(0,.p 70000 0),(13,.d ((kL ki).sig a1)),(14,.d (ki.sig (a1.length:Int))),(15,.d (ki.sig v235))]) (sb u)<|pRen 500400 3505003 u<|pJ4 _ _ _ _ (so h) (sb u) u
         ·refine wCF hp340.1 tm (s1 u)<|wSeq<|rx (c2<|.nil)<|pSeq ?_
          obtain⟨hp343,h⟩|⟨hp343,h⟩:=ik h
          ·refine wCT hp343.1 tm (s1 u)<|wSkip<|pSeq<|wCT hp343.1 tm (s1 u) ?_
           obtain⟨y344,hy344,h⟩:=bd h
           obtain⟨y345,hy345,h⟩:=bd h
           exact rx (c4<|cr (oLdB (n:=0) (k:=2) u u u t56 tm) (s1 u)<|c2<|cp (oIdx u56 z3 hy344 tm tm) (s2 u u)<|c1<|cp (oMkI (view:=vIf221) (x0:=If221.c227 y344) u cb227 tm) (s1 u)<|cm (oCallS (rest:=[]) (R':=[.box 70000 225 [.d (kL kS) y345.l_.Names,.d (kL (kI .u32)) y345.l_.Up,.d (kL ki) y345.labels_,.v 500400],.row 500400 221 (kF vIf221) y345.pile_]) (out':=.d (tup [])) [(70000,70000),(70004,3505003)] [(70004,500400)] [0,1] [] [0,1] u (bI.ok hy345) b195 (oE1 tm (oE1 tm oE0)) u u u u u u u u) (s2 u u)<|.nil)<|pBlkN<|pSub (Γ':=[(0,.p 70000 0),(13,.d ((kL ki).sig a1)),(14,.d (ki.sig (a1.length:Int))),(15,.d (ki.sig v235))]) (sb u)<|pRen 500400 3505003 u<|pJ4 _ _ _ _ (so h) (sb u) u
          ·refine wCF hp343.1 tm (s1 u)<|wSeq<|rx (c2<|.nil)<|pSeq ?_
           obtain⟨hp346,h⟩|⟨hp346,h⟩:=ik h
           ·refine wCT hp346.1 tm (s1 u)<|wSkip<|pSeq<|wCT hp346.1 tm (s1 u) ?_
            obtain⟨y347,hy347,h⟩:=bd h
            obtain⟨y348,hy348,h⟩:=bd h
            exact rx (c4<|cr (oLdB (n:=0) (k:=2) u u u t56 tm) (s1 u)<|c2<|cp (oIdx u56 z3 hy347 tm tm) (s2 u u)<|c1<|cp (oMkI (view:=vIf221) (x0:=If221.c227 y347) u cb227 tm) (s1 u)<|cm (oCallS (rest:=[]) (R':=[.box 70000 225 [.d (kL kS) y348.l_.Names,.d (kL (kI .u32)) y348.l_.Up,.d (kL ki) y348.labels_,.v 500400],.row 500400 221 (kF vIf221) y348.pile_]) (out':=.d (tup [])) [(70000,70000),(70004,3505003)] [(70004,500400)] [0,1] [] [0,1] u (bI.ok hy348) b195 (oE1 tm (oE1 tm oE0)) u u u u u u u u) (s2 u u)<|.nil)<|pBlkN<|pSub (Γ':=[(0,.p 70000 0),(13,.d ((kL ki).sig a1)),(14,.d (ki.sig (a1.length:Int))),(15,.d (ki.sig v235))]) (sb u)<|pRen 500400 3505003 u<|pJ4 _ _ _ _ (so h) (sb u) u
           ·refine wCF hp346.1 tm (s1 u)<|rx (c2<|.nil)<|pSeq ?_
            obtain⟨hp349,h⟩|⟨hp349,h⟩:=ik h
            ·refine wCT hp349.1 tm (s1 u) ?_
             obtain⟨y350,hy350,h⟩:=bd h
             obtain⟨y351,hy351,h⟩:=bd h
             exact rx (c4<|cr (oLdB (n:=0) (k:=2) u u u t56 tm) (s1 u)<|c2<|cp (oIdx u56 z3 hy350 tm tm) (s2 u u)<|c1<|cp (oMkI (view:=vIf221) (x0:=If221.c227 y350) u cb227 tm) (s1 u)<|cm (oCallS (rest:=[]) (R':=[.box 70000 225 [.d (kL kS) y351.l_.Names,.d (kL (kI .u32)) y351.l_.Up,.d (kL ki) y351.labels_,.v 500400],.row 500400 221 (kF vIf221) y351.pile_]) (out':=.d (tup [])) [(70000,70000),(70004,3505003)] [(70004,500400)] [0,1] [] [0,1] u (bI.ok hy351) b195 (oE1 tm (oE1 tm oE0)) u u u u u u u u) (s2 u u)<|.nil)<|pBlkN<|pSub (Γ':=[(0,.p 70000 0),(13,.d ((kL ki).sig a1)),(14,.d (ki.sig (a1.length:Int))),(15,.d (ki.sig v235))]) (sb u)<|pRen 500400 3505003 u<|pJ4 _ _ _ _ (so h) (sb u) u
            ·refine wCF hp349.1 tm (s1 u)<|wSeq ?_
             obtain⟨y352,hy352,h⟩:=bd h
             refine rx (c1<|cm (oCallS (rest:=[]) (R':=[.box 70000 225 [.d (kL kS) y352.1.l_.Names,.d (kL (kI .u32)) y352.1.l_.Up,.d (kL ki) y352.1.labels_,.v 350040],.row 350040 221 (kF vIf221) y352.1.pile_]) (out':=.d (tup [(kF vIf221).sig y352.2.1,(kF vIf221).sig y352.2.2])) [(70000,70000),(70004,3505003)] [(70004,350040)] [0,1] [] [0,1] u (eU.ok hy352) b196 (oE1 tm oE0) u u u u u u u u) (s1 u)<|c4<|c1<|.nil)<|pSeq ?_
             obtain⟨y353,hy353,h⟩:=bd h
             obtain⟨y354,hy354,h⟩:=bd h
             exact rx (c4<|c1<|cm (oCallS (rest:=[]) (R':=[.box 70000 225 [.d (kL kS) y353.1.l_.Names,.d (kL (kI .u32)) y353.1.l_.Up,.d (kL ki) y353.1.labels_,.v 360200],.row 360200 221 (kF vIf221) y353.1.pile_]) (out':=.d ((kF vIf221).sig y353.2)) [(70000,70000),(70004,350040)] [(70004,360200)] [0,1] [] [0,1] u (dE.ok hy353) b197 (oE1 tm (oE1 tm (oE1 tm (oE1 tm oE0)))) u u u u u u u u) ⟨u,u,u,u,tv⟩<|cm (oCallS (rest:=[]) (R':=[.box 70000 225 [.d (kL kS) y354.l_.Names,.d (kL (kI .u32)) y354.l_.Up,.d (kL ki) y354.labels_,.v 360240],.row 360240 221 (kF vIf221) y354.pile_]) (out':=.d (tup [])) [(70000,70000),(70004,360200)] [(70004,360240)] [0,1] [] [0,1] u (bI.ok hy354) b195 (oE1 tm (oE1 tm oE0)) u u u u u u u u) (s2 u u)<|.nil)<|pBlkN<|pSub (Γ':=[(0,.p 70000 0),(13,.d ((kL ki).sig a1)),(14,.d (ki.sig (a1.length:Int))),(15,.d (ki.sig v235))]) (sb u)<|pRen 360240 3505003 u<|pJ4 _ _ _ _ (so h) (sb u) u
    ·rintro x326 x327 x328 x329 rfl
     replace h:=hk3
     exact pBlkN<|pJ4 _ _ _ _ (so h) (sb u) u
   ·rintro x296 x297 x298 x299 rfl
    replace h:=hk2
    exact rx (c2<|.nil)<|pLoop (lW (ih _ _ _ _ _ h) ⟨u,u,u,u,tv⟩ u)
  ·exact wCF hp240.1 tm (s1 u)<|wExit<|pThenX<|pThenX<|pBlkX<|pJ4 _ _ _ _ (so h) (sb u) u
 ·rintro x236 x237 x238 x239 rfl
  replace h:=hk1
  refine pSeq<|wSeq ?_
  obtain⟨y355,hy355,h⟩:=bd h
  refine rx (c3<|cr (oLdN (n:=0) (k:=3) u u u t223 tm) (s1 u)<|cr (oIdxR (n:=1) u223 z221 u hy355 tm (cI (by decide))) (s1 u)<|cr (oLdE (n:=1) u hy355 u t221 tm) (s1 u)<|c1<|.nil)<|pSeq<|wRet ?_
  obtain rfl:=so h
  exact pSub (Γ':=[(4,.d ((kF vIf221).sig y355))]) (sb u)<|pRen 3505003 70004 u<|pS1 [0,1] u u (.inl u) u (.tmp u<|.nil)
theorem dU.ok{a0:ab} {a1:List Int} {a2:List Int} {r:Bool×Int}(h:dU.f a0 a1 a2=some r):FnA PP 158 [(kR aj).sig a0,(kL ki).sig a1,(kL ki).sig a2] (tup [kB.sig r.1,ki.sig r.2]):=by
 refine fnIntro Tryz.func158 u (by kernel_rfl) fun H0 w0=>?_
 unfold dU.f at h
 refine wSeq<|rx (c3<|.nil)<|pSeq<|wSeq<|wSeq ?_
 obtain⟨y1,hy1,h⟩:=bd h
 refine rx (c3<|cC (fo.ok hy1)<|c1<|.nil)<|pSeq<|wSeq<|rx (c2<|.nil)<|pSeq ?_
 obtain⟨hp2,h⟩|⟨hp2,h⟩:=ik h
 ·refine wNT hp2.1 tm (s1 u)<|wSkip<|pSeq<|wSeq ?_
  obtain⟨y3,hy3,h⟩:=bd h
  refine rx (c2<|cp (oBuild (fs:=fe) (u:=⟨a0,a2,[]⟩) u ze225 pl225 po225_2 (.op (zc:=[(.slice none 0 0),(.slice none 0 0)]) tm u (.op (zc:=[(.slice none 0 0)]) tm u (.ze (zc:=[(.slice none 0 0)]) zN .nil)))) (s2 u u)<|cm (okNil (n:=0) (k:=3) (id:=6103) (kF vIf221) 221 ((Ok.toL (oBoxP (id:=22) (d:=(kR fe)) (ls:=[.d (kL kS) a0.Names,.d (kL (kI .u32)) a0.Up,.d (kL ki) a2,.d (kN If221) []]) (lfS (lfC (lfS (lfC lf1 (lfC lf1 lfN))) (lfC lf1 (lfC lf1 lfN)))) u tm) (fun c e=>by cases e))) u u u) (s1 u)<|c1<|cm (oCallS (rest:=[]) (R':=[.row 340200 221 (kF vIf221) y3.1.pile_,.box 22 225 [.d (kL kS) y3.1.l_.Names,.d (kL (kI .u32)) y3.1.l_.Up,.d (kL ki) y3.1.labels_,.v 340200]]) (out':=.d ((kF vIf221).sig y3.2)) [(70000,22),(70004,6103)] [(70004,340200)] [1,0] [] [1,0] u (bf.ok hy3) b183 (oE1 tm (oE1 tm oE0)) u u u u u u u u) (s2 u u)<|cp (oTA iF cb218 zv218 zvB tm) (s1 u)<|c4<|c1<|.nil)<|pSeq<|wSeq<|rx (c3<|.nil)<|pSeq<|wRet ?_
  obtain rfl:=so h
  exact pRn (.inl u) u u (.tmp u<|.tmp u<|.nil)
 ·refine wNF hp2.1 tm (s1 u)<|wSeq<|rx (c3<|.nil)<|pSeq<|wRet<|pThenR ?_
  obtain rfl:=so h
  exact pRn (.inl u) u u (.tmp u<|.tmp u<|.nil)
theorem cT.ok{a0:ab} {a1:List Int} {a2:List Int} {r:Int×Int}(h:cT.f a0 a1 a2=some r):FnA PP 159 [(kR aj).sig a0,(kL ki).sig a1,(kL ki).sig a2] (tup [ki.sig r.1,ki.sig r.2]):=by
 refine fnIntro Tryz.func159 u (by kernel_rfl) fun H0 w0=>?_
 unfold cT.f at h
 refine wSeq<|rx (c3<|.nil)<|pSeq<|wSeq<|wSeq ?_
 obtain⟨y1,hy1,h⟩:=bd h
 refine rx (c3<|cC (fo.ok hy1)<|c1<|.nil)<|pSeq<|wSeq<|rx (c2<|.nil)<|pSeq ?_
 obtain⟨hp2,h⟩|⟨hp2,h⟩:=ik h
 ·refine wNT hp2.1 tm (s1 u)<|wSkip<|pSeq<|wSeq ?_
  obtain⟨y3,hy3,h⟩:=bd h
  refine rx (c2<|cp (oBuild (fs:=fe) (u:=⟨a0,a2,[]⟩) u ze225 pl225 po225_2 (.op (zc:=[(.slice none 0 0),(.slice none 0 0)]) tm u (.op (zc:=[(.slice none 0 0)]) tm u (.ze (zc:=[(.slice none 0 0)]) zN .nil)))) (s2 u u)<|cm (okNil (n:=0) (k:=3) (id:=6103) (kF vIf221) 221 ((Ok.toL (oBoxP (id:=22) (d:=(kR fe)) (ls:=[.d (kL kS) a0.Names,.d (kL (kI .u32)) a0.Up,.d (kL ki) a2,.d (kN If221) []]) (lfS (lfC (lfS (lfC lf1 (lfC lf1 lfN))) (lfC lf1 (lfC lf1 lfN)))) u tm) (fun c e=>by cases e))) u u u) (s1 u)<|c1<|cm (oCallS (rest:=[]) (R':=[.row 340200 221 (kF vIf221) y3.1.pile_,.box 22 225 [.d (kL kS) y3.1.l_.Names,.d (kL (kI .u32)) y3.1.l_.Up,.d (kL ki) y3.1.labels_,.v 340200]]) (out':=.d ((kF vIf221).sig y3.2)) [(70000,22),(70004,6103)] [(70004,340200)] [1,0] [] [1,0] u (bf.ok hy3) b183 (oE1 tm (oE1 tm oE0)) u u u u u u u u) (s2 u u)<|cp (oTA iG cb227 zv227 (zvI (by decide)) tm) (s1 u)<|c4<|c1<|.nil)<|pSeq<|wSeq<|rx (c3<|.nil)<|pSeq<|wRet ?_
  obtain rfl:=so h
  exact pRn (.inl u) u u (.tmp u<|.tmp u<|.nil)
 ·refine wNF hp2.1 tm (s1 u)<|wSeq<|rx (c3<|.nil)<|pSeq<|wRet<|pThenR ?_
  obtain rfl:=so h
  exact pRn (.inl u) u u (.tmp u<|.tmp u<|.nil)
theorem bP.ok{a0:ah} {a1:Int} {a2:Int} {r:ah}(h:bP.f a0 a1 a2=some r):FnS PP 185 [.p 70000 0,.d (ki.sig a1),.d (ki.sig a2)] [.box 70000 204 [.d (kL kS) a0.l_.Names,.d (kL (kI .u32)) a0.l_.Up,.d ki a0.s_.Pc.V,.d ki a0.s_.Pc.L,.d (kL (kR ao)) a0.s_.Code,.d (kL (kR ai)) a0.s_.Mem,.v 70007,.d (kL (kR ai)) a0.s_.Out,.d ki a0.x_.Op,.d ki a0.x_.N,.d ki a0.x_.L,.d kB a0.a_.Ret,.d ki a0.a_.V,.d ki a0.a_.L,.d kB a0.b_.Ret,.d ki a0.b_.V,.d ki a0.b_.L,.d kB a0.r_.Ret,.d ki a0.r_.V,.d ki a0.r_.L,.d ki a0.below_,.d ki a0.one_.x0_,.d ki a0.one_.x1_,.d ki a0.one_.x2_],.row 70007 88 (kR ak) a0.s_.Stack] [70000] (.d (tup [])) [.box 70000 204 [.d (kL kS) r.l_.Names,.d (kL (kI .u32)) r.l_.Up,.d ki r.s_.Pc.V,.d ki r.s_.Pc.L,.d (kL (kR ao)) r.s_.Code,.d (kL (kR ai)) r.s_.Mem,.v 70007,.d (kL (kR ai)) r.s_.Out,.d ki r.x_.Op,.d ki r.x_.N,.d ki r.x_.L,.d kB r.a_.Ret,.d ki r.a_.V,.d ki r.a_.L,.d kB r.b_.Ret,.d ki r.b_.V,.d ki r.b_.L,.d kB r.r_.Ret,.d ki r.r_.V,.d ki r.r_.L,.d ki r.below_,.d ki r.one_.x0_,.d ki r.one_.x1_,.d ki r.one_.x2_],.row 70007 88 (kR ak) r.s_.Stack]:=by
 refine fnIntroS Tryz.func185 u (by kernel_rfl) fun X H0 w0 pv=>?_
 unfold bP.f at h
 obtain⟨hc1,h⟩:=ib h
 refine rx (c4<|c1<|cr (oLdN (n:=0) (k:=6) u u u t33 tm) (s1 u)<|c2<|cp (oBuild (fs:=ak) (u:=⟨false,a1,a2⟩) u ze88 pl88 po88 (.ze (zc:=[(.bool false)]) zB (.op (zc:=[(.int .i64 0)]) tm u (.op (zc:=[(.int .i64 0)]) tm u .nil)))) (s2 u u)<|cp (oLit (d:=(kR ak)) el33 (by decide) u u u (e1 tm e0)) (s1 u)<|cw (oApp (n:=1) (id':=16) el33 (by decide) u (by decide) hc1 tm tm) (s2 u u)<|c3<|cwn (oStN (n:=0) (m:=1) (k:=6) u u u u z33 u tm tm) (s2 u u)<|.nil) ?_
 obtain rfl:=so h
 exact pSub (Γ':=[]) tv<|pRen 16 70007 u<|pSn [0,1] u u (.inr u) u u (.nil)
theorem cU.ok{a1:Int} {r:(List al)}(h:cU.f a1=some r):FnS PP 198 [.d (sV (.slice none 0 0)),.d (ki.sig a1)] [] [] (.v 80000) [.row 80000 88 (kR ak) r]:=by
 refine fnIntroS Tryz.func198 u (by kernel_rfl) fun X H0 w0 pv=>?_
 unfold cU.f at h
 refine wSeq<|rx (cp (oAs cV) tv<|.nil)<|pSeq<|wSeq<|wSeq<|rx (c2<|.nil)<|pSeq ?_
 obtain⟨hp1,h⟩|⟨hp1,h⟩:=ik h
 ·refine wCT hp1.1 tm (s1 u) ?_
  cases h
 ·refine wCF hp1.1 tm (s1 u)<|wSkip<|pSeq<|wSeq<|wSeq<|rx (c2<|cp (oCapN u33 tm) (s1 u)<|c1<|cp (oLenL u33 (tmN (d:=(kR ak)))) (s1 u)<|c3<|.nil)<|pSeq<|wSeq<|rx (c2<|.nil)<|pSeq ?_
  obtain⟨hp2,h⟩|⟨hp2,h⟩:=ik h
  ·refine wCT hp2.1 tm (s1 u) ?_
   obtain⟨hc3,h⟩:=ib h
   obtain⟨hc4,h⟩:=ib h
   refine rx (c2<|cp (oCapN u33 tm) (s1 u)<|cp (oCutN u33 z88 u tm tm) (s2 u u)<|c1<|cw (oAppZ (id:=22) (d:=(kR ak)) el33 u3 (by decide) (by decide) ze88 db hc3.1 hc3.2 tm tm) (s2 u u)<|c1<|cp (oLenL u33 (tmN (d:=(kR ak)))) (s1 u)<|cw (oCutR (n:=0) (id':=25) u33 z88 u hc4.1 hc4.2 tm tm) (s2 u u)<|c1<|.nil)<|pSeq<|wSeq<|rx (c2<|.nil)<|pSeq<|wRet ?_
   obtain rfl:=so h
   exact pSub (Γ':=[(4,.v 25)]) (sb u)<|pRen 25 80000 u<|pSv [0] u u (.inl u) u u
  ·refine wCF hp2.1 tm (s1 u)<|wSkip<|pSeq<|wSeq<|rx (c2<|.nil)<|pSeq<|wNil (kR ak) 88 9004 4 u u<|wRet ?_
   obtain rfl:=so h
   exact pSub (Γ':=[(4,.v 9004)]) (sb u)<|pRen 9004 80000 u<|pSv [0] u u (.inl u) u u
theorem aA.ok{a0:List (List al)} {r:List al}(h:aA.f a0=some r):FnA PP 186 [(kL (kL (kR ak))).sig a0] ((kL (kR ak)).sig r):=by
 refine fnIntro Tryz.func186 u (by kernel_rfl) fun H0 w0=>?_
 unfold aA.f at h
 refine wSeq<|rx (cp (oAs cV) tv<|.nil)<|pSeq<|wSeq<|rx (c1<|.nil)<|pSeq<|wSeq<|wSeq<|rx (c3<|.nil)<|pSeq ?_
 obtain⟨o1,h,hk1⟩:=bd h
 refine wK1 (fun x15=>x15=o1) (fun x15=>[(0,.d ((kL (kL (kR ak))).sig a0)),(3,.d (ki.sig x15))]) (fun x15=>[]) ?_ ?_
 ·refine wBlock (wLoop ?_)
  refine lW (pc2 o1 (fun v13 v14=>[(0,.d ((kL (kL (kR ak))).sig a0)),(3,.d (ki.sig v14)),(9,.d ((kL (kL (kR ak))).sig a0)),(10,.d (ki.sig (a0.length:Int))),(11,.d (ki.sig v13))]) (fun v13 v14=>[]) (aA.l0.partial_correctness a0) ?_ _ _ h) ⟨u,u,u,u,u,tv⟩ u
  clear h
  intro f' ih v13 v14 h
  refine wSeq<|rx (c1<|.nil)<|pSeq<|wSeq ?_
  obtain⟨hp16,h⟩|⟨hp16,h⟩:=ik h
  ·refine wCT hp16.1 tm (s1 u)<|wSkip<|pSeq ?_
   obtain⟨o2,h,hk2⟩:=bd h
   refine wJ1 (fun x19=>x19=o2) (fun x19=>[(0,.d ((kL (kL (kR ak))).sig a0)),(3,.d (ki.sig x19)),(9,.d ((kL (kL (kR ak))).sig a0)),(10,.d (ki.sig (a0.length:Int))),(11,.d (ki.sig v13))]) (fun x19=>[]) ?_ ?_
   ·refine wBlock<|wSeq ?_
    obtain⟨y20,hy20,h⟩:=bd h
    refine rx (cp (oIdx u147 z33 hy20 tm tm) (s2 u u)<|c2<|.nil)<|pSeq<|wSeq<|rx (c4<|c1<|.nil)<|pSeq<|wSeq<|rx (c2<|.nil)<|pSeq ?_
    obtain⟨hp21,h⟩|⟨hp21,h⟩:=ik h
    ·refine wCT hp21.1 tm (s1 u) ?_
     cases h
    ·exact wCF hp21.1 tm (s1 u)<|wSkip<|pBlkN<|pJ1 _ (so h) (sb u) u
   ·rintro x19 rfl
    replace h:=hk2
    exact rx (c2<|.nil)<|pLoop (lW (ih _ _ h) ⟨u,u,u,u,u,tv⟩ u)
  ·exact wCF hp16.1 tm (s1 u)<|wExit<|pThenX<|pThenX<|pBlkX<|pJ1 _ (so h) (sb u) u
 ·rintro x15 rfl
  replace h:=hk1
  refine pSeq<|wSeq ?_
  obtain⟨y22,hy22,h⟩:=bd h
  refine rx (c1<|cm (oCallS (rest:=[]) (R':=[.row 390040 88 (kR ak) y22]) (out':=.v 390040) [] [(80000,390040)] [] [] [0] u (cU.ok hy22) b198 (oE1 cV (oE1 tm oE0)) u u u u u u u u) (s1 u)<|c1<|.nil)<|pSeq<|wSeq<|wSeq<|rx (c3<|.nil)<|pSeq<|wWeak (Γ':=[(6,.v 390040),(25,.d ((kL (kL (kR ak))).sig a0)),(26,.d (ki.sig (a0.length:Int))),(27,.d (ki.sig 0))]) (sb u)<|wRen 390040 1006 u ?_
  obtain⟨o1,h,hk1⟩:=bd h
  refine wK1 (fun x31=>x31=o1) (fun x31=>[(6,.v 1006)]) (fun x31=>[.row 1006 88 (kR ak) x31]) ?_ ?_
  ·refine wBlock (wLoop ?_)
   refine lW (pc2 o1 (fun v29 v30=>[(6,.v 1006),(25,.d ((kL (kL (kR ak))).sig a0)),(26,.d (ki.sig (a0.length:Int))),(27,.d (ki.sig v30))]) (fun v29 v30=>[.row 1006 88 (kR ak) v29]) (aA.l1.partial_correctness a0) ?_ _ _ h) ⟨u,u,u,u,tv⟩ u
   clear h
   intro f' ih v29 v30 h
   refine wSeq<|rx (c1<|.nil)<|pSeq<|wSeq ?_
   obtain⟨hp32,h⟩|⟨hp32,h⟩:=ik h
   ·refine wCT hp32.1 tm (s1 u)<|wSkip<|pSeq<|wSeq<|wBlock<|wSeq ?_
    obtain⟨y33,hy33,h⟩:=bd h
    refine rx (cp (oIdx u147 z33 hy33 tm tm) (s2 u u)<|c2<|.nil)<|pSeq ?_
    obtain⟨hc34,h⟩:=ib h
    exact rx (c2<|cw (oApp (n:=0) (id':=33) el33 (by decide) u (by decide) hc34 tm tm) (s2 u u)<|c1<|.nil)<|pBlkN<|pSeq<|rx (c2<|.nil)<|pSub (Γ':=[(6,.v 33),(25,.d ((kL (kL (kR ak))).sig a0)),(26,.d (ki.sig (a0.length:Int))),(27,.d (ki.sig (IntKind.i64.wrap (v30+1))))]) (sb u)<|pRen 33 1006 u<|pLoop (lW (ih _ _ h) ⟨u,u,u,u,tv⟩ u)
   ·exact wCF hp32.1 tm (s1 u)<|wExit<|pThenX<|pThenX<|pBlkX<|pJ1 _ (so h) (sb u) u
  ·rintro x31 rfl
   replace h:=hk1
   refine pSeq<|wSeq<|rx (c2<|.nil)<|pSeq<|wFrzR (n:=0) (id:=1006) [2] u u ⟨u,tv⟩<|wRet ?_
   obtain rfl:=so h
   exact pR1 (.inl u) u (.tmp u<|.nil)
theorem bB.okN{a0:List al} {r:(List al)}(h:bB.f a0=some r):FnS PP 184 [.d (sNN (kR ak) a0)] [] [] (.v 80000) [.row 80000 88 (kR ak) r]:=by
 refine fnIntroS Tryz.func184 u (by kernel_rfl) fun X H0 w0 pv=>?_
 unfold bB.f at h
 refine wSeq<|rx (cp (oAs cV) tv<|.nil)<|pSeq<|wSeq<|wSeq<|rx (c1<|cp (oEqNF (d:=(kR ak)) u33 tm cV) (s1 u)<|.nil)<|pSeq<|wCondF tm (s1 u)<|wSkip<|pSeq<|wSeq ?_
 obtain⟨hc1,h⟩:=ib h
 refine rx (cw (oLitR (id:=5) (d:=(kR ak)) el33 (by decide) u u u e0) tv<|c1<|cw (oApp (n:=0) (id':=7) el33 (by decide) u (by decide) hc1 tm tNN) (s2 u u)<|c1<|.nil)<|pSeq<|wRet ?_
 obtain rfl:=so h
 exact pSub (Γ':=[(2,.v 7)]) (sb u)<|pRen 7 80000 u<|pSv [0] u u (.inl u) u u
theorem bB.ok{a0:List al} {r:(List al)}(h:bB.f a0=some r):FnS PP 184 [.d ((kL (kR ak)).sig a0)] [] [] (.v 80000) [.row 80000 88 (kR ak) r]:=
 libClone lK (by rintro rfl;have h':=h;unfold bB.f at h';split at h'<;>cases h';rfl) (bB.okN h)
theorem aQ.okN{a0:List am} {r:(List am)}(h:aQ.f a0=some r):FnS PP 95 [.d (sNN (kR ai) a0)] [] [] (.v 80000) [.row 80000 30 (kR ai) r]:=by
 refine fnIntroS Tryz.func95 u (by kernel_rfl) fun X H0 w0 pv=>?_
 unfold aQ.f at h
 refine wSeq<|rx (cp (oAs cV) tv<|.nil)<|pSeq<|wSeq<|wSeq<|rx (c1<|cp (oEqNF (d:=(kR ai)) u32 tm cV) (s1 u)<|.nil)<|pSeq<|wCondF tm (s1 u)<|wSkip<|pSeq<|wSeq ?_
 obtain⟨hc1,h⟩:=ib h
 refine rx (cw (oLitR (id:=5) (d:=(kR ai)) el32 (by decide) u u u e0) tv<|c1<|cw (oApp (n:=0) (id':=7) el32 (by decide) u (by decide) hc1 tm tNN) (s2 u u)<|c1<|.nil)<|pSeq<|wRet ?_
 obtain rfl:=so h
 exact pSub (Γ':=[(2,.v 7)]) (sb u)<|pRen 7 80000 u<|pSv [0] u u (.inl u) u u
theorem aQ.ok{a0:List am} {r:(List am)}(h:aQ.f a0=some r):FnS PP 95 [.d ((kL (kR ai)).sig a0)] [] [] (.v 80000) [.row 80000 30 (kR ai) r]:=
 libClone mw (by rintro rfl;have h':=h;unfold aQ.f at h';split at h'<;>cases h';rfl) (aQ.okN h)
theorem dn.ok{a0:ah} {a1:Int} {r:ah}(h:dn.f a0 a1=some r):FnS PP 160 [.p 70000 0,.d (ki.sig a1)] [.box 70000 204 (L204 a0)] [70000] (.d (tup [])) [.box 70000 204 (L204 r)]:=by
 refine fnIntroS Tryz.func160 u (by kernel_rfl) fun X H0 w0 pv=>?_
 unfold dn.f at h
 refine wSeq<|rx (c4<|cr (oLdK (n:=0) (k:=6) u u (by kernel_rfl) t33 tm) (s1 u)<|c1<|.nil)<|pSeq<|wSeq ?_
 obtain⟨hc1,h⟩:=ib h
 obtain⟨y2,hy2,h⟩:=bd h
 refine rx (c4<|c1<|cr (oLdK (n:=0) (k:=20) u u (by kernel_rfl) t3 tm) (s1 u)<|cp (oCutHi u33 z88 hc1.1 hc1.2 tm tm) (s2 u u)<|cm (oCallS (rest:=[.box 70000 204 (L204 a0)]) (R':=[.row 310280 88 (kR ak) y2,.box 70000 204 (L204 a0)]) (out':=.v 310280) [] [(80000,310280)] [] [0] [0,1] u (bB.ok hy2) b184 (oE1 tm oE0) u u u u u u u u) (s1 u)<|c3<|cwn (oStN (n:=1) (m:=0) (k:=6) u u u u z33 u tm tm) (s2 u u)<|.nil)<|pSeq<|wSeq<|rx (c4<|c1<|cr (oLdK (n:=1) (k:=2) u u (by kernel_rfl) t3 tm) (s1 u)<|c2<|.nil)<|pSeq<|wSeq<|wSeq<|rx (c4<|cr (oLdK (n:=1) (k:=8) u u (by kernel_rfl) t3 tm) (s1 u)<|.nil)<|pSeq<|wWeak (Γ':=[(0,.p 70000 0),(1,.d (ki.sig a1)),(4,.d ((kL (kR ak)).sig a0.s_.Stack)),(5,.d (ki.sig (IntKind.i64.wrap (a0.s_.Pc.V+1)))),(34,.d (ki.sig a0.x_.Op))]) (sb u)<|wRen 310280 3505006 u ?_
 obtain⟨o1,h,hk1⟩:=bd h
 refine wK2 (fun x28 x29=>(x28,x29)=o1) (fun x28 x29=>[(0,.p 70000 0),(5,.d (ki.sig x29))]) (fun x28 x29=>[.box 70000 204 (L204 x28)]) ?_ ?_
 ·refine wBlock<|wSeq<|rx (c2<|.nil)<|pSeq ?_
  obtain⟨hp30,h⟩|⟨hp30,h⟩:=ik h
  ·refine wCT hp30.1 tm (s1 u) ?_
   obtain⟨y31,hy31,h⟩:=bd h
   exact rx (c4<|c1<|cr (oLdK (n:=1) (k:=9) u u (by kernel_rfl) t3 tm) (s1 u)<|c1<|cm (oCallS (rest:=[]) (R':=[.row 350280 88 (kR ak) y31.s_.Stack,.box 70000 204 [.d (kL kS) y31.l_.Names,.d (kL (kI .u32)) y31.l_.Up,.d ki y31.s_.Pc.V,.d ki y31.s_.Pc.L,.d (kL (kR ao)) y31.s_.Code,.d (kL (kR ai)) y31.s_.Mem,.v 350280,.d (kL (kR ai)) y31.s_.Out,.d ki y31.x_.Op,.d ki y31.x_.N,.d ki y31.x_.L,.d kB y31.a_.Ret,.d ki y31.a_.V,.d ki y31.a_.L,.d kB y31.b_.Ret,.d ki y31.b_.V,.d ki y31.b_.L,.d kB y31.r_.Ret,.d ki y31.r_.V,.d ki y31.r_.L,.d ki y31.below_,.d ki y31.one_.x0_,.d ki y31.one_.x1_,.d ki y31.one_.x2_]]) (out':=.d (tup [])) [(70000,70000),(70007,3505006)] [(70007,350280)] [1,0] [] [1,0] u (bP.ok hy31) b185 (oE1 tm (oE1 tm (oE1 tm oE0))) u u u u u u u u) (s3 u u u)<|.nil)<|pBlkN<|pFrzR (n:=0) (id:=350280) [] u u tv<|pJ2 _ _ (so h) (sb u) u
  ·refine wCF hp30.1 tm (s1 u)<|wSeq<|rx (c2<|.nil)<|pSeq ?_
   obtain⟨hp32,h⟩|⟨hp32,h⟩:=ik h
   ·refine wCT hp32.1 tm (s1 u) ?_
    obtain⟨y33,hy33,h⟩:=bd h
    exact rdx hm (c4<|c1<|cr (oLdK (n:=1) (k:=15) u u (by kernel_rfl) t3 tm) (s1 u)<|c4<|cr (oLdK (n:=1) (k:=12) u u (by kernel_rfl) t3 tm) (s1 u)<|c2<|cm (oCallS (rest:=[]) (R':=[.row 370520 88 (kR ak) y33.s_.Stack,.box 70000 204 [.d (kL kS) y33.l_.Names,.d (kL (kI .u32)) y33.l_.Up,.d ki y33.s_.Pc.V,.d ki y33.s_.Pc.L,.d (kL (kR ao)) y33.s_.Code,.d (kL (kR ai)) y33.s_.Mem,.v 370520,.d (kL (kR ai)) y33.s_.Out,.d ki y33.x_.Op,.d ki y33.x_.N,.d ki y33.x_.L,.d kB y33.a_.Ret,.d ki y33.a_.V,.d ki y33.a_.L,.d kB y33.b_.Ret,.d ki y33.b_.V,.d ki y33.b_.L,.d kB y33.r_.Ret,.d ki y33.r_.V,.d ki y33.r_.L,.d ki y33.below_,.d ki y33.one_.x0_,.d ki y33.one_.x1_,.d ki y33.one_.x2_]]) (out':=.d (tup [])) [(70000,70000),(70007,3505006)] [(70007,370520)] [1,0] [] [1,0] u (bP.ok hy33) b185 (oE1 tm (oE1 tm (oE1 tm oE0))) u u u u u u u u) (s3 u u u)<|.nil)<|pBlkN<|pFrzR (n:=0) (id:=370520) [] u u tv<|pJ2 _ _ (so h) (sb u) u
   ·refine wCF hp32.1 tm (s1 u)<|wSeq<|rx (c2<|.nil)<|pSeq ?_
    obtain⟨hp34,h⟩|⟨hp34,h⟩:=ik h
    ·refine wCT hp34.1 tm (s1 u) ?_
     obtain⟨y35,hy35,h⟩:=bd h
     exact rdx hm (c4<|c1<|cr (oLdK (n:=1) (k:=15) u u (by kernel_rfl) t3 tm) (s1 u)<|c4<|cr (oLdK (n:=1) (k:=12) u u (by kernel_rfl) t3 tm) (s1 u)<|c2<|cm (oCallS (rest:=[]) (R':=[.row 390520 88 (kR ak) y35.s_.Stack,.box 70000 204 [.d (kL kS) y35.l_.Names,.d (kL (kI .u32)) y35.l_.Up,.d ki y35.s_.Pc.V,.d ki y35.s_.Pc.L,.d (kL (kR ao)) y35.s_.Code,.d (kL (kR ai)) y35.s_.Mem,.v 390520,.d (kL (kR ai)) y35.s_.Out,.d ki y35.x_.Op,.d ki y35.x_.N,.d ki y35.x_.L,.d kB y35.a_.Ret,.d ki y35.a_.V,.d ki y35.a_.L,.d kB y35.b_.Ret,.d ki y35.b_.V,.d ki y35.b_.L,.d kB y35.r_.Ret,.d ki y35.r_.V,.d ki y35.r_.L,.d ki y35.below_,.d ki y35.one_.x0_,.d ki y35.one_.x1_,.d ki y35.one_.x2_]]) (out':=.d (tup [])) [(70000,70000),(70007,3505006)] [(70007,390520)] [1,0] [] [1,0] u (bP.ok hy35) b185 (oE1 tm (oE1 tm (oE1 tm oE0))) u u u u u u u u) (s3 u u u)<|.nil)<|pBlkN<|pFrzR (n:=0) (id:=390520) [] u u tv<|pJ2 _ _ (so h) (sb u) u
    ·refine wCF hp34.1 tm (s1 u)<|wSeq<|rx (c2<|.nil)<|pSeq ?_
     obtain⟨hp36,h⟩|⟨hp36,h⟩:=ik h
     ·refine wCT hp36.1 tm (s1 u) ?_
      obtain⟨y37,hy37,h⟩:=bd h
      obtain⟨y38,hy38,h⟩:=bd h
      exact rdx hm (c4<|c1<|cr (oLdK (n:=1) (k:=5) u u (by kernel_rfl) t32 tm) (s1 u)<|c4<|cr (oLdK (n:=1) (k:=12) u u (by kernel_rfl) t3 tm) (s1 u)<|cp (oIdx u32 z30 hy37 tm tm) (s2 u u)<|c3<|cm (oCallS (rest:=[]) (R':=[.row 410600 88 (kR ak) y38.s_.Stack,.box 70000 204 [.d (kL kS) y38.l_.Names,.d (kL (kI .u32)) y38.l_.Up,.d ki y38.s_.Pc.V,.d ki y38.s_.Pc.L,.d (kL (kR ao)) y38.s_.Code,.d (kL (kR ai)) y38.s_.Mem,.v 410600,.d (kL (kR ai)) y38.s_.Out,.d ki y38.x_.Op,.d ki y38.x_.N,.d ki y38.x_.L,.d kB y38.a_.Ret,.d ki y38.a_.V,.d ki y38.a_.L,.d kB y38.b_.Ret,.d ki y38.b_.V,.d ki y38.b_.L,.d kB y38.r_.Ret,.d ki y38.r_.V,.d ki y38.r_.L,.d ki y38.below_,.d ki y38.one_.x0_,.d ki y38.one_.x1_,.d ki y38.one_.x2_]]) (out':=.d (tup [])) [(70000,70000),(70007,3505006)] [(70007,410600)] [1,0] [] [1,0] u (bP.ok hy38) b185 (oE1 tm (oE1 tm (oE1 tm oE0))) u u u u u u u u) (s3 u u u)<|.nil)<|pBlkN<|pFrzR (n:=0) (id:=410600) [] u u tv<|pJ2 _ _ (so h) (sb u) u
     ·refine wCF hp36.1 tm (s1 u)<|wSeq<|rx (c2<|.nil)<|pSeq ?_
      obtain⟨hp39,h⟩|⟨hp39,h⟩:=ik h
      ·refine wCT hp39.1 tm (s1 u)<|wSeq ?_
       obtain⟨y40,hy40,h⟩:=bd h
       refine rx (c4<|c1<|cr (oLdK (n:=1) (k:=5) u u (by kernel_rfl) t32 tm) (s1 u)<|cm (oCallS (rest:=[.row 3505006 88 (kR ak) y2,.box 70000 204 [.d (kL kS) a0.l_.Names,.d (kL (kI .u32)) a0.l_.Up,.d ki a0.s_.Pc.V,.d ki a0.s_.Pc.L,.d (kL (kR ao)) a0.s_.Code,.d (kL (kR ai)) a0.s_.Mem,.v 3505006,.d (kL (kR ai)) a0.s_.Out,.d ki a0.x_.Op,.d ki a0.x_.N,.d ki a0.x_.L,.d kB a0.a_.Ret,.d ki a0.a_.V,.d ki a0.a_.L,.d kB a0.b_.Ret,.d ki a0.b_.V,.d ki a0.b_.L,.d kB a0.r_.Ret,.d ki a0.r_.V,.d ki a0.r_.L,.d ki a0.below_,.d ki a0.one_.x0_,.d ki a0.one_.x1_,.d ki a0.one_.x2_]]) (R':=[.row 430240 30 (kR ai) y40,.row 3505006 88 (kR ak) y2,.box 70000 204 [.d (kL kS) a0.l_.Names,.d (kL (kI .u32)) a0.l_.Up,.d ki a0.s_.Pc.V,.d ki a0.s_.Pc.L,.d (kL (kR ao)) a0.s_.Code,.d (kL (kR ai)) a0.s_.Mem,.v 3505006,.d (kL (kR ai)) a0.s_.Out,.d ki a0.x_.Op,.d ki a0.x_.N,.d ki a0.x_.L,.d kB a0.a_.Ret,.d ki a0.a_.V,.d ki a0.a_.L,.d kB a0.b_.Ret,.d ki a0.b_.V,.d ki a0.b_.L,.d kB a0.r_.Ret,.d ki a0.r_.V,.d ki a0.r_.L,.d ki a0.below_,.d ki a0.one_.x0_,.d ki a0.one_.x1_,.d ki a0.one_.x2_]]) (out':=.v 430240) [] [(80000,430240)] [] [0,1] [0,1,2] u (aQ.ok hy40) b95 (oE1 tm oE0) u u u u u u u u) (s1 u)<|c3<|cwn (oStN (n:=2) (m:=0) (k:=5) u u u u z32 u tm tm) (s2 u u)<|.nil)<|pSeq ?_
       obtain⟨y41,hy41,h⟩:=bd h
       exact rdx hm (c4<|cr (oLdN (n:=2) (k:=5) u u u t32 tm) (s1 u)<|c4<|cr (oLdK (n:=2) (k:=12) u u (by kernel_rfl) t3 tm) (s1 u)<|c4<|cr (oLdK (n:=2) (k:=15) u u (by kernel_rfl) t3 tm) (s1 u)<|c1<|cp (oBuild (fs:=ai) (u:=⟨a0.b_.V,a1⟩) u ze30 pl30 po30 (.op (zc:=[(.int .i64 0)]) tm u (.op (zc:=[(.int .i64 0)]) tm u .nil))) (s2 u u)<|cr (oIdxR (n:=0) u32 z30 u hy41 tm tm) (s2 u u)<|cwn (oStE (n:=0) u hy41 u z30 tm tm) (s2 u u)<|.nil)<|pBlkN<|pFrzR (n:=0) (id:=430240) [] u u tv<|pFrzR (n:=0) (id:=3505006) [] u u tv<|pJ2 _ _ (so h) (sb u) u
      ·refine wCF hp39.1 tm (s1 u)<|wSeq<|rx (c2<|.nil)<|pSeq ?_
       obtain⟨hp42,h⟩|⟨hp42,h⟩:=ik h
       ·refine wCT hp42.1 tm (s1 u) ?_
        obtain⟨y43,hy43,h⟩:=bd h
        obtain⟨hc44,h⟩:=ib h
        exact rgL hm (c4<|c1<|cl [] u (oLdK (n:=1) (k:=7) u u (by kernel_rfl) t32 tm) (s1 u)<|cnm (oCallS (rest:=[.row 3505006 88 (kR ak) y2,.box 70000 204 [.d (kL kS) a0.l_.Names,.d (kL (kI .u32)) a0.l_.Up,.d ki a0.s_.Pc.V,.d ki a0.s_.Pc.L,.d (kL (kR ao)) a0.s_.Code,.d (kL (kR ai)) a0.s_.Mem,.v 3505006,.d (kL (kR ai)) a0.s_.Out,.d ki a0.x_.Op,.d ki a0.x_.N,.d ki a0.x_.L,.d kB a0.a_.Ret,.d ki a0.a_.V,.d ki a0.a_.L,.d kB a0.b_.Ret,.d ki a0.b_.V,.d ki a0.b_.L,.d kB a0.r_.Ret,.d ki a0.r_.V,.d ki a0.r_.L,.d ki a0.below_,.d ki a0.one_.x0_,.d ki a0.one_.x1_,.d ki a0.one_.x2_]]) (R':=[.row 460240 30 (kR ai) y43,.row 3505006 88 (kR ak) y2,.box 70000 204 [.d (kL kS) a0.l_.Names,.d (kL (kI .u32)) a0.l_.Up,.d ki a0.s_.Pc.V,.d ki a0.s_.Pc.L,.d (kL (kR ao)) a0.s_.Code,.d (kL (kR ai)) a0.s_.Mem,.v 3505006,.d (kL (kR ai)) a0.s_.Out,.d ki a0.x_.Op,.d ki a0.x_.N,.d ki a0.x_.L,.d kB a0.a_.Ret,.d ki a0.a_.V,.d ki a0.a_.L,.d kB a0.b_.Ret,.d ki a0.b_.V,.d ki a0.b_.L,.d kB a0.r_.Ret,.d ki a0.r_.V,.d ki a0.r_.L,.d ki a0.below_,.d ki a0.one_.x0_,.d ki a0.one_.x1_,.d ki a0.one_.x2_]]) (out':=.v 460240) [] [(80000,460240)] [] [0,1] [0,1,2] u (aQ.ok hy43) b95 (oE1 tm oE0) u u u u u u u u) (s1 u)<|c4<|cl [.row 460240 30 (kR ai) y43] u (oLdK (n:=1) (k:=12) u u (by kernel_rfl) t3 tm) (s1 u)<|c1<|cp (oBuild (fs:=ai) (u:=⟨a0.a_.V,a1⟩) u ze30 pl30 po30 (.op (zc:=[(.int .i64 0)]) tm u (.op (zc:=[(.int .i64 0)]) tm u .nil))) (s2 u u)<|cp (oLit (d:=(kR ai)) el32 (by decide) u u u (e1 tm e0)) (s1 u)<|cw (oApp (n:=0) (id':=142) el32 (by decide) u (by decide) hc44 tm tm) (s2 u u)<|c3<|cwn (oStN (n:=2) (m:=0) (k:=7) u u u u z32 u tm tm) (s2 u u)<|.nil) (by kernel_rfl) (by kernel_rfl) (by kernel_rfl)<|pBlkN<|pFrzR (n:=1) (id:=3505006) [] u u tv<|pFrzR (n:=0) (id:=142) [] u u tv<|pJ2 _ _ (so h) (sb u) u
       ·refine wCF hp42.1 tm (s1 u)<|wSeq<|rx (c2<|.nil)<|pSeq ?_
        obtain⟨hp45,h⟩|⟨hp45,h⟩:=ik h
        ·exact wCT hp45.1 tm (s1 u)<|rx (c4<|cr (oLdK (n:=1) (k:=12) u u (by kernel_rfl) t3 tm) (s1 u)<|c1<|.nil)<|pBlkN<|pFrzR (n:=0) (id:=3505006) [] u u tv<|pJ2 _ _ (so h) (sb u) u
        ·refine wCF hp45.1 tm (s1 u)<|wSeq<|rx (c2<|.nil)<|pSeq ?_
         obtain⟨hp46,h⟩|⟨hp46,h⟩:=ik h
         ·refine wCT hp46.1 tm (s1 u)<|wSeq<|rx (c4<|cr (oLdK (n:=1) (k:=12) u u (by kernel_rfl) t3 tm) (s1 u)<|c1<|.nil)<|pSeq ?_
          obtain⟨hp47,h⟩|⟨hp47,h⟩:=ik h
          ·exact wNT hp47.1 tm (s1 u)<|wSkip<|pBlkN<|pFrzR (n:=0) (id:=3505006) [] u u tv<|pJ2 _ _ (so h) (sb u) u
          ·exact wNF hp47.1 tm (s1 u)<|rx (c4<|cr (oLdK (n:=1) (k:=9) u u (by kernel_rfl) t3 tm) (s1 u)<|c1<|.nil)<|pBlkN<|pFrzR (n:=0) (id:=3505006) [] u u tv<|pJ2 _ _ (so h) (sb u) u
         ·refine wCF hp46.1 tm (s1 u)<|wSeq<|rx (c2<|.nil)<|pSeq ?_
          obtain⟨hp48,h⟩|⟨hp48,h⟩:=ik h
          ·refine wCT hp48.1 tm (s1 u)<|wSeq ?_
           obtain⟨hc49,h⟩:=ib h
           refine rdx hm (c4<|cr (oLdK (n:=1) (k:=20) u u (by kernel_rfl) t3 tm) (s1 u)<|c4<|cr (oLdK (n:=1) (k:=9) u u (by kernel_rfl) t3 tm) (s1 u)<|c4<|cr (oLdK (n:=1) (k:=20) u u (by kernel_rfl) t3 tm) (s1 u)<|cp (oCut u33 z88 hc49.1 hc49.2.1 hc49.2.2 tm tm tm) (s3 u u u)<|c1<|.nil)<|pSeq<|wSeq ?_
           obtain⟨hc50,h⟩:=ib h
           obtain⟨y51,hy51,h⟩:=bd h
           exact rdx hm (c4<|c1<|cr (oLdK (n:=1) (k:=20) u u (by kernel_rfl) t3 tm) (s1 u)<|c4<|cr (oLdK (n:=1) (k:=9) u u (by kernel_rfl) t3 tm) (s1 u)<|c1<|cp (oCutHi u33 z88 hc50.1 hc50.2 tm tm) (s2 u u)<|c6<|cr (oLdK (n:=1) (k:=3) u u (by kernel_rfl) t3 tm) (s1 u)<|cp (oBuild (fs:=ak) (u:=⟨true,IntKind.i64.wrap (a0.s_.Pc.V+1),a0.s_.Pc.L⟩) u ze88 pl88 po88 (.op (zc:=[(.bool false)]) cB u (.op (zc:=[(.int .i64 0)]) tm u (.op (zc:=[(.int .i64 0)]) tm u .nil)))) (s2 u u)<|cp (oLit (d:=(kR ak)) el33 (by decide) u u u (e1 tm e0)) (s1 u)<|c1<|cp (oLit (d:=(kL (kR ak))) el147 (by decide) u u u (e1 tm (e1 tm (e1 tm e0)))) (s3 u u u)<|cC (aA.ok hy51)<|c3<|cwn (oStK (n:=1) (k:=6) u u u (by kernel_rfl) z33 tm tm) (s2 u u)<|.nil)<|pSeq<|rx (c4<|cr (oLdK (n:=1) (k:=12) u u (by kernel_rfl) t3 tm) (s1 u)<|c1<|.nil)<|pBlkN<|pDrop (.cons _ (.cons_cons _ .slnil))<|pJ2 _ _ (so h) (sb u) u
          ·refine wCF hp48.1 tm (s1 u)<|wSeq<|rx (c2<|.nil)<|pSeq ?_
           obtain⟨hp52,h⟩|⟨hp52,h⟩:=ik h
           ·refine wCT hp52.1 tm (s1 u)<|wSeq<|wSeq<|rx (c4<|cr (oLdK (n:=1) (k:=9) u u (by kernel_rfl) t3 tm) (s1 u)<|c1<|.nil)<|pSeq ?_
            obtain⟨hp53,h⟩|⟨hp53,h⟩:=ik h
            ·refine wCT hp53.1 tm (s1 u) ?_
             obtain⟨y54,hy54,h⟩:=bd h
             exact rx (c4<|c1<|cr (oLdK (n:=1) (k:=12) u u (by kernel_rfl) t3 tm) (s1 u)<|c1<|cm (oCallS (rest:=[]) (R':=[.row 580280 88 (kR ak) y54.s_.Stack,.box 70000 204 [.d (kL kS) y54.l_.Names,.d (kL (kI .u32)) y54.l_.Up,.d ki y54.s_.Pc.V,.d ki y54.s_.Pc.L,.d (kL (kR ao)) y54.s_.Code,.d (kL (kR ai)) y54.s_.Mem,.v 580280,.d (kL (kR ai)) y54.s_.Out,.d ki y54.x_.Op,.d ki y54.x_.N,.d ki y54.x_.L,.d kB y54.a_.Ret,.d ki y54.a_.V,.d ki y54.a_.L,.d kB y54.b_.Ret,.d ki y54.b_.V,.d ki y54.b_.L,.d kB y54.r_.Ret,.d ki y54.r_.V,.d ki y54.r_.L,.d ki y54.below_,.d ki y54.one_.x0_,.d ki y54.one_.x1_,.d ki y54.one_.x2_]]) (out':=.d (tup [])) [(70000,70000),(70007,3505006)] [(70007,580280)] [1,0] [] [1,0] u (bP.ok hy54) b185 (oE1 tm (oE1 tm (oE1 tm oE0))) u u u u u u u u) (s3 u u u)<|.nil)<|pSeq<|rx (c4<|cr (oLdK (n:=1) (k:=18) u u (by kernel_rfl) t3 tm) (s1 u)<|c1<|.nil)<|pBlkN<|pFrzR (n:=0) (id:=580280) [] u u tv<|pJ2 _ _ (so h) (sb u) u
            ·exact wCF hp53.1 tm (s1 u)<|wSkip<|pSeq<|rx (c4<|cr (oLdK (n:=1) (k:=18) u u (by kernel_rfl) t3 tm) (s1 u)<|c1<|.nil)<|pBlkN<|pFrzR (n:=0) (id:=3505006) [] u u tv<|pJ2 _ _ (so h) (sb u) u
           ·exact wCF hp52.1 tm (s1 u)<|wSkip<|pBlkN<|pFrzR (n:=0) (id:=3505006) [] u u tv<|pJ2 _ _ (so h) (sb u) u
 ·rintro x28 x29 rfl
  replace h:=hk1
  refine pSeq<|rx (c6<|cwn (oStK (n:=0) (k:=2) u u u (by kernel_rfl) z3 tm tm) (s2 u u)<|.nil) ?_
  obtain rfl:=so h
  exact pSn [0] u u (.inr u) u u (.nil)
theorem cW.ok{a0:ab} {a1:aZ} {a2:aa} {r:aa×Int}(h:cW.f a0 a1 a2=some r):FnA PP 125 [(kR aj).sig a0,(kR aL).sig a1,(kR ae).sig a2] (tup [(kR ae).sig r.1,ki.sig r.2]):=by
 unfold cW.f at h
 obtain⟨z,hB,hr⟩:=bd h
 clear h
 obtain rfl:=so hr
 replace h:=hB
 refine fnDefer (Γ:=[(0,.d ((kR aj).sig a0)),(1,.d ((kR aL).sig a1)),(2,.d ((kR ae).sig a2)),(3,.d (sP (kR aj) a0)),(4,.d (sP (kR aL) a1)),(5,.d (sP (kR ae) a2)),(6,.p 6 0),(7,.p 7 0)]) (R:=[.box 7 3 [.d ki 0],.box 6 35 [.d ki 0,.d ki 0,.d (kL (kR ao)) [],.d (kL (kR ai)) [],.d (kL (kR ak)) [],.d (kL (kR ai)) []]]) (n6:=1) (n7:=0) Tryz.func125 u (by kernel_rfl) (by kernel_rfl) u Tryz.func154 ((u:Tryz.f154.body=some (recX _ _ _ _ _ _ _ _ _ _ _ _ _ _ _ _ _ _ _)).trans (congrArg some (recX_eq (A:=20) (E:=199) (S:=35) (I:=3) ⟨u,u,u⟩ ⟨u,u,u⟩ ⟨u,u,u⟩ ⟨u,u,u⟩ ⟨u,u,u⟩ ⟨u,u,u⟩ ⟨u,u,u⟩ ⟨u,u,u⟩ ⟨u,u,u⟩ ⟨u,u,u⟩ ⟨u,u,u⟩))) u u u20 cb199 b154 t35 z35 t3 z3 u u u u u u (fun H0 w0 Q hpost=>?_) (fun X H0 w0 pv ds=>?_)
 ·exact rx (c3<|cw (oAlloc (id:=6) (ls:=Z35) ze35 zl35) tv<|cw (oAlloc (id:=7) (ls:=[.d ki 0]) ze3 (fun g=>⟨[(.int .i64 0)],_,u,zI_i64 g.H,u⟩)) tv<|.nil)<|pSub (Γ':=[(0,.d ((kR aj).sig a0)),(1,.d ((kR aL).sig a1)),(2,.d ((kR ae).sig a2)),(3,.d (sP (kR aj) a0)),(4,.d (sP (kR aL) a1)),(5,.d (sP (kR ae) a2)),(6,.p 6 0),(7,.p 7 0)]) (sb u) hpost
 ·unfold cW.B at h
  refine wSeq<|wT0<|wTk 0 7 (c6<|c1<|.nil) (by kernel_rfl) u ?_
  obtain⟨z1,hz1,h⟩:=bd h
  rcases z1 with p2|y3
  ·refine wTx (Γp:=[(6,.p 6 0),(7,.p 7 0)]) 7 u (oCallX (rest:=[.box 7 3 [.d ki 0],.box 6 35 [.d ki 0,.d ki 0,.d (kL (kR ao)) [],.d (kL (kR ai)) [],.d (kL (kR ak)) [],.d (kL (kR ai)) []]]) [] [] [0,1] u (bF.okP hz1) b155 (oE1 tm oE0) u u) u u (s1 u) ⟨u,u,tv⟩<|pThenP ?_
   obtain rfl:=so h
   exact pDpan (n6:=1) (n7:=0) u u u (by kernel_rfl) (by kernel_rfl)
  ·refine wTe 7 (cm (oCallS (rest:=[.box 7 3 [.d ki 0],.box 6 35 [.d ki 0,.d ki 0,.d (kL (kR ao)) [],.d (kL (kR ai)) [],.d (kL (kR ak)) [],.d (kL (kR ai)) []]]) (R':=[.box 7 3 [.d ki 0],.box 6 35 [.d ki 0,.d ki 0,.d (kL (kR ao)) [],.d (kL (kR ai)) [],.d (kL (kR ak)) [],.d (kL (kR ai)) []]]) (out':=.d (tup [])) [] [] [] [0,1] [0,1] u (bF.okR hz1) b155 (oE1 tm oE0) u u u u u u u u) (s1 u)<|.nil) (by kernel_rfl)<|pSeq<|wSeq ?_
   obtain⟨y4,hy4,h⟩:=bd h
   refine rx (c1<|cC (cR.ok hy4)<|c4<|c1<|.nil)<|pSeq<|wSeq ?_
   obtain⟨y5,hy5,h⟩:=bd h
   refine rdx hm (c6<|c1<|cp (oIdx u31 z73 hy5 tm tm) (s2 u u)<|c4<|cp (oBuildA (fs:=ju) (u:=⟨y4.1,y4.1,y4.1⟩) u ze202 u202 z3 po202 (.op (zc:=[(.int .i64 0)]) tm u (.op (zc:=[(.int .i64 0)]) tm u (.op (zc:=[(.int .i64 0)]) tm u .nil)))) (s3 u u u)<|cp (oBuild (fs:=fv) (u:=⟨a0,a2,y5,(⟨false,0,0⟩:al),(⟨false,0,0⟩:al),(⟨false,0,0⟩:al),0,(⟨y4.1,y4.1,y4.1⟩:S202)⟩) u ze204 pl204 po204 (.op (zc:=[(.slice none 0 0),(.slice none 0 0)]) tm u (.op (zc:=[(.int .i64 0),(.int .i64 0),(.slice none 0 0),(.slice none 0 0),(.slice none 0 0),(.slice none 0 0)]) tm u (.op (zc:=[(.int .i64 0),(.int .i64 0),(.int .i64 0)]) tm u (.ze (zc:=[(.bool false),(.int .i64 0),(.int .i64 0)]) db (.ze (zc:=[(.bool false),(.int .i64 0),(.int .i64 0)]) db (.ze (zc:=[(.bool false),(.int .i64 0),(.int .i64 0)]) db (.ze (zc:=[(.int .i64 0)]) zI_i64 (.op (zc:=[(.int .i64 0),(.int .i64 0),(.int .i64 0)]) tm u .nil))))))))) ⟨u,u,u,u,tv⟩<|cw (oBoxP (id:=47) (d:=(kR fv)) (ls:=[.d (kL kS) a0.Names,.d (kL (kI .u32)) a0.Up,.d ki a2.Pc.V,.d ki a2.Pc.L,.d (kL (kR ao)) a2.Code,.d (kL (kR ai)) a2.Mem,.d (kL (kR ak)) a2.Stack,.d (kL (kR ai)) a2.Out,.d ki y5.Op,.d ki y5.N,.d ki y5.L,.d kB false,.d ki 0,.d ki 0,.d kB false,.d ki 0,.d ki 0,.d kB false,.d ki 0,.d ki 0,.d ki 0,.d ki y4.1,.d ki y4.1,.d ki y4.1]) pt204 u tm) (s1 u)<|c1<|.nil)<|pSeq<|wSeq<|wT0<|wTk 0 1 (c1<|.nil) (by kernel_rfl) u ?_
   obtain⟨z6,hz6,h⟩:=bd h
   rcases z6 with p7|y8
   ·refine wTx (Γp:=[(6,.p 6 0),(7,.p 7 0)]) 1 u (oCallX (rest:=[.box 7 3 [.d ki 0],.box 6 35 [.d ki 0,.d ki 0,.d (kL (kR ao)) [],.d (kL (kR ai)) [],.d (kL (kR ak)) [],.d (kL (kR ai)) []]]) [(70000,47)] [0] [1,2] u (bG.okP hz6) b157 (oE1 tm oE0) u u) u u (s1 u) ⟨u,u,tv⟩<|pThenP ?_
    obtain rfl:=so h
    exact pDpan (n6:=1) (n7:=0) u u u (by kernel_rfl) (by kernel_rfl)
   ·refine wTe 1 (cm (oCallS (rest:=[.box 7 3 [.d ki 0],.box 6 35 [.d ki 0,.d ki 0,.d (kL (kR ao)) [],.d (kL (kR ai)) [],.d (kL (kR ak)) [],.d (kL (kR ai)) []]]) (R':=[.box 47 204 (L204 y8),.box 7 3 [.d ki 0],.box 6 35 [.d ki 0,.d ki 0,.d (kL (kR ao)) [],.d (kL (kR ai)) [],.d (kL (kR ak)) [],.d (kL (kR ai)) []]]) (out':=.d (tup [])) [(70000,47)] [] [0] [1,2] [0,1,2] u (bG.okR hz6) b157 (oE1 tm oE0) u u u u u u u u) (s1 u)<|.nil) (by kernel_rfl)<|pSeq<|wSeq<|wSeq<|rx (c4<|cr (oLdK (n:=0) (k:=8) u u (by kernel_rfl) t3 tm) (s1 u)<|c1<|.nil)<|pSeq ?_
    obtain⟨hp9,h⟩|⟨hp9,h⟩:=ik h
    ·refine wCT hp9.1 tm (s1 u)<|wT0<|wTk 0 1 (cp (oMkX 1 cb199 (cI (by decide))) tv<|.nil) (by kernel_rfl) u<|wTx (Γp:=[(6,.p 6 0),(7,.p 7 0)]) 1 u (oPanic tm) u u (s1 u) ⟨u,u,tv⟩<|pThenP ?_
     obtain rfl:=so h
     exact pDpan (n6:=2) (n7:=1) u u u (by kernel_rfl) (by kernel_rfl)
    ·refine wCF hp9.1 tm (s1 u)<|wSkip<|pSeq<|wSeq ?_
     obtain⟨y10,hy10,h⟩:=bd h
     refine rgL hm (c6<|cl [] u (oLdK (n:=0) (k:=8) u u (by kernel_rfl) t3 tm) (s1 u)<|cp (oIdx u26 z58 hy10 tm tm) (s2 u u)<|c1<|cn (oAlloc (id:=11) (ls:=Z58) ze58 zl58) tv<|cwn (oStA (n:=0) (fs:=aJ) u u z58 tm tm) (s2 u u)<|.nil) (by kernel_rfl) (by kernel_rfl) (by kernel_rfl)<|pSeq<|wSeq<|rdx hm (c6<|cp (oIdxA 0 0 u u202 z3 u tm (cI (by decide))) (s1 u)<|cr (oLdK (n:=1) (k:=21) u u (by kernel_rfl) t3 tm) (s1 u)<|c3<|cp (oIdxA 1 1 u u202 z3 u tm (cI (by decide))) (s1 u)<|cr (oLdK (n:=1) (k:=22) u u (by kernel_rfl) t3 tm) (s1 u)<|c3<|cp (oIdxA 2 2 u u202 z3 u tm (cI (by decide))) (s1 u)<|cr (oLdK (n:=1) (k:=23) u u (by kernel_rfl) t3 tm) (s1 u)<|cp (oLit (d:=ki) el56 (by decide) u u u (e1 tm (e1 tm (e1 tm (e1 tm e0))))) ⟨u,u,u,u,tv⟩<|c1<|.nil)<|pSeq<|wSeq<|wSeq ?_
     obtain⟨y11,hy11,h⟩:=bd h
     refine rx (c2<|cr (oLdB (n:=0) (k:=0) u u u t56 tm) (s1 u)<|c1<|cC (dU.ok hy11)<|c4<|c1<|.nil)<|pSeq<|wSeq<|rx (c2<|.nil)<|pSeq ?_
     obtain⟨hp12,h⟩|⟨hp12,h⟩:=ik h
     ·refine wBT hp12.1 tm (s1 u)<|wT0<|wTk 0 1 (cp (oMkX 2 cb199 (cI (by decide))) tv<|.nil) (by kernel_rfl) u<|wTx (Γp:=[(6,.p 6 0),(7,.p 7 0)]) 1 u (oPanic tm) u u (s1 u) ⟨u,u,tv⟩<|pThenP ?_
      obtain rfl:=so h
      exact pDpan (n6:=3) (n7:=2) u u u (by kernel_rfl) (by kernel_rfl)
     ·refine wBF hp12.1 tm (s1 u)<|wSkip<|pSeq<|wSeq ?_
      obtain⟨y13,hy13,h⟩:=bd h
      refine rx (c2<|cr (oLdB (n:=0) (k:=1) u u u t56 tm) (s1 u)<|c1<|cC (cT.ok hy13)<|c4<|c1<|.nil)<|pSeq<|wSeq ?_
      obtain⟨y14,hy14,h⟩:=bd h
      refine rx (c2<|cr (oLdB (n:=0) (k:=2) u u u t56 tm) (s1 u)<|c1<|cC (cT.ok hy14)<|c4<|c1<|.nil)<|pSeq<|wSeq ?_
      obtain⟨y15,hy15,h⟩:=bd h
      refine rx (c2<|cm (oCallS (rest:=[.box 11 58 (L58 y10),.box 7 3 [.d ki 0],.box 6 35 [.d ki 0,.d ki 0,.d (kL (kR ao)) [],.d (kL (kR ai)) [],.d (kL (kR ak)) [],.d (kL (kR ai)) []]]) (R':=[.box 11 58 (L58 y10),.box 47 204 (L204 y15),.box 7 3 [.d ki 0],.box 6 35 [.d ki 0,.d ki 0,.d (kL (kR ao)) [],.d (kL (kR ai)) [],.d (kL (kR ak)) [],.d (kL (kR ai)) []]]) (out':=.d (tup [])) [(70000,47)] [] [1] [0,2,3] [1,0,2,3] u (dn.ok hy15) b160 (oE1 tm (oE1 tm oE0)) u u u u u u u u) (s2 u u)<|.nil)<|pSeq<|wSeq<|rx (c6<|cwn (oStK (n:=1) (k:=3) u u u (by kernel_rfl) z3 tm tm) (s2 u u)<|.nil)<|pSeq<|wSeq ?_
      obtain⟨y16,hy16,h⟩:=bd h
      obtain⟨z17,hz17,h⟩:=bd h
      rcases z17 with p18|y19
      ·refine rgXD (Γp:=[(6,.p 6 0),(7,.p 7 0)]) hm (c4<|cr (oLdPK (n:=1) (k:=2) (m:=6) (d:=(kR ae)) (u:=(⟨⟨y15.s_.Pc.V,y14.1⟩,y15.s_.Code,y15.s_.Mem,y15.s_.Stack,y15.s_.Out⟩:aa)) pt35 u u (by kernel_rfl) t35 tm) (s1 u)<|cC (dW.ok hy16)<|cb (oCallX (rest:=[.box 11 58 (L58 y10),.box 47 204 [.d (kL kS) y15.l_.Names,.d (kL (kI .u32)) y15.l_.Up,.d ki y15.s_.Pc.V,.d ki y14.1,.d (kL (kR ao)) y15.s_.Code,.d (kL (kR ai)) y15.s_.Mem,.d (kL (kR ak)) y15.s_.Stack,.d (kL (kR ai)) y15.s_.Out,.d ki y15.x_.Op,.d ki y15.x_.N,.d ki y15.x_.L,.d kB y15.a_.Ret,.d ki y15.a_.V,.d ki y15.a_.L,.d kB y15.b_.Ret,.d ki y15.b_.V,.d ki y15.b_.L,.d kB y15.r_.Ret,.d ki y15.r_.V,.d ki y15.r_.L,.d ki y15.below_,.d ki y15.one_.x0_,.d ki y15.one_.x1_,.d ki y15.one_.x2_],.box 7 3 [.d ki 0],.box 6 35 [.d ki 0,.d ki 0,.d (kL (kR ao)) [],.d (kL (kR ai)) [],.d (kL (kR ak)) [],.d (kL (kR ai)) []]]) [] [] [0,1,2,3] u (bF.okP hz17) b155 (oE1 tm oE0) u u) (s1 u)<|.nil) (by kernel_rfl) (by kernel_rfl) ⟨u,u,tv⟩<|pThenP ?_
       obtain rfl:=so h
       exact pDpan (n6:=3) (n7:=2) u u u (by kernel_rfl) (by kernel_rfl)
      ·refine rdx hm (c4<|cr (oLdPK (n:=1) (k:=2) (m:=6) (d:=(kR ae)) (u:=(⟨⟨y15.s_.Pc.V,y14.1⟩,y15.s_.Code,y15.s_.Mem,y15.s_.Stack,y15.s_.Out⟩:aa)) pt35 u u (by kernel_rfl) t35 tm) (s1 u)<|cC (dW.ok hy16)<|cm (oCallS (rest:=[.box 11 58 (L58 y10),.box 47 204 [.d (kL kS) y15.l_.Names,.d (kL (kI .u32)) y15.l_.Up,.d ki y15.s_.Pc.V,.d ki y14.1,.d (kL (kR ao)) y15.s_.Code,.d (kL (kR ai)) y15.s_.Mem,.d (kL (kR ak)) y15.s_.Stack,.d (kL (kR ai)) y15.s_.Out,.d ki y15.x_.Op,.d ki y15.x_.N,.d ki y15.x_.L,.d kB y15.a_.Ret,.d ki y15.a_.V,.d ki y15.a_.L,.d kB y15.b_.Ret,.d ki y15.b_.V,.d ki y15.b_.L,.d kB y15.r_.Ret,.d ki y15.r_.V,.d ki y15.r_.L,.d ki y15.below_,.d ki y15.one_.x0_,.d ki y15.one_.x1_,.d ki y15.one_.x2_],.box 7 3 [.d ki 0],.box 6 35 [.d ki 0,.d ki 0,.d (kL (kR ao)) [],.d (kL (kR ai)) [],.d (kL (kR ak)) [],.d (kL (kR ai)) []]]) (R':=[.box 11 58 (L58 y10),.box 47 204 [.d (kL kS) y15.l_.Names,.d (kL (kI .u32)) y15.l_.Up,.d ki y15.s_.Pc.V,.d ki y14.1,.d (kL (kR ao)) y15.s_.Code,.d (kL (kR ai)) y15.s_.Mem,.d (kL (kR ak)) y15.s_.Stack,.d (kL (kR ai)) y15.s_.Out,.d ki y15.x_.Op,.d ki y15.x_.N,.d ki y15.x_.L,.d kB y15.a_.Ret,.d ki y15.a_.V,.d ki y15.a_.L,.d kB y15.b_.Ret,.d ki y15.b_.V,.d ki y15.b_.L,.d kB y15.r_.Ret,.d ki y15.r_.V,.d ki y15.r_.L,.d ki y15.below_,.d ki y15.one_.x0_,.d ki y15.one_.x1_,.d ki y15.one_.x2_],.box 7 3 [.d ki 0],.box 6 35 [.d ki 0,.d ki 0,.d (kL (kR ao)) [],.d (kL (kR ai)) [],.d (kL (kR ak)) [],.d (kL (kR ai)) []]]) (out':=.d (tup [])) [] [] [] [0,1,2,3] [0,1,2,3] u (bF.okR hz17) b155 (oE1 tm oE0) u u u u u u u u) (s1 u)<|.nil)<|pSeq<|wSeq<|rx (c3<|cr (oLdPK (n:=1) (k:=2) (m:=6) (d:=(kR ae)) (u:=(⟨⟨y15.s_.Pc.V,y14.1⟩,y15.s_.Code,y15.s_.Mem,y15.s_.Stack,y15.s_.Out⟩:aa)) pt35 u u (by kernel_rfl) t35 tm) (s1 u)<|cwn (oStP (n:=3) (k:=0) (m:=6) (d:=(kR ae)) (u:=(⟨⟨y15.s_.Pc.V,y14.1⟩,y15.s_.Code,y15.s_.Mem,y15.s_.Stack,y15.s_.Out⟩:aa)) pt35 u u u z35 tm tm) (s2 u u)<|cwn (oSt (n:=2) (k:=0) u u u u z3 tm (cI (by decide))) (s1 u)<|.nil)<|pSeq<|wRet ?_
       obtain rfl:=so h
       exact pDret (.inl u) (.boxP (n:=3) (d:=(kR ae)) (u:=(⟨⟨y15.s_.Pc.V,y14.1⟩,y15.s_.Code,y15.s_.Mem,y15.s_.Stack,y15.s_.Out⟩:aa)) u u pt35 u t35<|.boxV (n:=2) u u t3<|.nil)
theorem dM.ok{a0:ab} {a1:aZ} {a2:aa} {r:aa×Int×Int}(h:dM.f a0 a1 a2=some r):FnA PP 74 [(kR aj).sig a0,(kR aL).sig a1,(kR ae).sig a2] (tup [(kR ae).sig r.1,ki.sig r.2.1,ki.sig r.2.2]):=by
 refine fnIntro Tryz.func74 u (by kernel_rfl) fun H0 w0=>?_
 unfold dM.f at h
 refine wSeq<|rx (c3<|cw (oAlloc (id:=6) (ls:=Z35) ze35 zl35) tv<|c2<|.nil)<|pSeq<|wSeq<|wSeq ?_
 obtain⟨y1,hy1,h⟩:=bd h
 refine rx (c1<|cC (bK.ok hy1)<|c1<|.nil)<|pSeq<|wSeq<|rx (c2<|.nil)<|pSeq ?_
 obtain⟨hp2,h⟩|⟨hp2,h⟩:=ik h
 ·refine wNT hp2.1 tm (s1 u)<|wSkip<|pSeq<|wSeq<|wSeq ?_
  obtain⟨y3,hy3,h⟩:=bd h
  refine rx (c1<|cC (di.ok hy3)<|c4<|c1<|.nil)<|pSeq<|wSeq<|rx (c2<|.nil)<|pSeq ?_
  obtain⟨hp4,h⟩|⟨hp4,h⟩:=ik h
  ·refine wNT hp4.1 tm (s1 u)<|wSkip<|pSeq<|wSeq<|wSeq ?_
   obtain⟨y5,hy5,h⟩:=bd h
   refine rx (c2<|cC (dW.ok hy5)<|c1<|.nil)<|pSeq ?_
   obtain⟨hp6,h⟩|⟨hp6,h⟩:=ik h
   ·refine wBT hp6.1 tm (s1 u)<|wSeq<|rx (cp (oBuild (fs:=ae) (u:=⟨(⟨0,0⟩:am),[],[],[],[]⟩) u ze35 pl35 po35 (.ze (zc:=[(.int .i64 0),(.int .i64 0)]) fy (.ze (zc:=[(.slice none 0 0)]) zL (.ze (zc:=[(.slice none 0 0)]) zL (.ze (zc:=[(.slice none 0 0)]) zL (.ze (zc:=[(.slice none 0 0)]) zL .nil)))))) tv<|cwn (oStP (n:=0) (k:=0) (m:=6) (d:=(kR ae)) (u:=(⟨(⟨0,0⟩:am),[],[],[],[]⟩:aa)) pt35 u u u z35 tm tm) (s2 u u)<|c2<|.nil)<|pSeq<|wRet<|pThenR ?_
    obtain rfl:=so h
    exact pRn (.inl u) u u (.boxP (n:=0) (d:=(kR ae)) (u:=(⟨⟨0,0⟩,[],[],[],[]⟩:aa)) u u pt35 u t35<|.tmp u<|.tmp u<|.nil)
   ·refine wBF hp6.1 tm (s1 u)<|wSkip<|pSeq<|wSeq ?_
    obtain⟨y7,hy7,h⟩:=bd h
    refine rx (c3<|cC (cW.ok hy7)<|c3<|cw (oAlloc (id:=12) (ls:=Z35) ze35 zl35) tv<|cwn (oStP (n:=0) (k:=0) (m:=6) (d:=(kR ae)) (u:=y7.1) pt35 u u u z35 tm tm) (s2 u u)<|c1<|.nil)<|pSeq<|wSeq<|rx (cr (oLdP (n:=0) (k:=0) (m:=6) (d:=(kR ae)) (u:=y7.1) pt35 u u u t35 tm) (s1 u)<|c1<|cwn (oStP (n:=1) (k:=0) (m:=6) (d:=(kR ae)) (u:=y7.1) pt35 u u u z35 tm tm) (s2 u u)<|c2<|.nil)<|pSeq<|wRet ?_
    obtain rfl:=so h
    exact pRn (.inl u) u u (.boxP (n:=1) (d:=(kR ae)) (u:=y7.1) u u pt35 u t35<|.tmp u<|.tmp u<|.nil)
  ·refine wNF hp4.1 tm (s1 u)<|wSeq<|rx (cp (oBuild (fs:=ae) (u:=⟨(⟨0,0⟩:am),[],[],[],[]⟩) u ze35 pl35 po35 (.ze (zc:=[(.int .i64 0),(.int .i64 0)]) fy (.ze (zc:=[(.slice none 0 0)]) zL (.ze (zc:=[(.slice none 0 0)]) zL (.ze (zc:=[(.slice none 0 0)]) zL (.ze (zc:=[(.slice none 0 0)]) zL .nil)))))) tv<|c1<|cwn (oStP (n:=0) (k:=0) (m:=6) (d:=(kR ae)) (u:=(⟨(⟨0,0⟩:am),[],[],[],[]⟩:aa)) pt35 u u u z35 tm tm) (s2 u u)<|c2<|.nil)<|pSeq<|wRet<|pThenR ?_
   obtain rfl:=so h
   exact pRn (.inl u) u u (.boxP (n:=0) (d:=(kR ae)) (u:=(⟨⟨0,0⟩,[],[],[],[]⟩:aa)) u u pt35 u t35<|.tmp u<|.tmp u<|.nil)
 ·refine wNF hp2.1 tm (s1 u)<|wSeq<|rx (cp (oBuild (fs:=ae) (u:=⟨(⟨0,0⟩:am),[],[],[],[]⟩) u ze35 pl35 po35 (.ze (zc:=[(.int .i64 0),(.int .i64 0)]) fy (.ze (zc:=[(.slice none 0 0)]) zL (.ze (zc:=[(.slice none 0 0)]) zL (.ze (zc:=[(.slice none 0 0)]) zL (.ze (zc:=[(.slice none 0 0)]) zL .nil)))))) tv<|c1<|cwn (oStP (n:=0) (k:=0) (m:=6) (d:=(kR ae)) (u:=(⟨(⟨0,0⟩:am),[],[],[],[]⟩:aa)) pt35 u u u z35 tm tm) (s2 u u)<|c2<|.nil)<|pSeq<|wRet<|pThenR ?_
  obtain rfl:=so h
  exact pRn (.inl u) u u (.boxP (n:=0) (d:=(kR ae)) (u:=(⟨⟨0,0⟩,[],[],[],[]⟩:aa)) u u pt35 u t35<|.tmp u<|.tmp u<|.nil)
theorem fl.ok{a0:ab} {a1:aZ} {a2:aa} {a3:Int} {r:Int}(h:fl.f a0 a1 a2 a3=some r):FnA PP 36 [(kR aj).sig a0,(kR aL).sig a1,(kR ae).sig a2,ki.sig a3] (ki.sig r):=by
 refine fnIntro Tryz.func36 u (by kernel_rfl) fun H0 w0=>?_
 unfold fl.f at h
 refine wSeq<|rx (c4<|.nil)<|pSeq<|wSeq<|wSeq ?_
 obtain⟨y1,hy1,h⟩:=bd h
 refine rx (c3<|cC (dM.ok hy1)<|c4<|cw (oAlloc (id:=9) (ls:=Z35) ze35 zl35) tv<|cwn (oStP (n:=0) (k:=0) (m:=6) (d:=(kR ae)) (u:=y1.1) pt35 u u u z35 tm tm) (s2 u u)<|c2<|.nil)<|pSeq<|wSeq<|rx (c2<|.nil)<|pSeq ?_
 obtain⟨hp2,h⟩|⟨hp2,h⟩:=ik h
 ·refine wNT hp2.1 tm (s1 u)<|wSkip<|pSeq<|wSeq ?_
  obtain⟨o1,h,hk1⟩:=bd h
  refine wJ1 (fun x4=>x4=o1) (fun x4=>[(28,.d (kB.sig x4))]) (fun x4=>[.box 9 35 (L35 y1.1)]) ?_ ?_
  ·obtain⟨hp5,h⟩|⟨hp5,h⟩:=ik h
   ·exact rx (c6<|.nil)<|pJ1 _ (so h) (sb u) u
   ·exact rx (c6<|.nil)<|pJ1 _ (so h) (sb u) u
  ·rintro x4 rfl
   replace h:=hk1
   obtain⟨hp6,h⟩|⟨hp6,h⟩:=ik h
   ·refine wBT hp6.1 tm (s1 u)<|wSeq<|rx (c1<|.nil)<|pSeq<|wRet<|pThenR ?_
    obtain rfl:=so h
    exact pR1 (.inl u) u (.tmp u<|.nil)
   ·refine wBF hp6.1 tm (s1 u)<|wSkip<|pSeq<|wSeq<|rx (c1<|.nil)<|pSeq<|wRet ?_
    obtain rfl:=so h
    exact pR1 (.inl u) u (.tmp u<|.nil)
 ·refine wNF hp2.1 tm (s1 u)<|wSeq<|rx (c2<|.nil)<|pSeq<|wRet<|pThenR ?_
  obtain rfl:=so h
  exact pR1 (.inl u) u (.tmp u<|.nil)
theorem bt.ok{a1:Int} {a2:ab} {a3:aZ} {a4:aa}:FnYN PP 75 (fun z=>(kR ae).sig z) (fun z=>ki.sig z) [.d (sP ki a1),.d (sP (kR aj) a2),.d (sP (kR aL) a3),.p 70400 0] [.box 70400 35 (L35 a4)] (fun {σ} a_y a_s=>bt.f a_y a_s a1 a2 a3 a4):=by
 refine fnIntroYN 7777 Tryz.func75 u (by kernel_rfl) u (fun σ A a_y a_s a_r h bs X H0 w0=>?_)
 replace h:bt.f a_y a_s a1 a2 a3 a4=some a_r:=h
 unfold bt.f at h
 refine wSeq<|wSeq<|rx (c2<|.nil)<|pSeq ?_
 obtain⟨o1,h,hk1⟩:=bd h
 refine wK2 (fun x22 x23=>.inr (x22,x23)=o1) (fun x22 x23=>[(0,.d (sYield PP A a_y (fun z=>(kR ae).sig z) (fun z=>ki.sig z))),(4,.p 70400 0)]) (fun x22 x23=>[.abs 7777 A x23,.box 70400 35 (L35 x22)]) ?_ ?_
 ·refine wBlock (wLoop ?_)
  refine lW (pc3 o1 (fun v19 v20 v21=>[(0,.d (sYield PP A a_y (fun z=>(kR ae).sig z) (fun z=>ki.sig z))),(2,.d (sP (kR aj) a2)),(3,.d (sP (kR aL) a3)),(4,.p 70400 0),(9,.d (ki.sig a1)),(10,.d (ki.sig v21))]) (fun v19 v20 v21=>[.abs 7777 A v20,.box 70400 35 (L35 v19)]) (bt.l0.partial_correctness a_y a1 a2 a3) ?_ _ _ _ h) ⟨u,u,u,u,u,u,tv⟩ u
  clear h
  intro f' ih v19 v20 v21 h
  refine wSeq<|rx (c1<|.nil)<|pSeq<|wSeq ?_
  obtain⟨hp24,h⟩|⟨hp24,h⟩:=ik h
  ·refine wCT hp24.1 tm (s1 u)<|wSkip<|pSeq<|wSeq<|wBlock<|wSeq ?_
   obtain⟨y25,hy25,h⟩:=bd h
   refine rx (c2<|cr (oLdP (n:=1) (k:=0) (m:=6) (d:=(kR ae)) (u:=v19) pt35 u u u t35 tm) (s1 u)<|cC (dM.ok hy25)<|c4<|cw (oAlloc (id:=6) (ls:=Z35) ze35 zl35) tv<|cwn (oStP (n:=0) (k:=0) (m:=6) (d:=(kR ae)) (u:=y25.1) pt35 u u u z35 tm tm) (s2 u u)<|c2<|.nil)<|pSeq<|wSeq ?_
   obtain⟨o2,h,hk2⟩:=bd h
   refine wJ2 (fun x28 x29=>(x28,x29)=o2) (fun x28 x29=>[(0,.d (sYield PP A a_y (fun z=>(kR ae).sig z) (fun z=>ki.sig z))),(2,.d (sP (kR aj) a2)),(3,.d (sP (kR aL) a3)),(4,.p 70400 0),(6,.p 6 0),(9,.d (ki.sig a1)),(10,.d (ki.sig v21)),(28,.d (kB.sig x29))]) (fun x28 x29=>[.box 6 35 (L35 y25.1),.abs 7777 A x28,.box 70400 35 (L35 v19)]) ?_ ?_
   ·obtain⟨y30,hy30,h⟩:=bd h
    obtain⟨hp31,h⟩|⟨hp31,h⟩:=ik h
    ·exact rx (c1<|cr (oLdP (n:=2) (k:=0) (m:=6) (d:=(kR ae)) (u:=v19) pt35 u u u t35 tm) (s1 u)<|c1<|cm (oYield (n:=1) (id':=23) u hy30 tm tm tm) (s3 u u u)<|c4<|c1<|.nil)<|pSub (Γ':=[(0,.d (sYield PP A a_y (fun z=>(kR ae).sig z) (fun z=>ki.sig z))),(2,.d (sP (kR aj) a2)),(3,.d (sP (kR aL) a3)),(4,.p 70400 0),(6,.p 6 0),(9,.d (ki.sig a1)),(10,.d (ki.sig v21)),(28,.d (kB.sig true))]) (sb u)<|pRen 23 7777 u<|pJ2 _ _ (so h) (sb u) u
    ·exact rx (c1<|cr (oLdP (n:=2) (k:=0) (m:=6) (d:=(kR ae)) (u:=v19) pt35 u u u t35 tm) (s1 u)<|c1<|cm (oYield (n:=1) (id':=23) u hy30 tm tm tm) (s3 u u u)<|c4<|c1<|.nil)<|pSub (Γ':=[(0,.d (sYield PP A a_y (fun z=>(kR ae).sig z) (fun z=>ki.sig z))),(2,.d (sP (kR aj) a2)),(3,.d (sP (kR aL) a3)),(4,.p 70400 0),(6,.p 6 0),(9,.d (ki.sig a1)),(10,.d (ki.sig v21)),(28,.d (kB.sig (!decide (y25.2.1=0))))]) (sb u)<|pRen 23 7777 u<|pJ2 _ _ (so h) (sb u) u
   ·rintro x28 x29 rfl
    replace h:=hk2
    obtain⟨hp32,h⟩|⟨hp32,h⟩:=ik h
    ·refine wBT hp32.1 tm (s1 u)<|wRet<|pThenR<|pBlkR<|pThenR<|pThenR<|pBlkR<|pThenR ?_
     obtain rfl:=so h
     replace h:=hk1
     refine pThenR ?_
     obtain rfl:=so h
     exact pRYN (n:=1) (.inl u) u u u
    ·exact wBF hp32.1 tm (s1 u)<|wSkip<|pSeq<|rx (cr (oLdP (n:=0) (k:=0) (m:=6) (d:=(kR ae)) (u:=y25.1) pt35 u u u t35 tm) (s1 u)<|cwn (oStP (n:=2) (k:=0) (m:=6) (d:=(kR ae)) (u:=y25.1) pt35 u u u z35 tm tm) (s2 u u)<|.nil)<|pBlkN<|pSeq<|rx (c2<|.nil)<|pDrop (.cons _ (.cons_cons _ (.cons_cons _ .slnil)))<|pLoop (lW (ih _ _ _ h) ⟨u,u,u,u,u,u,tv⟩ u)
  ·exact wCF hp24.1 tm (s1 u)<|wExit<|pThenX<|pThenX<|pBlkX<|pJ2 _ _ (so h) (sb u) u
 ·rintro x22 x23 rfl
  replace h:=hk1
  refine pSeq ?_
  obtain⟨y33,hy33,h⟩:=bd h
  refine rx (c1<|cr (oLdP (n:=1) (k:=0) (m:=6) (d:=(kR ae)) (u:=x22) pt35 u u u t35 tm) (s1 u)<|cm (oYield (n:=0) (id':=33) u hy33 tm tm (cI (by decide))) (s2 u u)<|.nil) ?_
  obtain rfl:=so h
  exact pRYN (n:=0) (.inr u) u u u
theorem fk.ok{a0:ab} {a1:aZ} {a2:aa} {a3:Int} {r:Int×ab×aZ×aa}(h:fk.f a0 a1 a2 a3=some r):FnS PP 37 [.d ((kR aj).sig a0),.d ((kR aL).sig a1),.d ((kR ae).sig a2),.d (ki.sig a3)] [] [] (.f [6] (sCloN 75 [some (sP ki r.1),some (sP (kR aj) r.2.1),some (sP (kR aL) r.2.2.1),none])) [.box 6 35 (L35 r.2.2.2)]:=by
 refine fnIntroS Tryz.func37 u (by kernel_rfl) fun X H0 w0 pv=>?_
 unfold fk.f at h
 refine wSeq<|rx (c2<|cw (oBoxP (id:=6) (d:=(kR ae)) (ls:=[.d ki a2.Pc.V,.d ki a2.Pc.L,.d (kL (kR ao)) a2.Code,.d (kL (kR ai)) a2.Mem,.d (kL (kR ak)) a2.Stack,.d (kL (kR ai)) a2.Out]) pt35 u tm) (s1 u)<|c1<|cp (oAs cV) tv<|.nil)<|pSeq<|wSeq<|rx (cp (oMkN (ids:=[6]) (caps:=[some (sP ki a3),some (sP (kR aj) a0),some (sP (kR aL) a1),none]) u (oNs tm (oNs tm (oNs tm (oNp tm oN0))))) ⟨u,u,u,u,tv⟩<|c1<|.nil)<|pSeq<|wRet ?_
 obtain rfl:=so h
 exact pSF [0] u u (.inl u) u u
theorem cJ.ok{a0:ab} {a1:aZ} {a2:aa} {a3:Int} {r:aa×Int×Int}(h:cJ.f a0 a1 a2 a3=some r):FnA PP 18 [(kR aj).sig a0,(kR aL).sig a1,(kR ae).sig a2,ki.sig a3] (tup [(kR ae).sig r.1,ki.sig r.2.1,ki.sig r.2.2]):=by
 refine fnIntro Tryz.func18 u (by kernel_rfl) fun H0 w0=>?_
 unfold cJ.f at h
 refine wSeq<|rx (c2<|cw (oBoxP (id:=6) (d:=(kR ae)) (ls:=[.d ki a2.Pc.V,.d ki a2.Pc.L,.d (kL (kR ao)) a2.Code,.d (kL (kR ai)) a2.Mem,.d (kL (kR ak)) a2.Stack,.d (kL (kR ai)) a2.Out]) pt35 u tm) (s1 u)<|cw (oAlloc (id:=8) (ls:=Z35) ze35 zl35) tv<|c2<|.nil)<|pSeq<|wSeq<|wSeq ?_
 obtain⟨y1,hy1,h⟩:=bd h
 refine rx (c2<|cr (oLdP (n:=1) (k:=0) (m:=6) (d:=(kR ae)) (u:=a2) pt35 u u u t35 tm) (s1 u)<|c1<|cC (fl.ok hy1)<|c1<|.nil)<|pSeq<|wSeq<|rx (c2<|.nil)<|pSeq ?_
 obtain⟨hp2,h⟩|⟨hp2,h⟩:=ik h
 ·refine wNT hp2.1 tm (s1 u)<|wSkip<|pSeq<|wSeq<|rx (cw (oAlloc (id:=12) (ls:=[.d ki 0]) ze3 (fun g=>⟨[(.int .i64 0)],_,u,zI_i64 g.H,u⟩)) tv<|cwn (oSt (n:=0) (k:=0) u u u u z3 tm (cI (by decide))) (s1 u)<|.nil)<|pSeq<|wSeq<|wSeq ?_
  obtain⟨y3,hy3,h⟩:=bd h
  refine rx (c2<|cr (oLdP (n:=2) (k:=0) (m:=6) (d:=(kR ae)) (u:=a2) pt35 u u u t35 tm) (s1 u)<|c1<|cm (oCallS (rest:=[.box 12 3 [.d ki 0],.box 8 35 [.d ki 0,.d ki 0,.d (kL (kR ao)) [],.d (kL (kR ai)) [],.d (kL (kR ak)) [],.d (kL (kR ai)) []],.box 6 35 (L35 a2)]) (R':=[.box 350160 35 (L35 y3.2.2.2),.box 12 3 [.d ki 0],.box 8 35 [.d ki 0,.d ki 0,.d (kL (kR ao)) [],.d (kL (kR ai)) [],.d (kL (kR ak)) [],.d (kL (kR ai)) []],.box 6 35 (L35 a2)]) (out':=.f [350160] (sCloN 75 [some (sP ki y3.1),some (sP (kR aj) y3.2.1),some (sP (kR aL) y3.2.2.1),none])) [] [(6,350160)] [] [0,1,2] [0,1,2,3] u (fk.ok hy3) b37 (oE1 tm (oE1 tm (oE1 tm (oE1 tm oE0)))) u u u u u u u u) ⟨u,u,u,u,tv⟩<|.nil)<|pSeq<|wBlock<|wPick (R':=[.box 12 3 [.d ki 0],.box 8 35 [.d ki 0,.d ki 0,.d (kL (kR ao)) [],.d (kL (kR ai)) [],.d (kL (kR ak)) [],.d (kL (kR ai)) []],.box 6 35 (L35 a2),.box 350160 35 (L35 y3.2.2.2)]) [1,2,3,0] u u ?_
  obtain⟨y7,hy7,h⟩:=bd h
  refine wRangeN (Γ':=[(6,.p 6 0),(8,.p 8 0),(12,.p 12 0)]) (Γ2:=fun v5 v6=>[(6,.p 6 0),(8,.p 8 0),(12,.p 12 0),(13,.p 13 0),(14,.d (ki.sig v6))]) (caps:=[some (sP ki y3.1),some (sP (kR aj) y3.2.1),some (sP (kR aL) y3.2.2.1),none]) (kn:=[70400]) (Rc:=[.box 70400 35 (L35 y3.2.2.2)]) [(70400,350160)] (fun(v4:aa×Int×Int×Int×(List ap)×(List am)×(List al)×(List am))=>[.box 12 3 [.d ki v4.2.1],.box 8 35 [.d ki 0,.d ki 0,.d (kL (kR ao)) [],.d (kL (kR ai)) [],.d (kL (kR ak)) [],.d (kL (kR ai)) []],.box 6 35 (L35 v4.1)]) (fun(v4:aa×Int×Int×Int×(List ap)×(List am)×(List al)×(List am)) v5 v6=>[.box 13 35 (L35 v5),.box 12 3 [.d ki v4.2.1],.box 8 35 [.d ki 0,.d ki 0,.d (kL (kR ao)) [],.d (kL (kR ai)) [],.d (kL (kR ak)) [],.d (kL (kR ai)) []],.box 6 35 (L35 v4.1)]) [] [6,8,12] (cJ.y0) (a2,0,a2.Pc.V,a2.Pc.L,a2.Code,a2.Mem,a2.Stack,a2.Out) u (bt.ok (a1:=y3.1) (a2:=y3.2.1) (a3:=y3.2.2.1) (a4:=y3.2.2.2)) u b75 hy7 u ⟨u,u,u,tv⟩ u u u ?_ ?_ ?_
  ·intro X H0 w0 l pv v4 v5 v6
   exact wSeq<|rx (cw (oAlloc (id:=13) (ls:=Z35) ze35 zl35) tv<|cwn (oStP (n:=0) (k:=0) (m:=6) (d:=(kR ae)) (u:=v5) pt35 u u u z35 tm tm) (s2 u u)<|.nil)<|pSeq<|rx (c1<|.nil)<|qA ⟨u,u,u,u,u,tv⟩
  ·intro X H0 w0 l pv v4 v5 v6 o h
   unfold cJ.y0 at h
   refine wBlock<|rx (cr (oLdP (n:=0) (k:=0) (m:=6) (d:=(kR ae)) (u:=v5) pt35 u u u t35 tm) (s1 u)<|c1<|cwn (oStP (n:=3) (k:=0) (m:=6) (d:=(kR ae)) (u:=v5) pt35 u u u z35 tm tm) (s2 u u)<|cwn (oSt (n:=1) (k:=0) u u u u z3 tm tm) (s2 u u)<|.nil)<|pBlkN<|pDrop (.cons _ (.cons_cons _ (.cons_cons _ (.cons_cons _ .slnil)))) ?_
   obtain rfl:=so h
   exact qN
  ·obtain⟨hj7,h⟩|⟨hj7,h⟩:=ic h
   ·refine jp0 hj7<|pBlkN<|pSeq<|wSeq<|wFrzV 12 (n:=0) (id:=12) u u u<|rdx hm (cr (oLdP (n:=1) (k:=0) (m:=6) (d:=(kR ae)) (u:=y7.1.1) pt35 u u u t35 tm) (s1 u)<|c1<|cwn (oStP (n:=0) (k:=0) (m:=6) (d:=(kR ae)) (u:=y7.1.1) pt35 u u u z35 tm tm) (s2 u u)<|c2<|.nil)<|pSeq<|wRet ?_
    obtain rfl:=so h
    exact pRn (.inl u) u u (.boxP (n:=0) (d:=(kR ae)) (u:=y7.1.1) u u pt35 u t35<|.tmp u<|.tmp u<|.nil)
   ·cases h
 ·refine wNF hp2.1 tm (s1 u)<|wSeq<|rx (cp (oBuild (fs:=ae) (u:=⟨(⟨0,0⟩:am),[],[],[],[]⟩) u ze35 pl35 po35 (.ze (zc:=[(.int .i64 0),(.int .i64 0)]) fy (.ze (zc:=[(.slice none 0 0)]) zL (.ze (zc:=[(.slice none 0 0)]) zL (.ze (zc:=[(.slice none 0 0)]) zL (.ze (zc:=[(.slice none 0 0)]) zL .nil)))))) tv<|c1<|cwn (oStP (n:=0) (k:=0) (m:=6) (d:=(kR ae)) (u:=(⟨(⟨0,0⟩:am),[],[],[],[]⟩:aa)) pt35 u u u z35 tm tm) (s2 u u)<|c2<|.nil)<|pSeq<|wRet<|pThenR ?_
  obtain rfl:=so h
  exact pRn (.inl u) u u (.boxP (n:=0) (d:=(kR ae)) (u:=(⟨⟨0,0⟩,[],[],[],[]⟩:aa)) u u pt35 u t35<|.tmp u<|.tmp u<|.nil)
theorem gL.ok{a0:ab} {a1:aZ} {a2:aa} {a3:Int} {r:(List aa)×Int×Int}(h:gL.f a0 a1 a2 a3=some r):FnA PP 67 [(kR aj).sig a0,(kR aL).sig a1,(kR ae).sig a2,ki.sig a3] (tup [(kL (kR ae)).sig r.1,ki.sig r.2.1,ki.sig r.2.2]):=by
 refine fnIntro Tryz.func67 u (by kernel_rfl) fun H0 w0=>?_
 unfold gL.f at h
 refine wSeq<|rx (c3<|cp (oAs cV) tv<|c2<|.nil)<|pSeq<|wSeq<|wSeq ?_
 obtain⟨y1,hy1,h⟩:=bd h
 refine rx (c4<|cC (fl.ok hy1)<|c1<|.nil)<|pSeq<|wSeq<|rx (c2<|.nil)<|pSeq ?_
 obtain⟨hp2,h⟩|⟨hp2,h⟩:=ik h
 ·refine wNT hp2.1 tm (s1 u)<|wSkip<|pSeq<|wSeq<|rx (cw (oAlloc (id:=12) (ls:=[.d (kN aa) []]) ze49 (fun g=>⟨[(.slice none 0 0)],_,u,zN g.H,u⟩)) tv<|.nil)<|pSeq<|wSeq<|rx (cw (oAlloc (id:=13) (ls:=[.d ki 0]) ze3 (fun g=>⟨[(.int .i64 0)],_,u,zI_i64 g.H,u⟩)) tv<|cwn (oSt (n:=0) (k:=0) u u u u z3 tm (cI (by decide))) (s1 u)<|.nil)<|pSeq<|wSeq<|wSeq ?_
  obtain⟨y3,hy3,h⟩:=bd h
  refine rx (c4<|cm (oCallS (rest:=[.box 13 3 [.d ki 0],.box 12 49 [.d (kN aa) []]]) (R':=[.box 360160 35 (L35 y3.2.2.2),.box 13 3 [.d ki 0],.box 12 49 [.d (kN aa) []]]) (out':=.f [360160] (sCloN 75 [some (sP ki y3.1),some (sP (kR aj) y3.2.1),some (sP (kR aL) y3.2.2.1),none])) [] [(6,360160)] [] [0,1] [0,1,2] u (fk.ok hy3) b37 (oE1 tm (oE1 tm (oE1 tm (oE1 tm oE0)))) u u u u u u u u) ⟨u,u,u,u,tv⟩<|.nil)<|pSeq<|wBlock<|wPick (R':=[.box 13 3 [.d ki 0],.box 12 49 [.d (kN aa) []],.box 360160 35 (L35 y3.2.2.2)]) [1,2,0] u u<|wNilL (kR ae) 35 5600 (n:=1) (k:=0) u u u ?_
  obtain⟨y10,hy10,h⟩:=bd h
  refine wRangeN (Γ':=[(12,.p 12 0),(13,.p 13 0)]) (Γ2:=fun v7 v8=>[(12,.p 12 0),(13,.p 13 0),(14,.p 14 0),(15,.d (ki.sig v8))]) (caps:=[some (sP ki y3.1),some (sP (kR aj) y3.2.1),some (sP (kR aL) y3.2.2.1),none]) (kn:=[70400]) (Rc:=[.box 70400 35 (L35 y3.2.2.2)]) [(70400,360160)] (fun(v6:Int×(List aa))=>[.row 5600 35 (kR ae) v6.2,.box 13 3 [.d ki v6.1],.box 12 49 [.v 5600]]) (fun(v6:Int×(List aa)) v7 v8=>[.box 14 35 (L35 v7),.row 5600 35 (kR ae) v6.2,.box 13 3 [.d ki v6.1],.box 12 49 [.v 5600]]) [] [12,13] (gL.y0) (0,([]:List aa)) u (bt.ok (a1:=y3.1) (a2:=y3.2.1) (a3:=y3.2.2.1) (a4:=y3.2.2.2)) u b75 hy10 u ⟨u,u,tv⟩ u u u ?_ ?_ ?_
  ·intro X H0 w0 l pv v6 v7 v8
   exact wSeq<|rx (cw (oAlloc (id:=14) (ls:=Z35) ze35 zl35) tv<|cwn (oStP (n:=0) (k:=0) (m:=6) (d:=(kR ae)) (u:=v7) pt35 u u u z35 tm tm) (s2 u u)<|.nil)<|pSeq<|rx (c1<|.nil)<|qA ⟨u,u,u,u,tv⟩
  ·intro X H0 w0 l pv v6 v7 v8 o h
   unfold gL.y0 at h
   refine wBlock ?_
   obtain⟨hc9,h⟩:=ib h
   refine rx (cr (oLdN (n:=3) (k:=0) u u u t49 tm) (s1 u)<|cr (oLdP (n:=0) (k:=0) (m:=6) (d:=(kR ae)) (u:=v7) pt35 u u u t35 tm) (s1 u)<|cp (oLit (d:=(kR ae)) el49 (by decide) u u u (e1 tm e0)) (s1 u)<|cw (oApp (n:=1) (id':=34) el49 (by decide) u (by decide) hc9 tm tm) (s2 u u)<|c1<|cwn (oStN (n:=3) (m:=1) (k:=0) u u u u z49 u tm tm) (s2 u u)<|cwn (oSt (n:=2) (k:=0) u u u u z3 tm tm) (s2 u u)<|.nil)<|pBlkN<|pDrop (.cons _ (.cons_cons _ (.cons_cons _ (.cons_cons _ .slnil))))<|pSub (Γ':=[]) tv<|pRen 34 5600 u ?_
   obtain rfl:=so h
   exact qN
  ·obtain⟨hj10,h⟩|⟨hj10,h⟩:=ic h
   ·refine jp0 hj10<|pBlkN<|pSeq<|wSeq<|rdx hm (cr (oLdN (n:=2) (k:=0) u u u t49 tm) (s1 u)<|cr (oLdB (n:=1) (k:=0) u u u t3 tm) (s1 u)<|c3<|.nil)<|pSeq<|wFrzR (n:=0) (id:=5600) [8] u u ⟨u,tv⟩<|wRet ?_
    obtain rfl:=so h
    exact pRn (.inl u) u u (.tmp u<|.tmp u<|.tmp u<|.nil)
   ·cases h
 ·refine wNF hp2.1 tm (s1 u)<|wSeq<|rx (c1<|cp (oAs cV) tv<|c2<|.nil)<|pSeq<|wNil (kR ae) 35 9008 8 u u<|wFrzR (n:=0) (id:=9008) [8] u u ⟨u,tv⟩<|wRet<|pThenR ?_
  obtain rfl:=so h
  exact pRn (.inl u) u u (.tmp u<|.tmp u<|.tmp u<|.nil)
theorem bE.ok{a0:ce} {a1:aa} {r:Bool}(h:bE.f a0 a1=some r):FnA PP 70 [(kR bW).sig a0,(kR ae).sig a1] (kB.sig r):=by
 refine fnIntro Tryz.func70 u (by kernel_rfl) fun H0 w0=>?_
 unfold bE.f at h
 refine wSeq<|rx (c3<|.nil)<|pSeq<|wSeq ?_
 obtain⟨y1,hy1,h⟩:=bd h
 refine rx (c6<|c1<|cC (dq.ok hy1)<|c4<|c1<|.nil)<|pSeq<|wSeq<|rx (c2<|.nil)<|pSeq<|wRet ?_
 obtain rfl:=so h
 exact pR1 (.inl u) u (.tmp u<|.nil)
theorem aD.ok{a0:List aa} {a1:aa->Option Bool} {r:Int}(h:aD.f a0 a1=some r):FnA PP 113 [(kL (kR ae)).sig a0,(sFun PP (rl1 (kR ae) kB a1))] (ki.sig r):=by
 refine fnIntro Tryz.func113 u (by kernel_rfl) fun H0 w0=>?_
 unfold aD.f at h
 refine wSeq<|rx (c1<|.nil)<|pSeq<|wSeq<|wSeq<|rx (c3<|.nil)<|pSeq ?_
 obtain⟨o1,h,hk1⟩:=bd h
 refine wK0 (.inr ()=o1) ([]) ([]) ?_ ?_
 ·refine wBlock (wLoop ?_)
  refine lW (pc1 o1 (fun v9=>[(0,.d ((kL (kR ae)).sig a0)),(1,.d ((sFun PP (rl1 (kR ae) kB a1)))),(7,.d (ki.sig (a0.length:Int))),(8,.d (ki.sig v9))]) (fun v9=>[]) (aD.l0.partial_correctness a0 a1) ?_ _ h) ⟨u,u,u,u,tv⟩ u
  clear h
  intro f' ih v9 h
  refine wSeq<|rx (c1<|.nil)<|pSeq<|wSeq ?_
  obtain⟨hp10,h⟩|⟨hp10,h⟩:=ik h
  ·refine wCT hp10.1 tm (s1 u)<|wSkip<|pSeq<|wSeq<|wBlock<|wSeq<|rx (c2<|.nil)<|pSeq<|wSeq ?_
   obtain⟨y11,hy11,h⟩:=bd h
   obtain⟨y12,hy12,h⟩:=bd h
   refine rx (c3<|cp (oIdx u49 z35 hy11 tm tm) (s2 u u)<|c1<|cp (oCallV u (rl1i (f:=a1) hy12) tm (oc tm o0)) (s2 u u)<|.nil)<|pSeq ?_
   obtain⟨hp13,h⟩|⟨hp13,h⟩:=ik h
   ·refine wBT hp13.1 tm (s1 u)<|wSeq<|rx (c2<|.nil)<|pSeq<|wRet<|pBlkR<|pThenR<|pThenR<|pBlkR<|pThenR ?_
    obtain rfl:=so h
    replace h:=hk1
    refine pThenR ?_
    obtain rfl:=so h
    exact pR1 (.inl u) u (.tmp u<|.nil)
   ·exact wBF hp13.1 tm (s1 u)<|wSkip<|pBlkN<|pSeq<|rx (c2<|.nil)<|pLoop (lW (ih _ h) ⟨u,u,u,u,tv⟩ u)
  ·exact wCF hp10.1 tm (s1 u)<|wExit<|pThenX<|pThenX<|pBlkX<|pJ0 (so h) tv u
 ·rintro rfl
  replace h:=hk1
  refine pSeq<|wSeq<|rx (c1<|.nil)<|pSeq<|wRet ?_
  obtain rfl:=so h
  exact pR1 (.inl u) u (.tmp u<|.nil)
theorem ci.ok{a0:ab} {a1:aZ} {a2:aa} {a3:Int} {r:(List aa)×Int×Int}(h:ci.f a0 a1 a2 a3=some r):FnS PP 67 [.d ((kR aj).sig a0),.d ((kR aL).sig a1),.d ((kR ae).sig a2),.d (ki.sig a3)] [] [] (.f [80000] (sTR [ki.sig r.2.1,ki.sig r.2.2])) [.row 80000 35 (kR ae) r.1]:=by
 refine fnIntroS Tryz.func67 u (by kernel_rfl) fun X H0 w0 pv=>?_
 unfold ci.f at h
 refine wSeq<|rx (c3<|cp (oAs cV) tv<|c2<|.nil)<|pSeq<|wSeq<|wSeq ?_
 obtain⟨y1,hy1,h⟩:=bd h
 refine rx (c4<|cC (fl.ok hy1)<|c1<|.nil)<|pSeq<|wSeq<|rx (c2<|.nil)<|pSeq ?_
 obtain⟨hp2,h⟩|⟨hp2,h⟩:=ik h
 ·refine wNT hp2.1 tm (s1 u)<|wSkip<|pSeq<|wSeq<|rx (cw (oAlloc (id:=12) (ls:=[.d (kN aa) []]) ze49 (fun g=>⟨[(.slice none 0 0)],_,u,zN g.H,u⟩)) tv<|.nil)<|pSeq<|wSeq<|rx (cw (oAlloc (id:=13) (ls:=[.d ki 0]) ze3 (fun g=>⟨[(.int .i64 0)],_,u,zI_i64 g.H,u⟩)) tv<|cwn (oSt (n:=0) (k:=0) u u u u z3 tm (cI (by decide))) (s1 u)<|.nil)<|pSeq<|wSeq<|wSeq ?_
  obtain⟨y3,hy3,h⟩:=bd h
  refine rx (c4<|cm (oCallS (rest:=[.box 13 3 [.d ki 0],.box 12 49 [.d (kN aa) []]]) (R':=[.box 360160 35 (L35 y3.2.2.2),.box 13 3 [.d ki 0],.box 12 49 [.d (kN aa) []]]) (out':=.f [360160] (sCloN 75 [some (sP ki y3.1),some (sP (kR aj) y3.2.1),some (sP (kR aL) y3.2.2.1),none])) [] [(6,360160)] [] [0,1] [0,1,2] u (fk.ok hy3) b37 (oE1 tm (oE1 tm (oE1 tm (oE1 tm oE0)))) u u u u u u u u) ⟨u,u,u,u,tv⟩<|.nil)<|pSeq<|wBlock<|wPick (R':=[.box 13 3 [.d ki 0],.box 12 49 [.d (kN aa) []],.box 360160 35 (L35 y3.2.2.2)]) [1,2,0] u u<|wNilL (kR ae) 35 5600 (n:=1) (k:=0) u u u ?_
  obtain⟨y10,hy10,h⟩:=bd h
  refine wRangeN (Γ':=[(12,.p 12 0),(13,.p 13 0)]) (Γ2:=fun v7 v8=>[(12,.p 12 0),(13,.p 13 0),(14,.p 14 0),(15,.d (ki.sig v8))]) (caps:=[some (sP ki y3.1),some (sP (kR aj) y3.2.1),some (sP (kR aL) y3.2.2.1),none]) (kn:=[70400]) (Rc:=[.box 70400 35 (L35 y3.2.2.2)]) [(70400,360160)] (fun(v6:Int×(List aa))=>[.row 5600 35 (kR ae) v6.2,.box 13 3 [.d ki v6.1],.box 12 49 [.v 5600]]) (fun(v6:Int×(List aa)) v7 v8=>[.box 14 35 (L35 v7),.row 5600 35 (kR ae) v6.2,.box 13 3 [.d ki v6.1],.box 12 49 [.v 5600]]) [] [12,13] (ci.y0) (0,([]:List aa)) u (bt.ok (a1:=y3.1) (a2:=y3.2.1) (a3:=y3.2.2.1) (a4:=y3.2.2.2)) u b75 hy10 u ⟨u,u,tv⟩ u u u ?_ ?_ ?_
  ·intro X H0 w0 l pv v6 v7 v8
   exact wSeq<|rx (cw (oAlloc (id:=14) (ls:=Z35) ze35 zl35) tv<|cwn (oStP (n:=0) (k:=0) (m:=6) (d:=(kR ae)) (u:=v7) pt35 u u u z35 tm tm) (s2 u u)<|.nil)<|pSeq<|rx (c1<|.nil)<|qA ⟨u,u,u,u,tv⟩
  ·intro X H0 w0 l pv v6 v7 v8 o h
   unfold ci.y0 at h
   refine wBlock ?_
   obtain⟨hc9,h⟩:=ib h
   refine rx (cr (oLdN (n:=3) (k:=0) u u u t49 tm) (s1 u)<|cr (oLdP (n:=0) (k:=0) (m:=6) (d:=(kR ae)) (u:=v7) pt35 u u u t35 tm) (s1 u)<|cp (oLit (d:=(kR ae)) el49 (by decide) u u u (e1 tm e0)) (s1 u)<|cw (oApp (n:=1) (id':=34) el49 (by decide) u (by decide) hc9 tm tm) (s2 u u)<|c1<|cwn (oStN (n:=3) (m:=1) (k:=0) u u u u z49 u tm tm) (s2 u u)<|cwn (oSt (n:=2) (k:=0) u u u u z3 tm tm) (s2 u u)<|.nil)<|pBlkN<|pDrop (.cons _ (.cons_cons _ (.cons_cons _ (.cons_cons _ .slnil))))<|pSub (Γ':=[]) tv<|pRen 34 5600 u ?_
   obtain rfl:=so h
   exact qN
  ·obtain⟨hj10,h⟩|⟨hj10,h⟩:=ic h
   ·refine jp0 hj10<|pBlkN<|pSeq<|wSeq<|rdx hm (cr (oLdN (n:=2) (k:=0) u u u t49 tm) (s1 u)<|cr (oLdB (n:=1) (k:=0) u u u t3 tm) (s1 u)<|c3<|.nil)<|pSeq<|wRet ?_
    obtain rfl:=so h
    exact pSub (Γ':=[(8,.v 5600),(9,.d (ki.sig y10.1.1)),(10,.d (ki.sig 0))]) (sb u)<|pRen 5600 80000 u<|pSvn (t:=8) (id:=80000) [0] u u (.inl u) u u u (fun _=>.tmp u<|.tmp u<|.tmp u<|.nil)
   ·cases h
 ·refine wNF hp2.1 tm (s1 u)<|wSeq<|rx (c1<|cp (oAs cV) tv<|c2<|.nil)<|pSeq<|wNil (kR ae) 35 9008 8 u u<|wRet<|pThenR ?_
  obtain rfl:=so h
  exact pSub (Γ':=[(8,.v 9008),(9,.d (ki.sig 0)),(10,.d (ki.sig y1))]) (sb u)<|pRen 9008 80000 u<|pSvn (t:=8) (id:=80000) [0] u u (.inl u) u u u (fun _=>.tmp u<|.tmp u<|.tmp u<|.nil)
theorem dr.ok{a0:aa} {a1:ce} {r:Bool}(h:dr.f a0 a1=some r):FnA PP 69 [(kR ae).sig a0,sP (kR bW) a1] (kB.sig r):=by
 refine fnIntro Tryz.func69 u (by kernel_rfl) fun H0 w0=>?_
 unfold dr.f at h
 refine wSeq<|rx (c2<|.nil)<|pSeq<|wSeq ?_
 obtain⟨y1,hy1,h⟩:=bd h
 refine rx (c2<|cC (bE.ok hy1)<|c2<|.nil)<|pSeq<|wRet ?_
 obtain rfl:=so h
 exact pR1 (.inl u) u (.tmp u<|.nil)
theorem av.ok{a0:List aa} {a1:aa->Option Bool} {r:(List aa)}(h:av.f a0 a1=some r):FnS PP 68 [.v 90000,.d ((sFun PP (rl1 (kR ae) kB a1)))] [.row 90000 35 (kR ae) a0] [] (.d ((kL (kR ae)).sig r)) []:=by
 refine fnIntroS Tryz.func68 u (by kernel_rfl) fun X H0 w0 pv=>?_
 unfold av.f at h
 refine wSeq<|rx (cp (oAs cV) tv<|.nil)<|pSeq<|wSeq ?_
 obtain⟨y1,hy1,h⟩:=bd h
 refine rx (c2<|cr (oCallB u (aD.ok hy1) (fK fI) b113 (rc1 (rR (n:=0) u) (rc1 (rD tm) rn0))) (s2 u u)<|c1<|.nil)<|pSeq<|wSeq<|wSeq<|rx (c2<|.nil)<|pSeq ?_
 obtain⟨hp2,h⟩|⟨hp2,h⟩:=ik h
 ·refine wCT hp2.1 tm (s1 u)<|wSeq<|rx (c2<|.nil)<|pSeq<|wFrzR (n:=0) (id:=90000) [4] u u ⟨u,tv⟩<|wRet<|pThenR ?_
  obtain rfl:=so h
  exact pS1 [] u u (.inl u) u (.tmp u<|.nil)
 ·refine wCF hp2.1 tm (s1 u)<|wSkip<|pSeq<|wSeq<|wSeq<|rx (c3<|.nil)<|pSeq<|wWeak (Γ':=[(0,.v 90000),(1,.d ((sFun PP (rl1 (kR ae) kB a1)))),(5,.d (ki.sig y1)),(6,.d (ki.sig (IntKind.i64.wrap (y1+1))))]) (sb u)<|wRen 90000 1000 u ?_
  obtain⟨o1,h,hk1⟩:=bd h
  refine wK2 (fun x28 x29=>(x28,x29)=o1) (fun x28 x29=>[(0,.v 1000),(5,.d (ki.sig x29))]) (fun x28 x29=>[.row 1000 35 (kR ae) x28]) ?_ ?_
  ·refine wBlock (wLoop ?_)
   refine lW (pc3 o1 (fun v25 v26 v27=>[(0,.v 1000),(1,.d ((sFun PP (rl1 (kR ae) kB a1)))),(5,.d (ki.sig v26)),(6,.d (ki.sig v27))]) (fun v25 v26 v27=>[.row 1000 35 (kR ae) v25]) (av.l0.partial_correctness a1) ?_ _ _ _ h) ⟨u,u,u,u,tv⟩ u
   clear h
   intro f' ih v25 v26 v27 h
   refine wSeq<|wSeq<|rx (c2<|cr (oLenR (n:=0) u49 u tm) (s1 u)<|c1<|.nil)<|pSeq ?_
   obtain⟨hp30,h⟩|⟨hp30,h⟩:=ik h
   ·refine wCT hp30.1 tm (s1 u)<|wSkip<|pSeq ?_
    obtain⟨o2,h,hk2⟩:=bd h
    refine wJ2 (fun x35 x36=>(x35,x36)=o2) (fun x35 x36=>[(0,.v 1000),(1,.d ((sFun PP (rl1 (kR ae) kB a1)))),(5,.d (ki.sig x36)),(6,.d (ki.sig v27))]) (fun x35 x36=>[.row 1000 35 (kR ae) x35]) ?_ ?_
    ·refine wBlock<|wSeq ?_
     obtain⟨y37,hy37,h⟩:=bd h
     refine rx (c2<|cr (oIdxR (n:=0) u49 z35 u hy37 tm tm) (s2 u u)<|cr (oLdE (n:=0) u hy37 u t35 tm) (s1 u)<|cw (oAlloc (id:=7) (ls:=Z35) ze35 zl35) tv<|cwn (oStP (n:=0) (k:=0) (m:=6) (d:=(kR ae)) (u:=y37) pt35 u u u z35 tm tm) (s2 u u)<|.nil)<|pSeq<|wSeq ?_
     obtain⟨y38,hy38,h⟩:=bd h
     refine rx (c1<|cr (oLdP (n:=0) (k:=0) (m:=6) (d:=(kR ae)) (u:=y37) pt35 u u u t35 tm) (s1 u)<|cp (oCallV u (rl1i (f:=a1) hy38) tm (oc tm o0)) (s2 u u)<|c1<|.nil)<|pSeq ?_
     obtain⟨hp39,h⟩|⟨hp39,h⟩:=ik h
     ·refine wBT hp39.1 tm (s1 u)<|wSeq ?_
      obtain⟨y40,hy40,h⟩:=bd h
      exact rx (c2<|cr (oLdP (n:=0) (k:=0) (m:=6) (d:=(kR ae)) (u:=y37) pt35 u u u t35 tm) (s1 u)<|cr (oIdxR (n:=1) u49 z35 u hy40 tm tm) (s2 u u)<|cwn (oStE (n:=1) u hy40 u z35 tm tm) (s2 u u)<|.nil)<|pSeq<|rx (c3<|.nil)<|pBlkN<|pDrop (.cons _ (.cons_cons _ .slnil))<|pJ2 _ _ (so h) (sb u) u
     ·exact wBF hp39.1 tm (s1 u)<|wSkip<|pBlkN<|pDrop (.cons _ (.cons_cons _ .slnil))<|pJ2 _ _ (so h) (sb u) u
    ·rintro x35 x36 rfl
     replace h:=hk2
     exact rx (c3<|.nil)<|pLoop (lW (ih _ _ _ h) ⟨u,u,u,u,tv⟩ u)
   ·exact wCF hp30.1 tm (s1 u)<|wExit<|pThenX<|pThenX<|pBlkX<|pJ2 _ _ (so h) (sb u) u
  ·rintro x28 x29 rfl
   replace h:=hk1
   refine pSeq<|wSeq ?_
   obtain⟨hc41,h⟩:=ib h
   refine rx (c2<|cr (oSlT (n:=0) u49 z35 u hc41.1 hc41.2 tm tm) (s2 u u)<|cwn (oClr (n:=0) u49 ze35 ij (by decide) u (by have:=hc41;omega) tm) (s1 u)<|.nil)<|pSeq<|wSeq ?_
   obtain⟨hc42,h⟩:=ib h
   refine rx (c2<|cw (oCutR (n:=0) (id':=41) u49 z35 u hc42.1 hc42.2 tm tm) (s2 u u)<|c1<|.nil)<|pSeq<|wFrzR (n:=0) (id:=41) [4] u u ⟨u,tv⟩<|wRet ?_
   obtain rfl:=so h
   exact pS1 [] u u (.inl u) u (.tmp u<|.nil)
theorem dm.ok{a0:ce} {a1:aa} {r:List aa}(h:dm.f a0 a1=some r):FnA PP 30 [(kR bW).sig a0,(kR ae).sig a1] ((kL (kR ae)).sig r):=by
 refine fnIntro Tryz.func30 u (by kernel_rfl) fun H0 w0=>?_
 unfold dm.f at h
 refine wSeq<|rx (c2<|cp (oAs cV) tv<|.nil)<|pSeq<|wSeq ?_
 obtain⟨y1,hy1,h⟩:=bd h
 refine rx (c6<|c1<|cm (oCallS (rest:=[]) (R':=[.row 310280 35 (kR ae) y1.1]) (out':=.f [310280] (sTR [ki.sig y1.2.1,ki.sig y1.2.2])) [] [(80000,310280)] [] [] [0] u (ci.ok hy1) b67 (oE1 tm (oE1 tm (oE1 tm (oE1 tm oE0)))) u u u u u u u u) ⟨u,u,u,u,tv⟩<|c1<|cp (oExT0 tm) (s1 u)<|cp (oExTk (k:=0) u tm) (s1 u)<|cp (oExTk (k:=1) u tm) (s1 u)<|c3<|.nil)<|pSeq<|wSeq ?_
 obtain⟨y2,hy2,h⟩:=bd h
 refine rx (c1<|cp (oMkF (Rl:=rl1 (kR ae) kB (fun z0=>dr.f z0 a0)) u b69 (rl1e dr.ok) (oc tm o0)) (s1 u)<|cm (oCallS (rest:=[]) (R':=[]) (out':=.d ((kL (kR ae)).sig y2)) [(90000,310280)] [] [0] [] [] u (av.ok hy2) b68 (oE1 tm (oE1 tm oE0)) u u u u u u u u) (s2 u u)<|c1<|.nil)<|pSeq<|wRet ?_
 obtain rfl:=so h
 exact pR1 (.inl u) u (.tmp u<|.nil)
theorem fm.ok{a0:ab} {a1:aZ} {a2:Int} {a3:aa} {a4:Int} {r:(List aa)×Int}(h:fm.f a0 a1 a2 a3 a4=some r):FnA PP 14 [(kR aj).sig a0,(kR aL).sig a1,ki.sig a2,(kR ae).sig a3,ki.sig a4] (tup [(kL (kR ae)).sig r.1,ki.sig r.2]):=by
 refine fnIntro Tryz.func14 u (by kernel_rfl) fun H0 w0=>?_
 unfold fm.f at h
 refine wSeq<|rx (c3<|cp (oAs cV) tv<|c1<|.nil)<|pSeq<|wSeq<|wSeq ?_
 obtain⟨y1,hy1,h⟩:=bd h
 refine rx (c4<|cC (cJ.ok hy1)<|c4<|cw (oAlloc (id:=12) (ls:=Z35) ze35 zl35) tv<|cwn (oStP (n:=0) (k:=0) (m:=6) (d:=(kR ae)) (u:=y1.1) pt35 u u u z35 tm tm) (s2 u u)<|c2<|.nil)<|pSeq<|wSeq<|rx (c2<|.nil)<|pSeq ?_
 obtain⟨hp2,h⟩|⟨hp2,h⟩:=ik h
 ·refine wNT hp2.1 tm (s1 u)<|wSkip<|pSeq<|wSeq ?_
  obtain⟨o1,h,hk1⟩:=bd h
  refine wJ1 (fun x4=>x4=o1) (fun x4=>[(2,.d (ki.sig a2)),(4,.d (ki.sig a4)),(5,.d (sP (kR aj) a0)),(6,.d (sP (kR aL) a1)),(8,.d (sP (kR ae) a3)),(35,.d (kB.sig x4))]) (fun x4=>[.box 12 35 (L35 y1.1)]) ?_ ?_
  ·obtain⟨hp5,h⟩|⟨hp5,h⟩:=ik h
   ·exact rx (c8<|c1<|.nil)<|pJ1 _ (so h) (sb u) u
   ·exact rx (c8<|c1<|.nil)<|pJ1 _ (so h) (sb u) u
  ·rintro x4 rfl
   replace h:=hk1
   obtain⟨hp6,h⟩|⟨hp6,h⟩:=ik h
   ·refine wBT hp6.1 tm (s1 u)<|wSeq<|rx (cp (oAs cV) tv<|c1<|.nil)<|pSeq<|wNil (kR ae) 35 9010 10 u u<|wFrzR (n:=0) (id:=9010) [10] u u ⟨u,tv⟩<|wRet<|pThenR ?_
    obtain rfl:=so h
    exact pRn (.inl u) u u (.tmp u<|.tmp u<|.nil)
   ·refine wBF hp6.1 tm (s1 u)<|wSkip<|pSeq<|wSeq ?_
    obtain⟨y7,hy7,h⟩:=bd h
    refine rx (c4<|cp (oBuild (fs:=bW) (u:=⟨a0,a1,a2,a4,(⟨(⟨0,0⟩:am),[],[],[],[]⟩:aa),(⟨(⟨0,0⟩:am),[],[],[],[]⟩:aa)⟩) u ze68 pl68 po68 (.op (zc:=[(.slice none 0 0),(.slice none 0 0)]) tm u (.op (zc:=[(.slice none 0 0)]) tm u (.op (zc:=[(.int .i64 0)]) tm u (.op (zc:=[(.int .i64 0)]) tm u (.ze (zc:=[(.int .i64 0),(.int .i64 0),(.slice none 0 0),(.slice none 0 0),(.slice none 0 0),(.slice none 0 0)]) ij (.ze (zc:=[(.int .i64 0),(.int .i64 0),(.slice none 0 0),(.slice none 0 0),(.slice none 0 0),(.slice none 0 0)]) ij .nil))))))) ⟨u,u,u,u,tv⟩<|c1<|cC (dm.ok hy7)<|c2<|.nil)<|pSeq<|wRet ?_
    obtain rfl:=so h
    exact pRn (.inl u) u u (.tmp u<|.tmp u<|.nil)
 ·refine wNF hp2.1 tm (s1 u)<|wSeq<|rx (c1<|cp (oAs cV) tv<|c1<|.nil)<|pSeq<|wNil (kR ae) 35 9010 10 u u<|wFrzR (n:=0) (id:=9010) [10] u u ⟨u,tv⟩<|wRet<|pThenR ?_
  obtain rfl:=so h
  exact pRn (.inl u) u u (.tmp u<|.tmp u<|.nil)
theorem bU.ok{a0:Str} {r:Bool}(h:bU.f a0=some r):FnA PP 139 [kS.sig a0] (kB.sig r):=by
 refine fnIntro Tryz.func139 u (by kernel_rfl) fun H0 w0=>?_
 unfold bU.f at h
 refine wSeq<|rx (c1<|.nil)<|pSeq<|wSeq<|wSeq<|rx (c1<|.nil)<|pSeq ?_
 obtain⟨o1,h,hk1⟩:=bd h
 refine wK0 (.inr ()=o1) ([(0,.d (kS.sig a0))]) ([]) ?_ ?_
 ·refine wBlock (wLoop ?_)
  refine lW (pc1 o1 (fun v19=>[(0,.d (kS.sig a0)),(3,.d (ki.sig v19))]) (fun v19=>[]) (bU.l0.partial_correctness a0) ?_ _ h) ⟨u,u,tv⟩ u
  clear h
  intro f' ih v19 h
  refine wSeq<|wSeq<|rx (c2<|cp (oLenS u9 tm) (s1 u)<|c1<|.nil)<|pSeq ?_
  obtain⟨hp20,h⟩|⟨hp20,h⟩:=ik h
  ·refine wCT hp20.1 tm (s1 u)<|wSkip<|pSeq<|wSeq<|wBlock ?_
   obtain⟨o2,h,hk2⟩:=bd h
   refine wJ1 (fun x24=>x24=o2) (fun x24=>[(0,.d (kS.sig a0)),(3,.d (ki.sig v19)),(19,.d (kB.sig x24))]) (fun x24=>[]) ?_ ?_
   ·obtain⟨hc25,h⟩:=ib h
    obtain⟨hp26,h⟩|⟨hp26,h⟩:=ik h
    ·exact rx (c2<|cp (oIdxS u9 hc25.1 hc25.2 tm tm) (s2 u u)<|c6<|c1<|.nil)<|pJ1 _ (so h) (sb u) u
    ·obtain⟨hc27,h⟩:=ib h
     exact rx (c2<|cp (oIdxS u9 hc25.1 hc25.2 tm tm) (s2 u u)<|c4<|cgB (dF hp26.1) u u (oIdxS u9 hc27.1 hc27.2 tm tm) (s2 u u)<|c2<|.nil)<|pJ1 _ (so h) (sb u) u
   ·rintro x24 rfl
    replace h:=hk2
    obtain⟨hp28,h⟩|⟨hp28,h⟩:=ik h
    ·refine wBT hp28.1 tm (s1 u)<|wSeq<|rx (c1<|.nil)<|pSeq<|wRet<|pBlkR<|pThenR<|pThenR<|pBlkR<|pThenR ?_
     obtain rfl:=so h
     replace h:=hk1
     refine pThenR ?_
     obtain rfl:=so h
     exact pR1 (.inl u) u (.tmp u<|.nil)
    ·exact wBF hp28.1 tm (s1 u)<|wSkip<|pBlkN<|pSeq<|rx (c3<|.nil)<|pLoop (lW (ih _ h) ⟨u,u,tv⟩ u)
  ·exact wCF hp20.1 tm (s1 u)<|wExit<|pThenX<|pThenX<|pBlkX<|pJ0 (so h) (sb u) u
 ·rintro rfl
  replace h:=hk1
  refine pSeq ?_
  obtain⟨o1,h,hk1⟩:=bd h
  refine wJ1 (fun x30=>x30=o1) (fun x30=>[(2,.d (kB.sig x30))]) (fun x30=>[]) ?_ ?_
  ·obtain⟨hp31,h⟩|⟨hp31,h⟩:=ik h
   ·exact rx (c1<|cp (oLenS u9 tm) (s1 u)<|c3<|cgB (dT hp31.1) u u (oLenS u9 tm) (s1 u)<|c3<|.nil)<|pJ1 _ (so h) (sb u) u
   ·exact rx (c1<|cp (oLenS u9 tm) (s1 u)<|c6<|c1<|.nil)<|pJ1 _ (so h) (sb u) u
  ·rintro x30 rfl
   replace h:=hk1
   refine wRet ?_
   obtain rfl:=so h
   exact pR1 (.inl u) u (.tmp u<|.nil)
theorem cP.ok{a0:Int} {a1:Int} {r:Bool}(h:cP.f a0 a1=some r):FnA PP 140 [(kI .u32).sig a0,ki.sig a1] (kB.sig r):=by
 refine fnIntro Tryz.func140 u (by kernel_rfl) fun H0 w0=>?_
 unfold cP.f at h
 refine wSeq<|rx (c1<|.nil)<|pSeq<|wSeq<|wSeq<|rx (c1<|.nil)<|pSeq ?_
 obtain⟨o1,h,hk1⟩:=bd h
 refine wK1 (fun x5=>x5=o1) (fun x5=>[(0,.d ((kI .u32).sig x5))]) (fun x5=>[]) ?_ ?_
 ·refine wBlock (wLoop ?_)
  refine lW (pc2 o1 (fun v3 v4=>[(0,.d ((kI .u32).sig v3)),(1,.d (ki.sig a1)),(5,.d (ki.sig v4))]) (fun v3 v4=>[]) (cP.l0.partial_correctness a1) ?_ _ _ h) ⟨u,u,u,tv⟩ u
  clear h
  intro f' ih v3 v4 h
  refine wSeq<|wSeq<|rx (c3<|.nil)<|pSeq ?_
  obtain⟨hp6,h⟩|⟨hp6,h⟩:=ik h
  ·exact wCT hp6.1 tm (s1 u)<|wSkip<|pSeq<|wSeq<|wBlock<|rx (c1<|cp (oQuo (by decide) tm (cI (by decide))) (s1 u)<|c1<|.nil)<|pBlkN<|pSeq<|rx (c3<|.nil)<|pLoop (lW (ih _ _ h) ⟨u,u,u,tv⟩ u)
  ·exact wCF hp6.1 tm (s1 u)<|wExit<|pThenX<|pThenX<|pBlkX<|pJ1 _ (so h) (sb u) u
 ·rintro x5 rfl
  replace h:=hk1
  refine pSeq<|wSeq<|rx (c3<|.nil)<|pSeq<|wRet ?_
  obtain rfl:=so h
  exact pR1 (.inl u) u (.tmp u<|.nil)
theorem br.ok{a0:ab} {r:Bool}(h:br.f a0=some r):FnA PP 114 [(kR aj).sig a0] (kB.sig r):=by
 refine fnIntro Tryz.func114 u (by kernel_rfl) fun H0 w0=>?_
 unfold br.f at h
 refine wSeq<|rx (c2<|.nil)<|pSeq<|wSeq ?_
 obtain⟨o1,h,hk1⟩:=bd h
 refine wJ1 (fun x3=>x3=o1) (fun x3=>[(1,.d (sP (kR aj) a0)),(25,.d (kB.sig x3))]) (fun x3=>[]) ?_ ?_
 ·obtain⟨hp4,h⟩|⟨hp4,h⟩:=ik h
  ·exact rx (c12<|c6<|c1<|.nil)<|pJ1 _ (so h) (sb u) u
  ·obtain⟨hp5,h⟩|⟨hp5,h⟩:=ik h
   ·exact rx (c12<|c6<|c1<|.nil)<|pJ1 _ (so h) (sb u) u
   ·exact rx (c12<|c6<|c1<|.nil)<|pJ1 _ (so h) (sb u) u
 ·rintro x3 rfl
  replace h:=hk1
  obtain⟨hp6,h⟩|⟨hp6,h⟩:=ik h
  ·refine wBT hp6.1 tm (s1 u)<|wSeq<|rx (c1<|.nil)<|pSeq<|wRet<|pThenR ?_
   obtain rfl:=so h
   exact pR1 (.inl u) u (.tmp u<|.nil)
  ·refine wBF hp6.1 tm (s1 u)<|wSkip<|pSeq<|wSeq<|wSeq<|rx (c4<|.nil)<|pSeq ?_
   obtain⟨o1,h,hk1⟩:=bd h
   refine wK0 (.inr ()=o1) ([]) ([]) ?_ ?_
   ·refine wBlock (wLoop ?_)
    refine lW (pc1 o1 (fun v53=>[(1,.d (sP (kR aj) a0)),(27,.d ((kL kS).sig a0.Names)),(28,.d (ki.sig (a0.Names.length:Int))),(29,.d (ki.sig v53))]) (fun v53=>[]) (br.l2.partial_correctness a0) ?_ _ h) ⟨u,u,u,u,tv⟩ u
    clear h
    intro f' ih v53 h
    refine wSeq<|rx (c1<|.nil)<|pSeq<|wSeq ?_
    obtain⟨hp54,h⟩|⟨hp54,h⟩:=ik h
    ·refine wCT hp54.1 tm (s1 u)<|wSkip<|pSeq<|wSeq<|wBlock<|wSeq ?_
     obtain⟨y55,hy55,h⟩:=bd h
     refine rx (c1<|cp (oIdx u22 z9 hy55 tm tm) (s2 u u)<|c3<|.nil)<|pSeq<|wSeq ?_
     obtain⟨o2,h,hk2⟩:=bd h
     refine wJ1 (fun x60=>x60=o2) (fun x60=>[(1,.d (sP (kR aj) a0)),(3,.d (ki.sig v53)),(4,.d (kS.sig y55)),(27,.d ((kL kS).sig a0.Names)),(28,.d (ki.sig (a0.Names.length:Int))),(29,.d (ki.sig v53)),(47,.d (kB.sig x60))]) (fun x60=>[]) ?_ ?_
     ·obtain⟨y61,hy61,h⟩:=bd h
      obtain⟨hp62,h⟩|⟨hp62,h⟩:=ik h
      ·exact rdx hm (c1<|cC (bU.ok hy61)<|c12<|.nil)<|pJ1 _ (so h) (sb u) u
      ·obtain⟨y63,hy63,h⟩:=bd h
       obtain⟨y64,hy64,h⟩:=bd h
       exact rdx hm (c1<|cC (bU.ok hy61)<|c4<|c1<|cgB (nb hp62.1) u u (oIdx u23 z70 hy63 tm tm) (s2 u u)<|c4<|cgB (nb hp62.1) u u (oCall u (cP.ok hy64) b140 (oc tm (oc tm o0))) (s2 u u)<|c1<|.nil)<|pJ1 _ (so h) (sb u) u
     ·rintro x60 rfl
      replace h:=hk2
      obtain⟨hp65,h⟩|⟨hp65,h⟩:=ik h
      ·refine wBT hp65.1 tm (s1 u)<|wSeq<|rx (c1<|.nil)<|pSeq<|wRet<|pThenR<|pBlkR<|pThenR<|pThenR<|pBlkR<|pThenR ?_
       obtain rfl:=so h
       replace h:=hk1
       refine pThenR ?_
       obtain rfl:=so h
       exact pR1 (.inl u) u (.tmp u<|.nil)
      ·refine wBF hp65.1 tm (s1 u)<|wSkip<|pSeq<|wSeq ?_
       obtain⟨hc66,h⟩:=ib h
       refine rx (c3<|cp (oCutHi u22 z9 hc66.1 hc66.2 tm tm) (s2 u u)<|c2<|.nil)<|pSeq ?_
       obtain⟨o2,h,hk2⟩:=bd h
       refine wK0 (.inr ()=o2) ([(1,.d (sP (kR aj) a0)),(27,.d ((kL kS).sig a0.Names)),(28,.d (ki.sig (a0.Names.length:Int))),(29,.d (ki.sig v53))]) ([]) ?_ ?_
       ·refine wBlock (wLoop ?_)
        refine lW (pc1 o2 (fun v73=>[(1,.d (sP (kR aj) a0)),(4,.d (kS.sig y55)),(27,.d ((kL kS).sig a0.Names)),(28,.d (ki.sig (a0.Names.length:Int))),(29,.d (ki.sig v53)),(51,.d ((kL kS).sig (lCut a0.Names 0 v53))),(52,.d (ki.sig ((lCut a0.Names 0 v53).length:Int))),(53,.d (ki.sig v73))]) (fun v73=>[]) (br.l3.partial_correctness a0 v53 y55) ?_ _ h) ⟨u,u,u,u,u,u,u,u,tv⟩ u
        clear h
        intro f' ih v73 h
        refine wSeq<|rx (c1<|.nil)<|pSeq<|wSeq ?_
        obtain⟨hp74,h⟩|⟨hp74,h⟩:=ik h
        ·refine wCT hp74.1 tm (s1 u)<|wSkip<|pSeq<|wSeq<|wBlock<|wSeq ?_
         obtain⟨y75,hy75,h⟩:=bd h
         refine rx (cp (oIdx u22 z9 hy75 tm tm) (s2 u u)<|c2<|.nil)<|pSeq<|wSeq<|rx (c2<|cp (oSEq u tm tm) (s2 u u)<|.nil)<|pSeq ?_
         obtain⟨hp76,h⟩|⟨hp76,h⟩:=ik h
         ·refine wCT hp76.1 tm (s1 u)<|wSeq<|rx (c1<|.nil)<|pSeq<|wRet<|pBlkR<|pThenR<|pThenR<|pBlkR<|pThenR ?_
          obtain rfl:=so h
          replace h:=hk2
          refine pBlkR<|pThenR<|pThenR<|pBlkR<|pThenR ?_
          obtain rfl:=so h
          replace h:=hk1
          refine pThenR ?_
          obtain rfl:=so h
          exact pR1 (.inl u) u (.tmp u<|.nil)
         ·exact wCF hp76.1 tm (s1 u)<|wSkip<|pBlkN<|pSeq<|rx (c2<|.nil)<|pLoop (lW (ih _ h) ⟨u,u,u,u,u,u,u,u,tv⟩ u)
        ·exact wCF hp74.1 tm (s1 u)<|wExit<|pThenX<|pThenX<|pBlkX<|pJ0 (so h) (sb u) u
       ·rintro rfl
        replace h:=hk2
        exact pBlkN<|pSeq<|rx (c2<|.nil)<|pLoop (lW (ih _ h) ⟨u,u,u,u,tv⟩ u)
    ·exact wCF hp54.1 tm (s1 u)<|wExit<|pThenX<|pThenX<|pBlkX<|pJ0 (so h) tv u
   ·rintro rfl
    replace h:=hk1
    refine pSeq<|wSeq<|rx (c1<|.nil)<|pSeq<|wRet ?_
    obtain rfl:=so h
    exact pR1 (.inl u) u (.tmp u<|.nil)
theorem au.ok{a0:ab} {a1:Int} {a2:Int} {r:Bool}(h:au.f a0 a1 a2=some r):FnA PP 101 [(kR aj).sig a0,ki.sig a1,ki.sig a2] (kB.sig r):=by
 refine fnIntro Tryz.func101 u (by kernel_rfl) fun H0 w0=>?_
 unfold au.f at h
 refine wSeq<|rx (c2<|.nil)<|pSeq<|wSeq ?_
 obtain⟨y1,hy1,h⟩:=bd h
 refine rx (c3<|cp (oIdx u23 z70 hy1 tm tm) (s2 u u)<|c2<|.nil)<|pSeq<|wSeq<|wSeq<|rx (c1<|.nil)<|pSeq ?_
 obtain⟨o1,h,hk1⟩:=bd h
 refine wK1 (fun x6=>x6=o1) (fun x6=>[(7,.d ((kI .u32).sig x6))]) (fun x6=>[]) ?_ ?_
 ·refine wBlock (wLoop ?_)
  refine lW (pc2 o1 (fun v4 v5=>[(2,.d (ki.sig a2)),(7,.d ((kI .u32).sig v4)),(8,.d (ki.sig v5))]) (fun v4 v5=>[]) (au.l0.partial_correctness a2) ?_ _ _ h) ⟨u,u,u,tv⟩ u
  clear h
  intro f' ih v4 v5 h
  refine wSeq<|wSeq<|rx (c3<|.nil)<|pSeq ?_
  obtain⟨hp7,h⟩|⟨hp7,h⟩:=ik h
  ·exact wCT hp7.1 tm (s1 u)<|wSkip<|pSeq<|wSeq<|wBlock<|rx (c1<|cp (oQuo (by decide) tm (cI (by decide))) (s1 u)<|c1<|.nil)<|pBlkN<|pSeq<|rx (c3<|.nil)<|pLoop (lW (ih _ _ h) ⟨u,u,u,tv⟩ u)
  ·exact wCF hp7.1 tm (s1 u)<|wExit<|pThenX<|pThenX<|pBlkX<|pJ1 _ (so h) (sb u) u
 ·rintro x6 rfl
  replace h:=hk1
  refine pSeq<|wSeq<|rx (c1<|cp (oRem (by decide) tm (cI (by decide))) (s1 u)<|c2<|.nil)<|pSeq<|wRet ?_
  obtain rfl:=so h
  exact pR1 (.inl u) u (.tmp u<|.nil)
theorem aN.ok{a0:ab} {r:Bool}(h:aN.f a0=some r):FnA PP 115 [(kR aj).sig a0] (kB.sig r):=by
 refine fnIntro Tryz.func115 u (by kernel_rfl) fun H0 w0=>?_
 unfold aN.f at h
 refine wSeq<|rx (c2<|.nil)<|pSeq<|wSeq<|wSeq<|rx (c4<|.nil)<|pSeq ?_
 obtain⟨o1,h,hk1⟩:=bd h
 refine wK0 (.inr ()=o1) ([]) ([]) ?_ ?_
 ·refine wBlock (wLoop ?_)
  refine lW (pc1 o1 (fun v315=>[(1,.d (sP (kR aj) a0)),(8,.d (ki.sig (a0.Up.length:Int))),(9,.d (ki.sig v315))]) (fun v315=>[]) (aN.l8.partial_correctness a0) ?_ _ h) ⟨u,u,u,tv⟩ u
  clear h
  intro f' ih v315 h
  refine wSeq<|rx (c1<|.nil)<|pSeq<|wSeq ?_
  obtain⟨hp316,h⟩|⟨hp316,h⟩:=ik h
  ·refine wCT hp316.1 tm (s1 u)<|wSkip<|pSeq<|wSeq<|wBlock<|wSeq<|rx (c2<|.nil)<|pSeq<|wSeq<|wSeq ?_
   obtain⟨y317,hy317,h⟩:=bd h
   refine rx (c3<|cC (au.ok hy317)<|c1<|.nil)<|pSeq ?_
   obtain⟨hp318,h⟩|⟨hp318,h⟩:=ik h
   ·refine wBT hp318.1 tm (s1 u)<|wSeq<|rx (c1<|.nil)<|pSeq<|wRet<|pThenR<|pBlkR<|pThenR<|pThenR<|pBlkR<|pThenR ?_
    obtain rfl:=so h
    replace h:=hk1
    refine pThenR ?_
    obtain rfl:=so h
    exact pR1 (.inl u) u (.tmp u<|.nil)
   ·refine wBF hp318.1 tm (s1 u)<|wSkip<|pSeq<|wSeq<|rx (c4<|.nil)<|pSeq ?_
    obtain⟨o2,h,hk2⟩:=bd h
    refine wK0 (.inr ()=o2) ([(1,.d (sP (kR aj) a0)),(8,.d (ki.sig (a0.Up.length:Int))),(9,.d (ki.sig v315))]) ([]) ?_ ?_
    ·refine wBlock (wLoop ?_)
     refine lW (pc1 o2 (fun v421=>[(1,.d (sP (kR aj) a0)),(3,.d (ki.sig v315)),(8,.d (ki.sig (a0.Up.length:Int))),(9,.d (ki.sig v315)),(19,.d (ki.sig (a0.Up.length:Int))),(20,.d (ki.sig v421))]) (fun v421=>[]) (aN.l11.partial_correctness a0 v315) ?_ _ h) ⟨u,u,u,u,u,u,tv⟩ u
     clear h
     intro f' ih v421 h
     refine wSeq<|rx (c1<|.nil)<|pSeq<|wSeq ?_
     obtain⟨hp422,h⟩|⟨hp422,h⟩:=ik h
     ·refine wCT hp422.1 tm (s1 u)<|wSkip<|pSeq<|wSeq<|wBlock<|wSeq<|rx (c2<|.nil)<|pSeq<|wSeq ?_
      obtain⟨o3,h,hk3⟩:=bd h
      refine wJ1 (fun x427=>x427=o3) (fun x427=>[(1,.d (sP (kR aj) a0)),(3,.d (ki.sig v315)),(4,.d (ki.sig v421)),(8,.d (ki.sig (a0.Up.length:Int))),(9,.d (ki.sig v315)),(19,.d (ki.sig (a0.Up.length:Int))),(20,.d (ki.sig v421)),(37,.d (kB.sig x427))]) (fun x427=>[]) ?_ ?_
      ·obtain⟨hp428,h⟩|⟨hp428,h⟩:=ik h
       ·exact rx (c12<|c3<|.nil)<|pJ1 _ (so h) (sb u) u
       ·obtain⟨y429,hy429,h⟩:=bd h
        obtain⟨hp430,h⟩|⟨hp430,h⟩:=ik h
        ·obtain⟨y431,hy431,h⟩:=bd h
         exact rx (c6<|c1<|cgB (nt hp428.1) u u (oCall u (au.ok hy429) b101 (oc tm (oc tm (oc tm o0)))) (s3 u u u)<|c4<|c1<|cgB hp430.1 u u (oCall u (au.ok hy431) b101 (oc tm (oc tm (oc tm o0)))) (s3 u u u)<|c1<|.nil)<|pJ1 _ (so h) (sb u) u
        ·exact rx (c6<|c1<|cgB (nt hp428.1) u u (oCall u (au.ok hy429) b101 (oc tm (oc tm (oc tm o0)))) (s3 u u u)<|c6<|c1<|.nil)<|pJ1 _ (so h) (sb u) u
      ·rintro x427 rfl
       replace h:=hk3
       obtain⟨hp432,h⟩|⟨hp432,h⟩:=ik h
       ·refine wBT hp432.1 tm (s1 u)<|wSeq<|rx (c1<|.nil)<|pSeq<|wRet<|pThenR<|pBlkR<|pThenR<|pThenR<|pBlkR<|pThenR ?_
        obtain rfl:=so h
        replace h:=hk2
        refine pBlkR<|pThenR<|pThenR<|pBlkR<|pThenR ?_
        obtain rfl:=so h
        replace h:=hk1
        refine pThenR ?_
        obtain rfl:=so h
        exact pR1 (.inl u) u (.tmp u<|.nil)
       ·refine wBF hp432.1 tm (s1 u)<|wSkip<|pSeq<|wSeq<|rx (c4<|.nil)<|pSeq ?_
        obtain⟨o3,h,hk3⟩:=bd h
        refine wK0 (.inr ()=o3) ([(1,.d (sP (kR aj) a0)),(3,.d (ki.sig v315)),(8,.d (ki.sig (a0.Up.length:Int))),(9,.d (ki.sig v315)),(19,.d (ki.sig (a0.Up.length:Int))),(20,.d (ki.sig v421))]) ([]) ?_ ?_
        ·refine wBlock (wLoop ?_)
         refine lW (pc1 o3 (fun v459=>[(1,.d (sP (kR aj) a0)),(3,.d (ki.sig v315)),(4,.d (ki.sig v421)),(8,.d (ki.sig (a0.Up.length:Int))),(9,.d (ki.sig v315)),(19,.d (ki.sig (a0.Up.length:Int))),(20,.d (ki.sig v421)),(40,.d (ki.sig (a0.Up.length:Int))),(41,.d (ki.sig v459))]) (fun v459=>[]) (aN.l12.partial_correctness a0 v315 v421) ?_ _ h) ⟨u,u,u,u,u,u,u,u,u,tv⟩ u
         clear h
         intro f' ih v459 h
         refine wSeq<|rx (c1<|.nil)<|pSeq<|wSeq ?_
         obtain⟨hp460,h⟩|⟨hp460,h⟩:=ik h
         ·refine wCT hp460.1 tm (s1 u)<|wSkip<|pSeq<|wSeq<|wBlock<|wSeq<|rx (c2<|.nil)<|pSeq ?_
          obtain⟨o4,h,hk4⟩:=bd h
          refine wJ1 (fun x466=>x466=o4) (fun x466=>[(1,.d (sP (kR aj) a0)),(3,.d (ki.sig v315)),(4,.d (ki.sig v421)),(8,.d (ki.sig (a0.Up.length:Int))),(9,.d (ki.sig v315)),(19,.d (ki.sig (a0.Up.length:Int))),(20,.d (ki.sig v421)),(40,.d (ki.sig (a0.Up.length:Int))),(41,.d (ki.sig v459)),(60,.d (kB.sig x466))]) (fun x466=>[]) ?_ ?_
          ·obtain⟨y467,hy467,h⟩:=bd h
           obtain⟨hp468,h⟩|⟨hp468,h⟩:=ik h
           ·obtain⟨y469,hy469,h⟩:=bd h
            obtain⟨hp470,h⟩|⟨hp470,h⟩:=ik h
            ·obtain⟨y471,hy471,h⟩:=bd h
             exact rx (c3<|cC (au.ok hy467)<|c4<|cgB hp468.1 u u (oCall u (au.ok hy469) b101 (oc tm (oc tm (oc tm o0)))) (s3 u u u)<|c4<|c1<|cgB hp470.1 u u (oCall u (au.ok hy471) b101 (oc tm (oc tm (oc tm o0)))) (s3 u u u)<|c2<|.nil)<|pJ1 _ (so h) (sb u) u
            ·exact rx (c3<|cC (au.ok hy467)<|c4<|cgB hp468.1 u u (oCall u (au.ok hy469) b101 (oc tm (oc tm (oc tm o0)))) (s3 u u u)<|c8<|.nil)<|pJ1 _ (so h) (sb u) u
           ·exact rx (c3<|cC (au.ok hy467)<|c12<|c1<|.nil)<|pJ1 _ (so h) (sb u) u
          ·rintro x466 rfl
           replace h:=hk4
           obtain⟨hp472,h⟩|⟨hp472,h⟩:=ik h
           ·refine wBT hp472.1 tm (s1 u)<|wSeq<|rx (c1<|.nil)<|pSeq<|wRet<|pBlkR<|pThenR<|pThenR<|pBlkR<|pThenR ?_
            obtain rfl:=so h
            replace h:=hk3
            refine pBlkR<|pThenR<|pThenR<|pBlkR<|pThenR ?_
            obtain rfl:=so h
            replace h:=hk2
            refine pBlkR<|pThenR<|pThenR<|pBlkR<|pThenR ?_
            obtain rfl:=so h
            replace h:=hk1
            refine pThenR ?_
            obtain rfl:=so h
            exact pR1 (.inl u) u (.tmp u<|.nil)
           ·exact wBF hp472.1 tm (s1 u)<|wSkip<|pBlkN<|pSeq<|rx (c2<|.nil)<|pLoop (lW (ih _ h) ⟨u,u,u,u,u,u,u,u,u,tv⟩ u)
         ·exact wCF hp460.1 tm (s1 u)<|wExit<|pThenX<|pThenX<|pBlkX<|pJ0 (so h) (sb u) u
        ·rintro rfl
         replace h:=hk3
         exact pBlkN<|pSeq<|rx (c2<|.nil)<|pLoop (lW (ih _ h) ⟨u,u,u,u,u,u,tv⟩ u)
     ·exact wCF hp422.1 tm (s1 u)<|wExit<|pThenX<|pThenX<|pBlkX<|pJ0 (so h) (sb u) u
    ·rintro rfl
     replace h:=hk2
     exact pBlkN<|pSeq<|rx (c2<|.nil)<|pLoop (lW (ih _ h) ⟨u,u,u,tv⟩ u)
  ·exact wCF hp316.1 tm (s1 u)<|wExit<|pThenX<|pThenX<|pBlkX<|pJ0 (so h) tv u
 ·rintro rfl
  replace h:=hk1
  refine pSeq<|wSeq<|rx (c1<|.nil)<|pSeq<|wRet ?_
  obtain rfl:=so h
  exact pR1 (.inl u) u (.tmp u<|.nil)
theorem aT.ok{a0:ab} {a1:Int} {a2:Int} {r:Int}(h:aT.f a0 a1 a2=some r):FnA PP 116 [(kR aj).sig a0,ki.sig a1,ki.sig a2] (ki.sig r):=by
 refine fnIntro Tryz.func116 u (by kernel_rfl) fun H0 w0=>?_
 unfold aT.f at h
 refine wSeq<|rx (c2<|.nil)<|pSeq<|wSeq<|wSeq<|rx (c4<|.nil)<|pSeq ?_
 obtain⟨o1,h,hk1⟩:=bd h
 refine wK0 (.inr ()=o1) ([]) ([]) ?_ ?_
 ·refine wBlock (wLoop ?_)
  refine lW (pc1 o1 (fun v181=>[(1,.d (ki.sig a1)),(2,.d (ki.sig a2)),(3,.d (sP (kR aj) a0)),(12,.d (ki.sig (a0.Up.length:Int))),(13,.d (ki.sig v181))]) (fun v181=>[]) (aT.l2.partial_correctness a0 a1 a2) ?_ _ h) ⟨u,u,u,u,u,tv⟩ u
  clear h
  intro f' ih v181 h
  refine wSeq<|rx (c1<|.nil)<|pSeq<|wSeq ?_
  obtain⟨hp182,h⟩|⟨hp182,h⟩:=ik h
  ·refine wCT hp182.1 tm (s1 u)<|wSkip<|pSeq<|wSeq<|wBlock<|wSeq<|rx (c2<|.nil)<|pSeq ?_
   obtain⟨o2,h,hk2⟩:=bd h
   refine wJ1 (fun x186=>x186=o2) (fun x186=>[(1,.d (ki.sig a1)),(2,.d (ki.sig a2)),(3,.d (sP (kR aj) a0)),(7,.d (ki.sig v181)),(8,.d (kB.sig x186)),(12,.d (ki.sig (a0.Up.length:Int))),(13,.d (ki.sig v181))]) (fun x186=>[]) ?_ ?_
   ·obtain⟨y187,hy187,h⟩:=bd h
    obtain⟨hp188,h⟩|⟨hp188,h⟩:=ik h
    ·obtain⟨y189,hy189,h⟩:=bd h
     exact rx (c3<|cC (au.ok hy187)<|c4<|cgB hp188.1 u u (oCall u (au.ok hy189) b101 (oc tm (oc tm (oc tm o0)))) (s3 u u u)<|c2<|.nil)<|pJ1 _ (so h) (sb u) u
    ·exact rx (c3<|cC (au.ok hy187)<|c6<|c1<|.nil)<|pJ1 _ (so h) (sb u) u
   ·rintro x186 rfl
    replace h:=hk2
    refine wSeq<|wSeq<|rx (c4<|.nil)<|pSeq ?_
    obtain⟨o2,h,hk2⟩:=bd h
    refine wK1 (fun x244=>x244=o2) (fun x244=>[(1,.d (ki.sig a1)),(2,.d (ki.sig a2)),(3,.d (sP (kR aj) a0)),(7,.d (ki.sig v181)),(8,.d (kB.sig x244)),(12,.d (ki.sig (a0.Up.length:Int))),(13,.d (ki.sig v181))]) (fun x244=>[]) ?_ ?_
    ·refine wBlock (wLoop ?_)
     refine lW (pc2 o2 (fun v242 v243=>[(1,.d (ki.sig a1)),(2,.d (ki.sig a2)),(3,.d (sP (kR aj) a0)),(7,.d (ki.sig v181)),(8,.d (kB.sig v243)),(12,.d (ki.sig (a0.Up.length:Int))),(13,.d (ki.sig v181)),(28,.d (ki.sig (a0.Up.length:Int))),(29,.d (ki.sig v242))]) (fun v242 v243=>[]) (aT.l3.partial_correctness a0 a1 a2 v181) ?_ _ _ h) ⟨u,u,u,u,u,u,u,u,u,tv⟩ u
     clear h
     intro f' ih v242 v243 h
     refine wSeq<|rx (c1<|.nil)<|pSeq<|wSeq ?_
     obtain⟨hp245,h⟩|⟨hp245,h⟩:=ik h
     ·refine wCT hp245.1 tm (s1 u)<|wSkip<|pSeq ?_
      obtain⟨o3,h,hk3⟩:=bd h
      refine wJ1 (fun x258=>x258=o3) (fun x258=>[(1,.d (ki.sig a1)),(2,.d (ki.sig a2)),(3,.d (sP (kR aj) a0)),(7,.d (ki.sig v181)),(8,.d (kB.sig x258)),(12,.d (ki.sig (a0.Up.length:Int))),(13,.d (ki.sig v181)),(28,.d (ki.sig (a0.Up.length:Int))),(29,.d (ki.sig v242))]) (fun x258=>[]) ?_ ?_
      ·refine wBlock<|wSeq<|rx (c2<|.nil)<|pSeq ?_
       obtain⟨o4,h,hk4⟩:=bd h
       refine wJ1 (fun x264=>x264=o4) (fun x264=>[(1,.d (ki.sig a1)),(2,.d (ki.sig a2)),(3,.d (sP (kR aj) a0)),(7,.d (ki.sig v181)),(8,.d (kB.sig v243)),(12,.d (ki.sig (a0.Up.length:Int))),(13,.d (ki.sig v181)),(28,.d (ki.sig (a0.Up.length:Int))),(29,.d (ki.sig v242)),(48,.d (kB.sig x264))]) (fun x264=>[]) ?_ ?_
       ·obtain⟨y265,hy265,h⟩:=bd h
        obtain⟨hp266,h⟩|⟨hp266,h⟩:=ik h
        ·obtain⟨y267,hy267,h⟩:=bd h
         obtain⟨hp268,h⟩|⟨hp268,h⟩:=ik h
         ·obtain⟨y269,hy269,h⟩:=bd h
          exact rx (c3<|cC (au.ok hy265)<|c4<|cgB hp266.1 u u (oCall u (au.ok hy267) b101 (oc tm (oc tm (oc tm o0)))) (s3 u u u)<|c4<|c1<|cgB hp268.1 u u (oCall u (au.ok hy269) b101 (oc tm (oc tm (oc tm o0)))) (s3 u u u)<|c2<|.nil)<|pJ1 _ (so h) (sb u) u
         ·exact rx (c3<|cC (au.ok hy265)<|c4<|cgB hp266.1 u u (oCall u (au.ok hy267) b101 (oc tm (oc tm (oc tm o0)))) (s3 u u u)<|c8<|.nil)<|pJ1 _ (so h) (sb u) u
        ·exact rx (c3<|cC (au.ok hy265)<|c12<|c1<|.nil)<|pJ1 _ (so h) (sb u) u
       ·rintro x264 rfl
        replace h:=hk4
        obtain⟨hp270,h⟩|⟨hp270,h⟩:=ik h
        ·exact wBT hp270.1 tm (s1 u)<|rx (c1<|.nil)<|pBlkN<|pJ1 _ (so h) (sb u) u
        ·exact wBF hp270.1 tm (s1 u)<|wSkip<|pBlkN<|pJ1 _ (so h) (sb u) u
      ·rintro x258 rfl
       replace h:=hk3
       exact rx (c2<|.nil)<|pLoop (lW (ih _ _ h) ⟨u,u,u,u,u,u,u,u,u,tv⟩ u)
     ·exact wCF hp245.1 tm (s1 u)<|wExit<|pThenX<|pThenX<|pBlkX<|pJ1 _ (so h) (sb u) u
    ·rintro x244 rfl
     replace h:=hk2
     refine pSeq<|wSeq<|rx (c1<|.nil)<|pSeq ?_
     obtain⟨hp271,h⟩|⟨hp271,h⟩:=ik h
     ·refine wBT hp271.1 tm (s1 u)<|wSeq<|rx (c2<|.nil)<|pSeq<|wRet<|pBlkR<|pThenR<|pThenR<|pBlkR<|pThenR ?_
      obtain rfl:=so h
      replace h:=hk1
      refine pThenR ?_
      obtain rfl:=so h
      exact pR1 (.inl u) u (.tmp u<|.nil)
     ·exact wBF hp271.1 tm (s1 u)<|wSkip<|pBlkN<|pSeq<|rx (c2<|.nil)<|pLoop (lW (ih _ h) ⟨u,u,u,u,u,tv⟩ u)
  ·exact wCF hp182.1 tm (s1 u)<|wExit<|pThenX<|pThenX<|pBlkX<|pJ0 (so h) tv u
 ·rintro rfl
  replace h:=hk1
  refine pSeq<|wSeq<|rx (c1<|.nil)<|pSeq<|wRet ?_
  obtain rfl:=so h
  exact pR1 (.inl u) u (.tmp u<|.nil)
theorem aU.ok{a0:ab} {a1:Int} {a2:Int} {r:Int}(h:aU.f a0 a1 a2=some r):FnA PP 117 [(kR aj).sig a0,ki.sig a1,ki.sig a2] (ki.sig r):=by
 refine fnIntro Tryz.func117 u (by kernel_rfl) fun H0 w0=>?_
 unfold aU.f at h
 refine wSeq<|rx (c2<|.nil)<|pSeq<|wSeq<|wSeq<|rx (c4<|.nil)<|pSeq ?_
 obtain⟨o1,h,hk1⟩:=bd h
 refine wK0 (.inr ()=o1) ([]) ([]) ?_ ?_
 ·refine wBlock (wLoop ?_)
  refine lW (pc1 o1 (fun v181=>[(1,.d (ki.sig a1)),(2,.d (ki.sig a2)),(3,.d (sP (kR aj) a0)),(12,.d (ki.sig (a0.Up.length:Int))),(13,.d (ki.sig v181))]) (fun v181=>[]) (aU.l2.partial_correctness a0 a1 a2) ?_ _ h) ⟨u,u,u,u,u,tv⟩ u
  clear h
  intro f' ih v181 h
  refine wSeq<|rx (c1<|.nil)<|pSeq<|wSeq ?_
  obtain⟨hp182,h⟩|⟨hp182,h⟩:=ik h
  ·refine wCT hp182.1 tm (s1 u)<|wSkip<|pSeq<|wSeq<|wBlock<|wSeq<|rx (c2<|.nil)<|pSeq ?_
   obtain⟨o2,h,hk2⟩:=bd h
   refine wJ1 (fun x186=>x186=o2) (fun x186=>[(1,.d (ki.sig a1)),(2,.d (ki.sig a2)),(3,.d (sP (kR aj) a0)),(7,.d (ki.sig v181)),(8,.d (kB.sig x186)),(12,.d (ki.sig (a0.Up.length:Int))),(13,.d (ki.sig v181))]) (fun x186=>[]) ?_ ?_
   ·obtain⟨y187,hy187,h⟩:=bd h
    obtain⟨hp188,h⟩|⟨hp188,h⟩:=ik h
    ·obtain⟨y189,hy189,h⟩:=bd h
     exact rx (c3<|cC (au.ok hy187)<|c4<|cgB hp188.1 u u (oCall u (au.ok hy189) b101 (oc tm (oc tm (oc tm o0)))) (s3 u u u)<|c2<|.nil)<|pJ1 _ (so h) (sb u) u
    ·exact rx (c3<|cC (au.ok hy187)<|c6<|c1<|.nil)<|pJ1 _ (so h) (sb u) u
   ·rintro x186 rfl
    replace h:=hk2
    refine wSeq<|wSeq<|rx (c4<|.nil)<|pSeq ?_
    obtain⟨o2,h,hk2⟩:=bd h
    refine wK1 (fun x244=>x244=o2) (fun x244=>[(1,.d (ki.sig a1)),(2,.d (ki.sig a2)),(3,.d (sP (kR aj) a0)),(7,.d (ki.sig v181)),(8,.d (kB.sig x244)),(12,.d (ki.sig (a0.Up.length:Int))),(13,.d (ki.sig v181))]) (fun x244=>[]) ?_ ?_
    ·refine wBlock (wLoop ?_)
     refine lW (pc2 o2 (fun v242 v243=>[(1,.d (ki.sig a1)),(2,.d (ki.sig a2)),(3,.d (sP (kR aj) a0)),(7,.d (ki.sig v181)),(8,.d (kB.sig v243)),(12,.d (ki.sig (a0.Up.length:Int))),(13,.d (ki.sig v181)),(28,.d (ki.sig (a0.Up.length:Int))),(29,.d (ki.sig v242))]) (fun v242 v243=>[]) (aU.l3.partial_correctness a0 a1 a2 v181) ?_ _ _ h) ⟨u,u,u,u,u,u,u,u,u,tv⟩ u
     clear h
     intro f' ih v242 v243 h
     refine wSeq<|rx (c1<|.nil)<|pSeq<|wSeq ?_
     obtain⟨hp245,h⟩|⟨hp245,h⟩:=ik h
     ·refine wCT hp245.1 tm (s1 u)<|wSkip<|pSeq ?_
      obtain⟨o3,h,hk3⟩:=bd h
      refine wJ1 (fun x258=>x258=o3) (fun x258=>[(1,.d (ki.sig a1)),(2,.d (ki.sig a2)),(3,.d (sP (kR aj) a0)),(7,.d (ki.sig v181)),(8,.d (kB.sig x258)),(12,.d (ki.sig (a0.Up.length:Int))),(13,.d (ki.sig v181)),(28,.d (ki.sig (a0.Up.length:Int))),(29,.d (ki.sig v242))]) (fun x258=>[]) ?_ ?_
      ·refine wBlock<|wSeq<|rx (c2<|.nil)<|pSeq ?_
       obtain⟨o4,h,hk4⟩:=bd h
       refine wJ1 (fun x264=>x264=o4) (fun x264=>[(1,.d (ki.sig a1)),(2,.d (ki.sig a2)),(3,.d (sP (kR aj) a0)),(7,.d (ki.sig v181)),(8,.d (kB.sig v243)),(12,.d (ki.sig (a0.Up.length:Int))),(13,.d (ki.sig v181)),(28,.d (ki.sig (a0.Up.length:Int))),(29,.d (ki.sig v242)),(48,.d (kB.sig x264))]) (fun x264=>[]) ?_ ?_
       ·obtain⟨y265,hy265,h⟩:=bd h
        obtain⟨hp266,h⟩|⟨hp266,h⟩:=ik h
        ·obtain⟨y267,hy267,h⟩:=bd h
         obtain⟨hp268,h⟩|⟨hp268,h⟩:=ik h
         ·obtain⟨y269,hy269,h⟩:=bd h
          exact rx (c3<|cC (au.ok hy265)<|c4<|cgB hp266.1 u u (oCall u (au.ok hy267) b101 (oc tm (oc tm (oc tm o0)))) (s3 u u u)<|c4<|c1<|cgB hp268.1 u u (oCall u (au.ok hy269) b101 (oc tm (oc tm (oc tm o0)))) (s3 u u u)<|c2<|.nil)<|pJ1 _ (so h) (sb u) u
         ·exact rx (c3<|cC (au.ok hy265)<|c4<|cgB hp266.1 u u (oCall u (au.ok hy267) b101 (oc tm (oc tm (oc tm o0)))) (s3 u u u)<|c8<|.nil)<|pJ1 _ (so h) (sb u) u
        ·exact rx (c3<|cC (au.ok hy265)<|c12<|c1<|.nil)<|pJ1 _ (so h) (sb u) u
       ·rintro x264 rfl
        replace h:=hk4
        obtain⟨hp270,h⟩|⟨hp270,h⟩:=ik h
        ·exact wBT hp270.1 tm (s1 u)<|rx (c1<|.nil)<|pBlkN<|pJ1 _ (so h) (sb u) u
        ·exact wBF hp270.1 tm (s1 u)<|wSkip<|pBlkN<|pJ1 _ (so h) (sb u) u
      ·rintro x258 rfl
       replace h:=hk3
       exact rx (c2<|.nil)<|pLoop (lW (ih _ _ h) ⟨u,u,u,u,u,u,u,u,u,tv⟩ u)
     ·exact wCF hp245.1 tm (s1 u)<|wExit<|pThenX<|pThenX<|pBlkX<|pJ1 _ (so h) (sb u) u
    ·rintro x244 rfl
     replace h:=hk2
     refine pSeq<|wSeq<|rx (c1<|.nil)<|pSeq ?_
     obtain⟨hp271,h⟩|⟨hp271,h⟩:=ik h
     ·refine wBT hp271.1 tm (s1 u)<|wSeq<|rx (c2<|.nil)<|pSeq<|wRet<|pBlkR<|pThenR<|pThenR<|pBlkR<|pThenR ?_
      obtain rfl:=so h
      replace h:=hk1
      refine pThenR ?_
      obtain rfl:=so h
      exact pR1 (.inl u) u (.tmp u<|.nil)
     ·exact wBF hp271.1 tm (s1 u)<|wSkip<|pBlkN<|pSeq<|rx (c2<|.nil)<|pLoop (lW (ih _ h) ⟨u,u,u,u,u,tv⟩ u)
  ·exact wCF hp182.1 tm (s1 u)<|wExit<|pThenX<|pThenX<|pBlkX<|pJ0 (so h) tv u
 ·rintro rfl
  replace h:=hk1
  refine pSeq<|wSeq<|rx (c1<|.nil)<|pSeq<|wRet ?_
  obtain rfl:=so h
  exact pR1 (.inl u) u (.tmp u<|.nil)
theorem bk.ok{a0:ab} {r:Int}(h:bk.f a0=some r):FnA PP 71 [(kR aj).sig a0] (ki.sig r):=by
 refine fnIntro Tryz.func71 u (by kernel_rfl) fun H0 w0=>?_
 unfold bk.f at h
 refine wSeq<|rx (c2<|.nil)<|pSeq<|wSeq<|wSeq ?_
 obtain⟨y1,hy1,h⟩:=bd h
 refine rx (c1<|cC (br.ok hy1)<|c1<|.nil)<|pSeq ?_
 obtain⟨hp2,h⟩|⟨hp2,h⟩:=ik h
 ·refine wBT hp2.1 tm (s1 u)<|wSeq<|rx (c1<|.nil)<|pSeq<|wRet<|pThenR ?_
  obtain rfl:=so h
  exact pR1 (.inl u) u (.tmp u<|.nil)
 ·refine wBF hp2.1 tm (s1 u)<|wSkip<|pSeq<|wSeq<|wSeq ?_
  obtain⟨y3,hy3,h⟩:=bd h
  refine rx (c1<|cC (aN.ok hy3)<|c1<|.nil)<|pSeq ?_
  obtain⟨hp4,h⟩|⟨hp4,h⟩:=ik h
  ·refine wBT hp4.1 tm (s1 u)<|wSeq<|rx (c1<|.nil)<|pSeq<|wRet<|pThenR ?_
   obtain rfl:=so h
   exact pR1 (.inl u) u (.tmp u<|.nil)
  ·refine wBF hp4.1 tm (s1 u)<|wSkip<|pSeq<|wSeq<|wSeq<|rx (c4<|.nil)<|pSeq ?_
   obtain⟨o1,h,hk1⟩:=bd h
   refine wK0 (.inr ()=o1) ([]) ([]) ?_ ?_
   ·refine wBlock (wLoop ?_)
    refine lW (pc1 o1 (fun v63=>[(1,.d (sP (kR aj) a0)),(13,.d (ki.sig (a0.Up.length:Int))),(14,.d (ki.sig v63))]) (fun v63=>[]) (bk.l2.partial_correctness a0) ?_ _ h) ⟨u,u,u,tv⟩ u
    clear h
    intro f' ih v63 h
    refine wSeq<|rx (c1<|.nil)<|pSeq<|wSeq ?_
    obtain⟨hp64,h⟩|⟨hp64,h⟩:=ik h
    ·refine wCT hp64.1 tm (s1 u)<|wSkip<|pSeq<|wSeq<|wBlock<|wSeq<|rx (c2<|.nil)<|pSeq<|wSeq<|rx (c4<|.nil)<|pSeq ?_
     obtain⟨o2,h,hk2⟩:=bd h
     refine wK0 (.inr ()=o2) ([(1,.d (sP (kR aj) a0)),(13,.d (ki.sig (a0.Up.length:Int))),(14,.d (ki.sig v63))]) ([]) ?_ ?_
     ·refine wBlock (wLoop ?_)
      refine lW (pc1 o2 (fun v83=>[(1,.d (sP (kR aj) a0)),(3,.d (ki.sig v63)),(13,.d (ki.sig (a0.Up.length:Int))),(14,.d (ki.sig v63)),(19,.d (ki.sig (a0.Up.length:Int))),(20,.d (ki.sig v83))]) (fun v83=>[]) (bk.l3.partial_correctness a0 v63) ?_ _ h) ⟨u,u,u,u,u,u,tv⟩ u
      clear h
      intro f' ih v83 h
      refine wSeq<|rx (c1<|.nil)<|pSeq<|wSeq ?_
      obtain⟨hp84,h⟩|⟨hp84,h⟩:=ik h
      ·refine wCT hp84.1 tm (s1 u)<|wSkip<|pSeq<|wSeq<|wBlock<|wSeq<|rx (c2<|.nil)<|pSeq ?_
       obtain⟨o3,h,hk3⟩:=bd h
       refine wJ1 (fun x88=>x88=o3) (fun x88=>[(1,.d (sP (kR aj) a0)),(3,.d (ki.sig v63)),(13,.d (ki.sig (a0.Up.length:Int))),(14,.d (ki.sig v63)),(19,.d (ki.sig (a0.Up.length:Int))),(20,.d (ki.sig v83)),(34,.d (kB.sig x88))]) (fun x88=>[]) ?_ ?_
       ·obtain⟨y89,hy89,h⟩:=bd h
        obtain⟨hp90,h⟩|⟨hp90,h⟩:=ik h
        ·exact rx (c3<|cC (aT.ok hy89)<|c8<|.nil)<|pJ1 _ (so h) (sb u) u
        ·obtain⟨y91,hy91,h⟩:=bd h
         exact rx (c3<|cC (aT.ok hy89)<|c4<|c1<|cgB (dF hp90.1) u u (oCall u (aU.ok hy91) b117 (oc tm (oc tm (oc tm o0)))) (s3 u u u)<|c2<|.nil)<|pJ1 _ (so h) (sb u) u
       ·rintro x88 rfl
        replace h:=hk3
        obtain⟨hp92,h⟩|⟨hp92,h⟩:=ik h
        ·refine wBT hp92.1 tm (s1 u)<|wSeq<|rx (c1<|.nil)<|pSeq<|wRet<|pBlkR<|pThenR<|pThenR<|pBlkR<|pThenR ?_
         obtain rfl:=so h
         replace h:=hk2
         refine pBlkR<|pThenR<|pThenR<|pBlkR<|pThenR ?_
         obtain rfl:=so h
         replace h:=hk1
         refine pThenR ?_
         obtain rfl:=so h
         exact pR1 (.inl u) u (.tmp u<|.nil)
        ·exact wBF hp92.1 tm (s1 u)<|wSkip<|pBlkN<|pSeq<|rx (c2<|.nil)<|pLoop (lW (ih _ h) ⟨u,u,u,u,u,u,tv⟩ u)
      ·exact wCF hp84.1 tm (s1 u)<|wExit<|pThenX<|pThenX<|pBlkX<|pJ0 (so h) (sb u) u
     ·rintro rfl
      replace h:=hk2
      exact pBlkN<|pSeq<|rx (c2<|.nil)<|pLoop (lW (ih _ h) ⟨u,u,u,tv⟩ u)
    ·exact wCF hp64.1 tm (s1 u)<|wExit<|pThenX<|pThenX<|pBlkX<|pJ0 (so h) tv u
   ·rintro rfl
    replace h:=hk1
    refine pSeq<|wSeq<|rx (c1<|.nil)<|pSeq<|wRet ?_
    obtain rfl:=so h
    exact pR1 (.inl u) u (.tmp u<|.nil)
theorem ct.ok{a0:List Int} {a1:Int} {r:Bool}(h:ct.f a0 a1=some r):FnA PP 187 [(kL ki).sig a0,ki.sig a1] (kB.sig r):=by
 refine fnIntro Tryz.func187 u (by kernel_rfl) fun H0 w0=>?_
 unfold ct.f at h
 refine wSeq<|rx (c1<|.nil)<|pSeq<|wSeq<|rx (c3<|.nil)<|pSeq ?_
 obtain⟨o1,h,hk1⟩:=bd h
 refine wJ1 (fun x5=>x5=o1) (fun x5=>[(4,.d (kB.sig x5))]) (fun x5=>[]) ?_ ?_
 ·obtain⟨hp6,h⟩|⟨hp6,h⟩:=ik h
  ·obtain⟨y7,hy7,h⟩:=bd h
   obtain⟨hp8,h⟩|⟨hp8,h⟩:=ik h
   ·obtain⟨y9,hy9,h⟩:=bd h
    exact rx (c6<|cgB (dT hp6.1) u u (oIdx u56 z3 hy7 tm tm) (s2 u u)<|c8<|cgB (dT hp8.1) u u (oIdx u56 z3 hy9 tm tm) (s2 u u)<|c4<|c1<|.nil)<|pJ1 _ (so h) (sb u) u
   ·exact rx (c6<|cgB (dT hp6.1) u u (oIdx u56 z3 hy7 tm tm) (s2 u u)<|c12<|c2<|.nil)<|pJ1 _ (so h) (sb u) u
  ·exact rx (c12<|c8<|c1<|.nil)<|pJ1 _ (so h) (sb u) u
 ·rintro x5 rfl
  replace h:=hk1
  refine wRet ?_
  obtain rfl:=so h
  exact pR1 (.inl u) u (.tmp u<|.nil)
theorem bV.ok{a0:List Int} {r:Int}(h:bV.f a0=some r):FnA PP 163 [(kL ki).sig a0] (ki.sig r):=by
 refine fnIntro Tryz.func163 u (by kernel_rfl) fun H0 w0=>?_
 unfold bV.f at h
 refine wSeq<|rx (c1<|.nil)<|pSeq<|wSeq<|rx (cw (oLitR (id:=7) (d:=ki) el56 (by decide) u u u e0) tv<|c1<|.nil)<|pSeq<|wSeq<|wSeq<|rx (c3<|.nil)<|pSeq<|wWeak (Γ':=[(0,.d ((kL ki).sig a0)),(3,.v 7),(8,.d ((kL ki).sig a0)),(9,.d (ki.sig (a0.length:Int))),(10,.d (ki.sig 0))]) (sb u)<|wRen 7 1003 u ?_
 obtain⟨o1,h,hk1⟩:=bd h
 refine wK1 (fun x171=>.inr x171=o1) (fun x171=>[(0,.d ((kL ki).sig a0)),(3,.v 1003)]) (fun x171=>[.row 1003 3 ki x171]) ?_ ?_
 ·refine wBlock (wLoop ?_)
  refine lW (pc2 o1 (fun v169 v170=>[(0,.d ((kL ki).sig a0)),(3,.v 1003),(8,.d ((kL ki).sig a0)),(9,.d (ki.sig (a0.length:Int))),(10,.d (ki.sig v170))]) (fun v169 v170=>[.row 1003 3 ki v169]) (bV.l0.partial_correctness a0) ?_ _ _ h) ⟨u,u,u,u,u,tv⟩ u
  clear h
  intro f' ih v169 v170 h
  refine wSeq<|rx (c1<|.nil)<|pSeq<|wSeq ?_
  obtain⟨hp172,h⟩|⟨hp172,h⟩:=ik h
  ·refine wCT hp172.1 tm (s1 u)<|wSkip<|pSeq ?_
   obtain⟨o2,h,hk2⟩:=bd h
   refine wJ1 (fun x214=>.inr x214=o2) (fun x214=>[(0,.d ((kL ki).sig a0)),(3,.v 1003),(8,.d ((kL ki).sig a0)),(9,.d (ki.sig (a0.length:Int))),(10,.d (ki.sig v170))]) (fun x214=>[.row 1003 3 ki x214]) ?_ ?_
   ·refine wBlock<|wSeq ?_
    obtain⟨y215,hy215,h⟩:=bd h
    refine rx (cp (oIdx u56 z3 hy215 tm tm) (s2 u u)<|c2<|.nil)<|pSeq<|wSeq<|rx (c1<|cr (oLenR (n:=0) u56 u tm) (s1 u)<|c1<|.nil)<|pSeq ?_
    obtain⟨o3,h,hk3⟩:=bd h
    refine wJ1 (fun x217=>x217=o3) (fun x217=>[(0,.d ((kL ki).sig a0)),(3,.v 1003),(5,.d (ki.sig y215)),(6,.d (ki.sig (v169.length:Int))),(8,.d ((kL ki).sig a0)),(9,.d (ki.sig (a0.length:Int))),(10,.d (ki.sig v170)),(21,.d (kB.sig x217))]) (fun x217=>[.row 1003 3 ki v169]) ?_ ?_
    ·obtain⟨hp218,h⟩|⟨hp218,h⟩:=ik h
     ·exact rx (c6<|.nil)<|pJ1 _ (so h) (sb u) u
     ·exact rx (c6<|.nil)<|pJ1 _ (so h) (sb u) u
    ·rintro x217 rfl
     replace h:=hk3
     obtain⟨hp219,h⟩|⟨hp219,h⟩:=ik h
     ·refine wBT hp219.1 tm (s1 u) ?_
      obtain⟨hc220,h⟩:=ib h
      exact rx (c1<|cp (oLit (d:=ki) el56 (by decide) u u u (e1 (cI (by decide)) e0)) tv<|cw (oApp (n:=0) (id':=24) el56 (by decide) u (by decide) hc220 tm tm) (s2 u u)<|c1<|.nil)<|pBlkN<|pSub (Γ':=[(0,.d ((kL ki).sig a0)),(3,.v 24),(8,.d ((kL ki).sig a0)),(9,.d (ki.sig (a0.length:Int))),(10,.d (ki.sig v170))]) (sb u)<|pRen 24 1003 u<|pJ1 _ (so h) (sb u) u
     ·refine wBF hp219.1 tm (s1 u) ?_
      obtain⟨o3,h,hk3⟩:=bd h
      refine wJ1 (fun x222=>x222=o3) (fun x222=>[(0,.d ((kL ki).sig a0)),(3,.v 1003),(5,.d (ki.sig y215)),(6,.d (ki.sig (v169.length:Int))),(8,.d ((kL ki).sig a0)),(9,.d (ki.sig (a0.length:Int))),(10,.d (ki.sig v170)),(30,.d (kB.sig x222))]) (fun x222=>[.row 1003 3 ki v169]) ?_ ?_
      ·obtain⟨hp223,h⟩|⟨hp223,h⟩:=ik h
       ·exact rx (c6<|.nil)<|pJ1 _ (so h) (sb u) u
       ·exact rx (c6<|.nil)<|pJ1 _ (so h) (sb u) u
      ·rintro x222 rfl
       replace h:=hk3
       obtain⟨hp224,h⟩|⟨hp224,h⟩:=ik h
       ·refine wBT hp224.1 tm (s1 u) ?_
        obtain⟨hc225,h⟩:=ib h
        exact rx (c1<|cp (oLit (d:=ki) el56 (by decide) u u u (e1 (cI (by decide)) e0)) tv<|cw (oApp (n:=0) (id':=33) el56 (by decide) u (by decide) hc225 tm tm) (s2 u u)<|c1<|.nil)<|pBlkN<|pSub (Γ':=[(0,.d ((kL ki).sig a0)),(3,.v 33),(8,.d ((kL ki).sig a0)),(9,.d (ki.sig (a0.length:Int))),(10,.d (ki.sig v170))]) (sb u)<|pRen 33 1003 u<|pJ1 _ (so h) (sb u) u
       ·refine wBF hp224.1 tm (s1 u) ?_
        obtain⟨o3,h,hk3⟩:=bd h
        refine wJ1 (fun x230=>x230=o3) (fun x230=>[(0,.d ((kL ki).sig a0)),(3,.v 1003),(5,.d (ki.sig y215)),(6,.d (ki.sig (v169.length:Int))),(8,.d ((kL ki).sig a0)),(9,.d (ki.sig (a0.length:Int))),(10,.d (ki.sig v170)),(43,.d (kB.sig x230))]) (fun x230=>[.row 1003 3 ki v169]) ?_ ?_
        ·obtain⟨hp231,h⟩|⟨hp231,h⟩:=ik h
         ·obtain⟨y232,hy232,h⟩:=bd h
          exact rx (c8<|crgB u u u (oCallB u (ct.ok hy232) (fK fB) b187 (rc1 (rR (n:=0) u) (rc1 (rD (cI (by decide))) rn0))) (s1 u)<|c1<|.nil)<|pJ1 _ (so h) (sb u) u
         ·obtain⟨hp233,h⟩|⟨hp233,h⟩:=ik h
          ·obtain⟨y234,hy234,h⟩:=bd h
           exact rx (c8<|crgB (dT hp233.1) u u (oCallB u (ct.ok hy234) (fK fB) b187 (rc1 (rR (n:=0) u) (rc1 (rD (cI (by decide))) rn0))) (s1 u)<|c1<|.nil)<|pJ1 _ (so h) (sb u) u
          ·exact rx (c8<|c2<|.nil)<|pJ1 _ (so h) (sb u) u
        ·rintro x230 rfl
         replace h:=hk3
         obtain⟨hp235,h⟩|⟨hp235,h⟩:=ik h
         ·refine wBT hp235.1 tm (s1 u) ?_
          obtain⟨hc236,h⟩:=ib h
          exact rx (c3<|cw (oCutR (n:=0) (id':=47) u56 z3 u hc236.1 hc236.2 tm tm) (s2 u u)<|c1<|.nil)<|pBlkN<|pSub (Γ':=[(0,.d ((kL ki).sig a0)),(3,.v 47),(8,.d ((kL ki).sig a0)),(9,.d (ki.sig (a0.length:Int))),(10,.d (ki.sig v170))]) (sb u)<|pRen 47 1003 u<|pJ1 _ (so h) (sb u) u
         ·refine wBF hp235.1 tm (s1 u) ?_
          obtain⟨o3,h,hk3⟩:=bd h
          refine wJ1 (fun x239=>x239=o3) (fun x239=>[(0,.d ((kL ki).sig a0)),(3,.v 1003),(5,.d (ki.sig y215)),(6,.d (ki.sig (v169.length:Int))),(8,.d ((kL ki).sig a0)),(9,.d (ki.sig (a0.length:Int))),(10,.d (ki.sig v170)),(53,.d (kB.sig x239))]) (fun x239=>[.row 1003 3 ki v169]) ?_ ?_
          ·obtain⟨hp240,h⟩|⟨hp240,h⟩:=ik h
           ·obtain⟨y241,hy241,h⟩:=bd h
            exact rx (c4<|crgB (dT hp240.1) u u (oCallB u (ct.ok hy241) (fK fB) b187 (rc1 (rR (n:=0) u) (rc1 (rD (cI (by decide))) rn0))) (s1 u)<|c1<|.nil)<|pJ1 _ (so h) (sb u) u
           ·exact rx (c6<|.nil)<|pJ1 _ (so h) (sb u) u
          ·rintro x239 rfl
           replace h:=hk3
           obtain⟨hp242,h⟩|⟨hp242,h⟩:=ik h
           ·refine wBT hp242.1 tm (s1 u)<|wSeq ?_
            obtain⟨hc243,h⟩:=ib h
            refine rx (c3<|cw (oCutR (n:=0) (id':=57) u56 z3 u hc243.1 hc243.2 tm tm) (s2 u u)<|c1<|.nil)<|pSeq ?_
            obtain⟨hc244,h⟩:=ib h
            exact rx (c1<|cp (oLit (d:=ki) el56 (by decide) u u u (e1 (cI (by decide)) e0)) tv<|cw (oApp (n:=0) (id':=60) el56 (by decide) u (by decide) hc244 tm tm) (s2 u u)<|c1<|.nil)<|pBlkN<|pSub (Γ':=[(0,.d ((kL ki).sig a0)),(3,.v 60),(8,.d ((kL ki).sig a0)),(9,.d (ki.sig (a0.length:Int))),(10,.d (ki.sig v170))]) (sb u)<|pRen 60 1003 u<|pJ1 _ (so h) (sb u) u
           ·refine wBF hp242.1 tm (s1 u) ?_
            obtain⟨o3,h,hk3⟩:=bd h
            refine wJ1 (fun x249=>x249=o3) (fun x249=>[(0,.d ((kL ki).sig a0)),(3,.v 1003),(6,.d (ki.sig (v169.length:Int))),(8,.d ((kL ki).sig a0)),(9,.d (ki.sig (a0.length:Int))),(10,.d (ki.sig v170)),(70,.d (kB.sig x249))]) (fun x249=>[.row 1003 3 ki v169]) ?_ ?_
            ·obtain⟨hp250,h⟩|⟨hp250,h⟩:=ik h
             ·obtain⟨y251,hy251,h⟩:=bd h
              exact rx (c8<|crgB u u u (oCallB u (ct.ok hy251) (fK fB) b187 (rc1 (rR (n:=0) u) (rc1 (rD (cI (by decide))) rn0))) (s1 u)<|c1<|.nil)<|pJ1 _ (so h) (sb u) u
             ·obtain⟨hp252,h⟩|⟨hp252,h⟩:=ik h
              ·obtain⟨y253,hy253,h⟩:=bd h
               exact rx (c8<|crgB (dT hp252.1) u u (oCallB u (ct.ok hy253) (fK fB) b187 (rc1 (rR (n:=0) u) (rc1 (rD (cI (by decide))) rn0))) (s1 u)<|c1<|.nil)<|pJ1 _ (so h) (sb u) u
              ·exact rx (c8<|c2<|.nil)<|pJ1 _ (so h) (sb u) u
            ·rintro x249 rfl
             replace h:=hk3
             obtain⟨hp254,h⟩|⟨hp254,h⟩:=ik h
             ·refine wBT hp254.1 tm (s1 u) ?_
              obtain⟨hc255,h⟩:=ib h
              exact rx (c3<|cw (oCutR (n:=0) (id':=74) u56 z3 u hc255.1 hc255.2 tm tm) (s2 u u)<|c1<|.nil)<|pBlkN<|pSub (Γ':=[(0,.d ((kL ki).sig a0)),(3,.v 74),(8,.d ((kL ki).sig a0)),(9,.d (ki.sig (a0.length:Int))),(10,.d (ki.sig v170))]) (sb u)<|pRen 74 1003 u<|pJ1 _ (so h) (sb u) u
             ·refine wBF hp254.1 tm (s1 u)<|wSeq<|rx (c1<|.nil)<|pSeq<|wRet<|pBlkR<|pThenR ?_
              obtain rfl:=so h
              replace h:=hk2
              refine pThenR<|pBlkR<|pThenR ?_
              obtain rfl:=so h
              replace h:=hk1
              refine pThenR ?_
              obtain rfl:=so h
              exact pR1 (.inl u) u (.tmp u<|.nil)
   ·rintro x214 rfl
    replace h:=hk2
    exact rx (c2<|.nil)<|pLoop (lW (ih _ _ h) ⟨u,u,u,u,u,tv⟩ u)
  ·exact wCF hp172.1 tm (s1 u)<|wExit<|pThenX<|pThenX<|pBlkX<|pJ1 _ (so h) (sb u) u
 ·rintro x171 rfl
  replace h:=hk1
  refine pSeq<|wSeq ?_
  obtain⟨o1,h,hk1⟩:=bd h
  refine wJ1 (fun x257=>x257=o1) (fun x257=>[(3,.v 1003),(83,.d (kB.sig x257))]) (fun x257=>[.row 1003 3 ki x171]) ?_ ?_
  ·obtain⟨hp258,h⟩|⟨hp258,h⟩:=ik h
   ·exact rx (c1<|cr (oLenR (n:=0) u56 u tm) (s1 u)<|c6<|.nil)<|pJ1 _ (so h) (sb u) u
   ·exact rx (c1<|cr (oLenR (n:=0) u56 u tm) (s1 u)<|c6<|.nil)<|pJ1 _ (so h) (sb u) u
  ·rintro x257 rfl
   replace h:=hk1
   obtain⟨hp259,h⟩|⟨hp259,h⟩:=ik h
   ·refine wBT hp259.1 tm (s1 u)<|wSeq<|rx (c1<|.nil)<|pSeq<|wRet<|pThenR ?_
    obtain rfl:=so h
    exact pR1 (.inl u) u (.tmp u<|.nil)
   ·refine wBF hp259.1 tm (s1 u)<|wSkip<|pSeq<|wSeq ?_
    obtain⟨y260,hy260,h⟩:=bd h
    refine rx (c1<|cr (oIdxR (n:=0) u56 z3 u hy260 tm (cI (by decide))) (s1 u)<|cr (oLdE (n:=0) u hy260 u t3 tm) (s1 u)<|c1<|.nil)<|pSeq<|wRet ?_
    obtain rfl:=so h
    exact pR1 (.inl u) u (.tmp u<|.nil)
theorem cA.ok{a0:List Int} {a1:Bool} {r:Bool}(h:cA.f a0 a1=some r):FnA PP 141 [(kL ki).sig a0,kB.sig a1] (kB.sig r):=by
 refine fnIntro Tryz.func141 u (by kernel_rfl) fun H0 w0=>?_
 unfold cA.f at h
 refine wSeq<|rx (c1<|.nil)<|pSeq<|wSeq<|wSeq<|rx (c1<|.nil)<|pSeq ?_
 obtain⟨hp1,h⟩|⟨hp1,h⟩:=ik h
 ·refine wBT hp1.1 tm (s1 u)<|wSeq ?_
  obtain⟨y2,hy2,h⟩:=bd h
  refine rx (c1<|cC (bV.ok hy2)<|c2<|.nil)<|pSeq<|wRet<|pThenR ?_
  obtain rfl:=so h
  exact pR1 (.inl u) u (.tmp u<|.nil)
 ·refine wBF hp1.1 tm (s1 u)<|wSkip<|pSeq<|wSeq ?_
  obtain⟨y3,hy3,h⟩:=bd h
  refine rx (c1<|cC (bV.ok hy3)<|c2<|.nil)<|pSeq<|wRet ?_
  obtain rfl:=so h
  exact pR1 (.inl u) u (.tmp u<|.nil)
theorem eX.ok{a0:Int} {r:Int}(h:eX.f a0=some r):FnA PP 164 [ki.sig a0] (ki.sig r):=by
 refine fnIntro Tryz.func164 u (by kernel_rfl) fun H0 w0=>?_
 unfold eX.f at h
 refine wSeq<|rx (c1<|.nil)<|pSeq<|wSeq ?_
 obtain⟨y1,hy1,h⟩:=bd h
 refine rx (cp (oLit (d:=ki) el56 (by decide) u u u (e1 (cI (by decide)) (e1 (cI (by decide)) (e1 (cI (by decide)) (e1 (cI (by decide)) (e1 (cI (by decide)) (e1 (cI (by decide)) (e1 (cI (by decide)) (e1 (cI (by decide)) (e1 (cI (by decide)) (e1 (cI (by decide)) (e1 (cI (by decide)) (e1 (cI (by decide)) (e1 (cI (by decide)) e0)))))))))))))) tv<|c1<|cp (oIdx u56 z3 hy1 tm tm) (s2 u u)<|c2<|.nil)<|pSeq<|wRet ?_
 obtain rfl:=so h
 exact pR1 (.inl u) u (.tmp u<|.nil)
theorem da.ok{a0:List Int} {a1:Int} {r:Bool}(h:da.f a0 a1=some r):FnA PP 165 [(kL ki).sig a0,ki.sig a1] (kB.sig r):=by
 refine fnIntro Tryz.func165 u (by kernel_rfl) fun H0 w0=>?_
 unfold da.f at h
 refine wSeq<|rx (c1<|.nil)<|pSeq<|wSeq<|wSeq<|rx (c3<|.nil)<|pSeq ?_
 obtain⟨o1,h,hk1⟩:=bd h
 refine wK0 (.inr ()=o1) ([]) ([]) ?_ ?_
 ·refine wBlock (wLoop ?_)
  refine lW (pc1 o1 (fun v7=>[(1,.d (ki.sig a1)),(7,.d ((kL ki).sig a0)),(8,.d (ki.sig (a0.length:Int))),(9,.d (ki.sig v7))]) (fun v7=>[]) (da.l0.partial_correctness a0 a1) ?_ _ h) ⟨u,u,u,u,tv⟩ u
  clear h
  intro f' ih v7 h
  refine wSeq<|rx (c1<|.nil)<|pSeq<|wSeq ?_
  obtain⟨hp8,h⟩|⟨hp8,h⟩:=ik h
  ·refine wCT hp8.1 tm (s1 u)<|wSkip<|pSeq<|wSeq<|wBlock<|wSeq ?_
   obtain⟨y9,hy9,h⟩:=bd h
   refine rx (cp (oIdx u56 z3 hy9 tm tm) (s2 u u)<|c2<|.nil)<|pSeq<|wSeq<|rx (c4<|.nil)<|pSeq ?_
   obtain⟨hp10,h⟩|⟨hp10,h⟩:=ik h
   ·refine wCT hp10.1 tm (s1 u)<|wSeq<|rx (c1<|.nil)<|pSeq<|wRet<|pBlkR<|pThenR<|pThenR<|pBlkR<|pThenR ?_
    obtain rfl:=so h
    replace h:=hk1
    refine pThenR ?_
    obtain rfl:=so h
    exact pR1 (.inl u) u (.tmp u<|.nil)
   ·exact wCF hp10.1 tm (s1 u)<|wSkip<|pBlkN<|pSeq<|rx (c2<|.nil)<|pLoop (lW (ih _ h) ⟨u,u,u,u,tv⟩ u)
  ·exact wCF hp8.1 tm (s1 u)<|wExit<|pThenX<|pThenX<|pBlkX<|pJ0 (so h) tv u
 ·rintro rfl
  replace h:=hk1
  refine pSeq<|wSeq<|rx (c1<|.nil)<|pSeq<|wRet ?_
  obtain rfl:=so h
  exact pR1 (.inl u) u (.tmp u<|.nil)
theorem bN.ok{a0:Int} {a1:List Int} {r:Bool}(h:bN.f a0 a1=some r):FnA PP 142 [ki.sig a0,(kL ki).sig a1] (kB.sig r):=by
 refine fnIntro Tryz.func142 u (by kernel_rfl) fun H0 w0=>?_
 unfold bN.f at h
 refine wSeq<|rx (c1<|.nil)<|pSeq<|wSeq<|wSeq ?_
 obtain⟨y1,hy1,h⟩:=bd h
 refine rx (c1<|cC (eX.ok hy1)<|c2<|.nil)<|pSeq ?_
 obtain⟨o1,h,hk1⟩:=bd h
 refine wK0 (.inr ()=o1) ([]) ([]) ?_ ?_
 ·refine wBlock (wLoop ?_)
  refine lW (pc1 o1 (fun v8=>[(1,.d ((kL ki).sig a1)),(5,.d (ki.sig v8))]) (fun v8=>[]) (bN.l0.partial_correctness a1) ?_ _ h) ⟨u,u,tv⟩ u
  clear h
  intro f' ih v8 h
  refine wSeq<|wSeq<|rx (c2<|.nil)<|pSeq ?_
  obtain⟨hp9,h⟩|⟨hp9,h⟩:=ik h
  ·refine wCT hp9.1 tm (s1 u)<|wSkip<|pSeq<|wSeq<|wBlock<|wSeq ?_
   obtain⟨y10,hy10,h⟩:=bd h
   refine rx (c2<|cC (da.ok hy10)<|.nil)<|pSeq ?_
   obtain⟨hp11,h⟩|⟨hp11,h⟩:=ik h
   ·refine wBT hp11.1 tm (s1 u)<|wSeq<|rx (c1<|.nil)<|pSeq<|wRet<|pBlkR<|pThenR<|pThenR<|pBlkR<|pThenR ?_
    obtain rfl:=so h
    replace h:=hk1
    refine pThenR ?_
    obtain rfl:=so h
    exact pR1 (.inl u) u (.tmp u<|.nil)
   ·exact wBF hp11.1 tm (s1 u)<|wSkip<|pBlkN<|pSeq<|rx (c3<|.nil)<|pLoop (lW (ih _ h) ⟨u,u,tv⟩ u)
  ·exact wCF hp9.1 tm (s1 u)<|wExit<|pThenX<|pThenX<|pBlkX<|pJ0 (so h) tv u
 ·rintro rfl
  replace h:=hk1
  refine pSeq<|wSeq<|rx (c1<|.nil)<|pSeq<|wRet ?_
  obtain rfl:=so h
  exact pR1 (.inl u) u (.tmp u<|.nil)
end Go.Proofs.YtmjcpkmongafnaaGreatDoor.TT
