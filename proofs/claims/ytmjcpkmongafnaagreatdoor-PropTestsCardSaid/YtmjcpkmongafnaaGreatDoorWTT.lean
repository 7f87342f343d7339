import Derived.Test.YtmjcpkmongafnaaGreatDoorCln
import Derived.Test.YtmjcpkmongafnaaGreatDoorWTTp2
import Derived.Test.YtmjcpkmongafnaaGreatDoorProg
set_option linter.unusedVariables false
set_option autoImplicit true
set_option maxRecDepth 10000
set_option maxHeartbeats 2000000
set_option synthInstance.maxHeartbeats 200000
set_option synthInstance.maxSize 2000
namespace Go.Proofs.YtmjcpkmongafnaaGreatDoor.TT
open Go Go.Proofs.YtmjcpkmongafnaaGreatDoor.Ab
theorem bm.ok(h:bm.f b=some r):FnA PP 115 [(kR aC).sig b] (kB.sig r):=by
 refine fJ Tryz.func115 u fun H0 w0=>?_
 unfold bm.f at h
 refine sx (c2<|.nil)<|wSeq<|sx (c4<|.nil) ?_
 obtain⟨F,h,t⟩:=bd h
 refine wK0 (.inr ()=F) ([]) ([]) ?_ ?_
 ·refine wBlock (wLoop ?_)
  refine lW (pc1 F (fun a=>[(1,.d (sP (kR aC) b)),(8,.d (ki.sig (b.Up.length:Int))),(9,.d (ki.sig a))]) (fun a=>[]) (bm.l8.partial_correctness b) ?_ _ h) ⟨u,u,u,tv⟩ u
  clear h
  intro f' ih a h
  refine sx (c1<|.nil)<|wSeq<|jx h (fun e h=>?_) fun e h=>?_
  ·refine wd e u<|wSkip<|pSeq<|wSeq<|wBlock<|sx (c2<|.nil)<|wSeq<|wSeq<|bx h fun H A h=>rx (c3<|cC (aP.ok A)<|c1<|.nil)<|pSeq<|jx h (fun g h=>?_) fun g h=>?_
   ·refine wb g u<|sx (c1<|.nil)<|wRet<|pThenR<|pBlkR<|pThenR<|pThenR<|pBlkR<|pThenR ?_
    obtain rfl:=so h
    replace h:=t
    refine pThenR ?_
    obtain rfl:=so h
    exact pT u u
   ·refine wc g u<|wSkip<|pSeq<|sx (c4<|.nil) ?_
    obtain⟨G,h,z⟩:=bd h
    refine wK0 (.inr ()=G) ([(1,.d (sP (kR aC) b)),(8,.d (ki.sig (b.Up.length:Int))),(9,.d (ki.sig a))]) ([]) ?_ ?_
    ·refine wBlock (wLoop ?_)
     refine lW (pc1 G (fun c=>[(1,.d (sP (kR aC) b)),(3,.d (ki.sig a)),(8,.d (ki.sig (b.Up.length:Int))),(9,.d (ki.sig a)),(19,.d (ki.sig (b.Up.length:Int))),(20,.d (ki.sig c))]) (fun c=>[]) (bm.l11.partial_correctness b a) ?_ _ h) ⟨u,u,u,u,u,u,tv⟩ u
     clear h
     intro f' ih c h
     refine sx (c1<|.nil)<|wSeq<|jx h (fun i h=>?_) fun i h=>?_
     ·refine wd i u<|wSkip<|pSeq<|wSeq<|wBlock<|sx (c2<|.nil)<|wSeq<|wB h (fun q=>[(1,.d (sP (kR aC) b)),(3,.d (ki.sig a)),(4,.d (ki.sig c)),(8,.d (ki.sig (b.Up.length:Int))),(9,.d (ki.sig a)),(19,.d (ki.sig (b.Up.length:Int))),(20,.d (ki.sig c)),(37,.d (kB.sig q))]) (fun q=>[]) (fun E h=>?_) fun q h=>?_
      ·refine jx h (fun j h=>?_) fun j h=>?_
       ·exact ej (c12<|c3<|.nil) (so h) (sb u) u
       ·refine bx h fun I v h=>jx h (fun w h=>?_) fun w h=>?_
        ·exact bx h fun J B h=>ej (c6<|c1<|cgB (nt j.1) u u (oCall u (aP.ok v) b101 (oc tm (oc tm (oc tm o0)))) (s3 u u u)<|c4<|c1<|cgB w.1 u u (oCall u (aP.ok B) b101 (oc tm (oc tm (oc tm o0)))) (s3 u u u)<|c1<|.nil) (so h) (sb u) u
        ·exact ej (c6<|c1<|cgB (nt j.1) u u (oCall u (aP.ok v) b101 (oc tm (oc tm (oc tm o0)))) (s3 u u u)<|c6<|c1<|.nil) (so h) (sb u) u
      ·refine jx h (fun k h=>?_) fun k h=>?_
       ·refine wb k u<|sx (c1<|.nil)<|wRet<|pThenR<|pBlkR<|pThenR<|pThenR<|pBlkR<|pThenR ?_
        obtain rfl:=so h
        replace h:=z
        refine pBlkR<|pThenR<|pThenR<|pBlkR<|pThenR ?_
        obtain rfl:=so h
        replace h:=t
        refine pThenR ?_
        obtain rfl:=so h
        exact pT u u
       ·refine wc k u<|wSkip<|pSeq<|sx (c4<|.nil) ?_
        obtain⟨E,h,D⟩:=bd h
        refine wK0 (.inr ()=E) ([(1,.d (sP (kR aC) b)),(3,.d (ki.sig a)),(8,.d (ki.sig (b.Up.length:Int))),(9,.d (ki.sig a)),(19,.d (ki.sig (b.Up.length:Int))),(20,.d (ki.sig c))]) ([]) ?_ ?_
        ·refine wBlock (wLoop ?_)
         refine lW (pc1 E (fun l=>[(1,.d (sP (kR aC) b)),(3,.d (ki.sig a)),(4,.d (ki.sig c)),(8,.d (ki.sig (b.Up.length:Int))),(9,.d (ki.sig a)),(19,.d (ki.sig (b.Up.length:Int))),(20,.d (ki.sig c)),(40,.d (ki.sig (b.Up.length:Int))),(41,.d (ki.sig l))]) (fun l=>[]) (bm.l12.partial_correctness b a c) ?_ _ h) ⟨u,u,u,u,u,u,u,u,u,tv⟩ u
         clear h
         intro f' ih l h
         refine sx (c1<|.nil)<|wSeq<|jx h (fun m h=>?_) fun m h=>?_
         ·refine wd m u<|wSkip<|pSeq<|wSeq<|wBlock<|sx (c2<|.nil)<|wB h (fun s=>[(1,.d (sP (kR aC) b)),(3,.d (ki.sig a)),(4,.d (ki.sig c)),(8,.d (ki.sig (b.Up.length:Int))),(9,.d (ki.sig a)),(19,.d (ki.sig (b.Up.length:Int))),(20,.d (ki.sig c)),(40,.d (ki.sig (b.Up.length:Int))),(41,.d (ki.sig l)),(60,.d (kB.sig s))]) (fun s=>[]) (fun N h=>?_) fun s h=>?_
          ·refine bx h fun K n h=>jx h (fun o h=>?_) fun o h=>?_
           ·refine bx h fun L x h=>jx h (fun y h=>?_) fun y h=>?_
            ·exact bx h fun M C h=>ej (c3<|cC (aP.ok n)<|c4<|cgB o.1 u u (oCall u (aP.ok x) b101 (oc tm (oc tm (oc tm o0)))) (s3 u u u)<|c4<|c1<|cgB y.1 u u (oCall u (aP.ok C) b101 (oc tm (oc tm (oc tm o0)))) (s3 u u u)<|c2<|.nil) (so h) (sb u) u
            ·exact ej (c3<|cC (aP.ok n)<|c4<|cgB o.1 u u (oCall u (aP.ok x) b101 (oc tm (oc tm (oc tm o0)))) (s3 u u u)<|c8<|.nil) (so h) (sb u) u
           ·exact ej (c3<|cC (aP.ok n)<|c12<|c1<|.nil) (so h) (sb u) u
          ·refine jx h (fun p h=>?_) fun p h=>?_
           ·refine wb p u<|sx (c1<|.nil)<|wRet<|pBlkR<|pThenR<|pThenR<|pBlkR<|pThenR ?_
            obtain rfl:=so h
            replace h:=D
            refine pBlkR<|pThenR<|pThenR<|pBlkR<|pThenR ?_
            obtain rfl:=so h
            replace h:=z
            refine pBlkR<|pThenR<|pThenR<|pBlkR<|pThenR ?_
            obtain rfl:=so h
            replace h:=t
            refine pThenR ?_
            obtain rfl:=so h
            exact pT u u
           ·exact wc p u<|wSkip<|pBlkN<|pSeq<|rx (c2<|.nil)<|pLoop (lW (ih _ h) ⟨u,u,u,u,u,u,u,u,u,tv⟩ u)
         ·exact we m u<|wExit<|pThenX<|pThenX<|pBlkX<|pJ0 (so h) (sb u) u
        ·rintro rfl
         replace h:=D
         exact pBlkN<|pSeq<|rx (c2<|.nil)<|pLoop (lW (ih _ h) ⟨u,u,u,u,u,u,tv⟩ u)
     ·exact we i u<|wExit<|pThenX<|pThenX<|pBlkX<|pJ0 (so h) (sb u) u
    ·rintro rfl
     replace h:=z
     exact pBlkN<|pSeq<|rx (c2<|.nil)<|pLoop (lW (ih _ h) ⟨u,u,u,tv⟩ u)
  ·exact we e u<|wExit<|pThenX<|pThenX<|pBlkX<|pJ0 (so h) tv u
 ·rintro rfl
  replace h:=t
  refine pSeq<|sx (c1<|.nil)<|wRet ?_
  obtain rfl:=so h
  exact pT u u
theorem bA.ok(h:bA.f b a1 a2=some r):FnA PP 116 [(kR aC).sig b,ki.sig a1,ki.sig a2] (ki.sig r):=by
 refine fJ Tryz.func116 u fun H0 w0=>?_
 unfold bA.f at h
 refine sx (c2<|.nil)<|wSeq<|sx (c4<|.nil) ?_
 obtain⟨A,h,z⟩:=bd h
 refine wK0 (.inr ()=A) ([]) ([]) ?_ ?_
 ·refine wBlock (wLoop ?_)
  refine lW (pc1 A (fun a=>[(1,.d (ki.sig a1)),(2,.d (ki.sig a2)),(3,.d (sP (kR aC) b)),(12,.d (ki.sig (b.Up.length:Int))),(13,.d (ki.sig a))]) (fun a=>[]) (bA.l2.partial_correctness b a1 a2) ?_ _ h) ⟨u,u,u,u,u,tv⟩ u
  clear h
  intro f' ih a h
  refine sx (c1<|.nil)<|wSeq<|jx h (fun e h=>?_) fun e h=>?_
  ·refine wd e u<|wSkip<|pSeq<|wSeq<|wBlock<|sx (c2<|.nil)<|wB h (fun n=>[(1,.d (ki.sig a1)),(2,.d (ki.sig a2)),(3,.d (sP (kR aC) b)),(7,.d (ki.sig a)),(8,.d (kB.sig n)),(12,.d (ki.sig (b.Up.length:Int))),(13,.d (ki.sig a))]) (fun n=>[]) (fun B h=>?_) fun n h=>?_
   ·refine bx h fun C s h=>jx h (fun t h=>?_) fun t h=>?_
    ·exact bx h fun D x h=>ej (c3<|cC (aP.ok s)<|c4<|cgB t.1 u u (oCall u (aP.ok x) b101 (oc tm (oc tm (oc tm o0)))) (s3 u u u)<|c2<|.nil) (so h) (sb u) u
    ·exact ej (c3<|cC (aP.ok s)<|c6<|c1<|.nil) (so h) (sb u) u
   ·refine wSeq<|sx (c4<|.nil)<|kX h (fun o=>[(1,.d (ki.sig a1)),(2,.d (ki.sig a2)),(3,.d (sP (kR aC) b)),(7,.d (ki.sig a)),(8,.d (kB.sig o)),(12,.d (ki.sig (b.Up.length:Int))),(13,.d (ki.sig a))]) (fun o=>[]) (fun B h=>?_) fun o h=>?_
    ·refine wBlock (wLoop ?_)
     refine lW (pc2 B (fun c g=>[(1,.d (ki.sig a1)),(2,.d (ki.sig a2)),(3,.d (sP (kR aC) b)),(7,.d (ki.sig a)),(8,.d (kB.sig g)),(12,.d (ki.sig (b.Up.length:Int))),(13,.d (ki.sig a)),(28,.d (ki.sig (b.Up.length:Int))),(29,.d (ki.sig c))]) (fun c g=>[]) (bA.l3.partial_correctness b a1 a2 a) ?_ _ _ h) ⟨u,u,u,u,u,u,u,u,u,tv⟩ u
     clear h
     intro f' ih c g h
     refine sx (c1<|.nil)<|wSeq<|jx h (fun i h=>?_) fun i h=>?_
     ·refine wd i u<|wSkip<|pSeq<|wB h (fun p=>[(1,.d (ki.sig a1)),(2,.d (ki.sig a2)),(3,.d (sP (kR aC) b)),(7,.d (ki.sig a)),(8,.d (kB.sig p)),(12,.d (ki.sig (b.Up.length:Int))),(13,.d (ki.sig a)),(28,.d (ki.sig (b.Up.length:Int))),(29,.d (ki.sig c))]) (fun p=>[]) (fun H h=>?_) fun p h=>?_
      ·refine wBlock<|sx (c2<|.nil)<|wB h (fun q=>[(1,.d (ki.sig a1)),(2,.d (ki.sig a2)),(3,.d (sP (kR aC) b)),(7,.d (ki.sig a)),(8,.d (kB.sig g)),(12,.d (ki.sig (b.Up.length:Int))),(13,.d (ki.sig a)),(28,.d (ki.sig (b.Up.length:Int))),(29,.d (ki.sig c)),(48,.d (kB.sig q))]) (fun q=>[]) (fun I h=>?_) fun q h=>?_
       ·refine bx h fun E j h=>jx h (fun k h=>?_) fun k h=>?_
        ·refine bx h fun F v h=>jx h (fun w h=>?_) fun w h=>?_
         ·exact bx h fun G y h=>ej (c3<|cC (aP.ok j)<|c4<|cgB k.1 u u (oCall u (aP.ok v) b101 (oc tm (oc tm (oc tm o0)))) (s3 u u u)<|c4<|c1<|cgB w.1 u u (oCall u (aP.ok y) b101 (oc tm (oc tm (oc tm o0)))) (s3 u u u)<|c2<|.nil) (so h) (sb u) u
         ·exact ej (c3<|cC (aP.ok j)<|c4<|cgB k.1 u u (oCall u (aP.ok v) b101 (oc tm (oc tm (oc tm o0)))) (s3 u u u)<|c8<|.nil) (so h) (sb u) u
        ·exact ej (c3<|cC (aP.ok j)<|c12<|c1<|.nil) (so h) (sb u) u
       ·refine jx h (fun l h=>?_) fun l h=>?_
        ·exact wb l u<|rx (c1<|.nil)<|pBlkN<|pJ1 _ (so h) (sb u) u
        ·exact wc l u<|wSkip<|pBlkN<|pJ1 _ (so h) (sb u) u
      ·exact rx (c2<|.nil)<|pLoop (lW (ih _ _ h) ⟨u,u,u,u,u,u,u,u,u,tv⟩ u)
     ·exact we i u<|wExit<|pThenX<|pThenX<|pBlkX<|pJ1 _ (so h) (sb u) u
    ·refine pSeq<|sx (c1<|.nil)<|jx h (fun m h=>?_) fun m h=>?_
     ·refine wb m u<|sx (c2<|.nil)<|wRet<|pBlkR<|pThenR<|pThenR<|pBlkR<|pThenR ?_
      obtain rfl:=so h
      replace h:=z
      refine pThenR ?_
      obtain rfl:=so h
      exact pT u u
     ·exact wc m u<|wSkip<|pBlkN<|pSeq<|rx (c2<|.nil)<|pLoop (lW (ih _ h) ⟨u,u,u,u,u,tv⟩ u)
  ·exact we e u<|wExit<|pThenX<|pThenX<|pBlkX<|pJ0 (so h) tv u
 ·rintro rfl
  replace h:=z
  refine pSeq<|sx (c1<|.nil)<|wRet ?_
  obtain rfl:=so h
  exact pT u u
theorem bC.ok(h:bC.f b a1 a2=some r):FnA PP 117 [(kR aC).sig b,ki.sig a1,ki.sig a2] (ki.sig r):=by
 refine fJ Tryz.func117 u fun H0 w0=>?_
 unfold bC.f at h
 refine sx (c2<|.nil)<|wSeq<|sx (c4<|.nil) ?_
 obtain⟨A,h,z⟩:=bd h
 refine wK0 (.inr ()=A) ([]) ([]) ?_ ?_
 ·refine wBlock (wLoop ?_)
  refine lW (pc1 A (fun a=>[(1,.d (ki.sig a1)),(2,.d (ki.sig a2)),(3,.d (sP (kR aC) b)),(12,.d (ki.sig (b.Up.length:Int))),(13,.d (ki.sig a))]) (fun a=>[]) (bC.l2.partial_correctness b a1 a2) ?_ _ h) ⟨u,u,u,u,u,tv⟩ u
  clear h
  intro f' ih a h
  refine sx (c1<|.nil)<|wSeq<|jx h (fun e h=>?_) fun e h=>?_
  ·refine wd e u<|wSkip<|pSeq<|wSeq<|wBlock<|sx (c2<|.nil)<|wB h (fun n=>[(1,.d (ki.sig a1)),(2,.d (ki.sig a2)),(3,.d (sP (kR aC) b)),(7,.d (ki.sig a)),(8,.d (kB.sig n)),(12,.d (ki.sig (b.Up.length:Int))),(13,.d (ki.sig a))]) (fun n=>[]) (fun B h=>?_) fun n h=>?_
   ·refine bx h fun C s h=>jx h (fun t h=>?_) fun t h=>?_
    ·exact bx h fun D x h=>ej (c3<|cC (aP.ok s)<|c4<|cgB t.1 u u (oCall u (aP.ok x) b101 (oc tm (oc tm (oc tm o0)))) (s3 u u u)<|c2<|.nil) (so h) (sb u) u
    ·exact ej (c3<|cC (aP.ok s)<|c6<|c1<|.nil) (so h) (sb u) u
   ·refine wSeq<|sx (c4<|.nil)<|kX h (fun o=>[(1,.d (ki.sig a1)),(2,.d (ki.sig a2)),(3,.d (sP (kR aC) b)),(7,.d (ki.sig a)),(8,.d (kB.sig o)),(12,.d (ki.sig (b.Up.length:Int))),(13,.d (ki.sig a))]) (fun o=>[]) (fun B h=>?_) fun o h=>?_
    ·refine wBlock (wLoop ?_)
     refine lW (pc2 B (fun c g=>[(1,.d (ki.sig a1)),(2,.d (ki.sig a2)),(3,.d (sP (kR aC) b)),(7,.d (ki.sig a)),(8,.d (kB.sig g)),(12,.d (ki.sig (b.Up.length:Int))),(13,.d (ki.sig a)),(28,.d (ki.sig (b.Up.length:Int))),(29,.d (ki.sig c))]) (fun c g=>[]) (bC.l3.partial_correctness b a1 a2 a) ?_ _ _ h) ⟨u,u,u,u,u,u,u,u,u,tv⟩ u
     clear h
     intro f' ih c g h
     refine sx (c1<|.nil)<|wSeq<|jx h (fun i h=>?_) fun i h=>?_
     ·refine wd i u<|wSkip<|pSeq<|wB h (fun p=>[(1,.d (ki.sig a1)),(2,.d (ki.sig a2)),(3,.d (sP (kR aC) b)),(7,.d (ki.sig a)),(8,.d (kB.sig p)),(12,.d (ki.sig (b.Up.length:Int))),(13,.d (ki.sig a)),(28,.d (ki.sig (b.Up.length:Int))),(29,.d (ki.sig c))]) (fun p=>[]) (fun H h=>?_) fun p h=>?_
      ·refine wBlock<|sx (c2<|.nil)<|wB h (fun q=>[(1,.d (ki.sig a1)),(2,.d (ki.sig a2)),(3,.d (sP (kR aC) b)),(7,.d (ki.sig a)),(8,.d (kB.sig g)),(12,.d (ki.sig (b.Up.length:Int))),(13,.d (ki.sig a)),(28,.d (ki.sig (b.Up.length:Int))),(29,.d (ki.sig c)),(48,.d (kB.sig q))]) (fun q=>[]) (fun I h=>?_) fun q h=>?_
       ·refine bx h fun E j h=>jx h (fun k h=>?_) fun k h=>?_
        ·refine bx h fun F v h=>jx h (fun w h=>?_) fun w h=>?_
         ·exact bx h fun G y h=>ej (c3<|cC (aP.ok j)<|c4<|cgB k.1 u u (oCall u (aP.ok v) b101 (oc tm (oc tm (oc tm o0)))) (s3 u u u)<|c4<|c1<|cgB w.1 u u (oCall u (aP.ok y) b101 (oc tm (oc tm (oc tm o0)))) (s3 u u u)<|c2<|.nil) (so h) (sb u) u
         ·exact ej (c3<|cC (aP.ok j)<|c4<|cgB k.1 u u (oCall u (aP.ok v) b101 (oc tm (oc tm (oc tm o0)))) (s3 u u u)<|c8<|.nil) (so h) (sb u) u
        ·exact ej (c3<|cC (aP.ok j)<|c12<|c1<|.nil) (so h) (sb u) u
       ·refine jx h (fun l h=>?_) fun l h=>?_
        ·exact wb l u<|rx (c1<|.nil)<|pBlkN<|pJ1 _ (so h) (sb u) u
        ·exact wc l u<|wSkip<|pBlkN<|pJ1 _ (so h) (sb u) u
      ·exact rx (c2<|.nil)<|pLoop (lW (ih _ _ h) ⟨u,u,u,u,u,u,u,u,u,tv⟩ u)
     ·exact we i u<|wExit<|pThenX<|pThenX<|pBlkX<|pJ1 _ (so h) (sb u) u
    ·refine pSeq<|sx (c1<|.nil)<|jx h (fun m h=>?_) fun m h=>?_
     ·refine wb m u<|sx (c2<|.nil)<|wRet<|pBlkR<|pThenR<|pThenR<|pBlkR<|pThenR ?_
      obtain rfl:=so h
      replace h:=z
      refine pThenR ?_
      obtain rfl:=so h
      exact pT u u
     ·exact wc m u<|wSkip<|pBlkN<|pSeq<|rx (c2<|.nil)<|pLoop (lW (ih _ h) ⟨u,u,u,u,u,tv⟩ u)
  ·exact we e u<|wExit<|pThenX<|pThenX<|pBlkX<|pJ0 (so h) tv u
 ·rintro rfl
  replace h:=z
  refine pSeq<|sx (c1<|.nil)<|wRet ?_
  obtain rfl:=so h
  exact pT u u
theorem bN.ok(h:bN.f b=some r):FnA PP 71 [(kR aC).sig b] (ki.sig r):=by
 refine fJ Tryz.func71 u fun H0 w0=>?_
 unfold bN.f at h
 refine sx (c2<|.nil)<|wSeq<|wSeq<|bx h fun z s h=>rx (c1<|cC (bQ.ok s)<|c1<|.nil)<|pSeq<|jx h (fun j h=>?_) fun j h=>?_
 ·refine wb j u<|sx (c1<|.nil)<|wRet<|pThenR ?_
  obtain rfl:=so h
  exact pT u u
 ·refine wc j u<|wSkip<|pSeq<|wSeq<|wSeq<|bx h fun A t h=>rx (c1<|cC (bm.ok t)<|c1<|.nil)<|pSeq<|jx h (fun k h=>?_) fun k h=>?_
  ·refine wb k u<|sx (c1<|.nil)<|wRet<|pThenR ?_
   obtain rfl:=so h
   exact pT u u
  ·refine wc k u<|wSkip<|pSeq<|wSeq<|sx (c4<|.nil) ?_
   obtain⟨v,h,o⟩:=bd h
   refine wK0 (.inr ()=v) ([]) ([]) ?_ ?_
   ·refine wBlock (wLoop ?_)
    refine lW (pc1 v (fun a=>[(1,.d (sP (kR aC) b)),(13,.d (ki.sig (b.Up.length:Int))),(14,.d (ki.sig a))]) (fun a=>[]) (bN.l2.partial_correctness b) ?_ _ h) ⟨u,u,u,tv⟩ u
    clear h
    intro f' ih a h
    refine sx (c1<|.nil)<|wSeq<|jx h (fun c h=>?_) fun c h=>?_
    ·refine wd c u<|wSkip<|pSeq<|wSeq<|wBlock<|sx (c2<|.nil)<|sx (c4<|.nil) ?_
     obtain⟨w,h,p⟩:=bd h
     refine wK0 (.inr ()=w) ([(1,.d (sP (kR aC) b)),(13,.d (ki.sig (b.Up.length:Int))),(14,.d (ki.sig a))]) ([]) ?_ ?_
     ·refine wBlock (wLoop ?_)
      refine lW (pc1 w (fun i=>[(1,.d (sP (kR aC) b)),(3,.d (ki.sig a)),(13,.d (ki.sig (b.Up.length:Int))),(14,.d (ki.sig a)),(19,.d (ki.sig (b.Up.length:Int))),(20,.d (ki.sig i))]) (fun i=>[]) (bN.l3.partial_correctness b a) ?_ _ h) ⟨u,u,u,u,u,u,tv⟩ u
      clear h
      intro f' ih i h
      refine sx (c1<|.nil)<|wSeq<|jx h (fun e h=>?_) fun e h=>?_
      ·refine wd e u<|wSkip<|pSeq<|wSeq<|wBlock<|sx (c2<|.nil)<|wB h (fun l=>[(1,.d (sP (kR aC) b)),(3,.d (ki.sig a)),(13,.d (ki.sig (b.Up.length:Int))),(14,.d (ki.sig a)),(19,.d (ki.sig (b.Up.length:Int))),(20,.d (ki.sig i)),(34,.d (kB.sig l))]) (fun l=>[]) (fun B h=>?_) fun l h=>?_
       ·refine bx h fun x m h=>jx h (fun n h=>?_) fun n h=>?_
        ·exact ej (c3<|cC (bA.ok m)<|c8<|.nil) (so h) (sb u) u
        ·exact bx h fun y q h=>ej (c3<|cC (bA.ok m)<|c4<|c1<|cgB (dF n.1) u u (oCall u (bC.ok q) b117 (oc tm (oc tm (oc tm o0)))) (s3 u u u)<|c2<|.nil) (so h) (sb u) u
       ·refine jx h (fun g h=>?_) fun g h=>?_
        ·refine wb g u<|sx (c1<|.nil)<|wRet<|pBlkR<|pThenR<|pThenR<|pBlkR<|pThenR ?_
         obtain rfl:=so h
         replace h:=p
         refine pBlkR<|pThenR<|pThenR<|pBlkR<|pThenR ?_
         obtain rfl:=so h
         replace h:=o
         refine pThenR ?_
         obtain rfl:=so h
         exact pT u u
        ·exact wc g u<|wSkip<|pBlkN<|pSeq<|rx (c2<|.nil)<|pLoop (lW (ih _ h) ⟨u,u,u,u,u,u,tv⟩ u)
      ·exact we e u<|wExit<|pThenX<|pThenX<|pBlkX<|pJ0 (so h) (sb u) u
     ·rintro rfl
      replace h:=p
      exact pBlkN<|pSeq<|rx (c2<|.nil)<|pLoop (lW (ih _ h) ⟨u,u,u,tv⟩ u)
    ·exact we c u<|wExit<|pThenX<|pThenX<|pBlkX<|pJ0 (so h) tv u
   ·rintro rfl
    replace h:=o
    refine pSeq<|sx (c1<|.nil)<|wRet ?_
    obtain rfl:=so h
    exact pT u u
theorem dc.ok(h:dc.f i a1=some r):FnA PP 187 [(kL ki).sig i,ki.sig a1] (kB.sig r):=by
 refine fJ Tryz.func187 u fun H0 w0=>?_
 unfold dc.f at h
 refine sx (c1<|.nil)<|sx (c3<|.nil)<|wB h (fun e=>[(4,.d (kB.sig e))]) (fun e=>[]) (fun j h=>?_) fun e h=>?_
 ·refine jx h (fun a h=>?_) fun a h=>?_
  ·refine bx h fun k b h=>jx h (fun c h=>?_) fun c h=>?_
   ·exact bx h fun l g h=>ej (c6<|cgB (dT a.1) u u (oIdx u56 z3 b tm tm) (s2 u u)<|c8<|cgB (dT c.1) u u (oIdx u56 z3 g tm tm) (s2 u u)<|c4<|c1<|.nil) (so h) (sb u) u
   ·exact ej (c6<|cgB (dT a.1) u u (oIdx u56 z3 b tm tm) (s2 u u)<|c12<|c2<|.nil) (so h) (sb u) u
  ·exact ej (c12<|c8<|c1<|.nil) (so h) (sb u) u
 ·refine wRet ?_
  obtain rfl:=so h
  exact pT u u
theorem cJ.ok(h:cJ.f a=some r):FnA PP 163 [(kL ki).sig a] (ki.sig r):=by
 refine fJ Tryz.func163 u fun H0 w0=>?_
 unfold cJ.f at h
 refine sx (c1<|.nil)<|sx (cw (oLitR (id:=7) (d:=ki) el56 (by decide) u u u e0) tv<|c1<|.nil)<|wSeq<|sx (c3<|.nil)<|wWeak (Γ':=[(0,.d ((kL ki).sig a)),(3,.v 7),(8,.d ((kL ki).sig a)),(9,.d (ki.sig (a.length:Int))),(10,.d (ki.sig 0))]) (sb u)<|wRen 7 1003 u ?_
 obtain⟨Y,h,W⟩:=bd h
 refine wK1 (fun e=>.inr e=Y) (fun e=>[(0,.d ((kL ki).sig a)),(3,.v 1003)]) (fun e=>[.row 1003 3 ki e]) ?_ ?_
 ·refine wBlock (wLoop ?_)
  refine lW (pc2 Y (fun c b=>[(0,.d ((kL ki).sig a)),(3,.v 1003),(8,.d ((kL ki).sig a)),(9,.d (ki.sig (a.length:Int))),(10,.d (ki.sig b))]) (fun c b=>[.row 1003 3 ki c]) (cJ.l0.partial_correctness a) ?_ _ _ h) ⟨u,u,u,u,u,tv⟩ u
  clear h
  intro f' ih c b h
  refine sx (c1<|.nil)<|wSeq<|jx h (fun i h=>?_) fun i h=>?_
  ·refine wd i u<|wSkip<|pSeq ?_
   obtain⟨Z,h,X⟩:=bd h
   refine wJ1 (fun g=>.inr g=Z) (fun g=>[(0,.d ((kL ki).sig a)),(3,.v 1003),(8,.d ((kL ki).sig a)),(9,.d (ki.sig (a.length:Int))),(10,.d (ki.sig b))]) (fun g=>[.row 1003 3 ki g]) ?_ ?_
   ·refine wBlock<|wSeq<|bx h fun j H h=>rx (iX u56 z3 H u u<|c2<|.nil)<|pSeq<|sx (c1<|cr (oLenR (n:=0) u56 u tm) (s1 u)<|c1<|.nil)<|wB h (fun s=>[(0,.d ((kL ki).sig a)),(3,.v 1003),(5,.d (ki.sig j)),(6,.d (ki.sig (c.length:Int))),(8,.d ((kL ki).sig a)),(9,.d (ki.sig (a.length:Int))),(10,.d (ki.sig b)),(21,.d (kB.sig s))]) (fun s=>[.row 1003 3 ki c]) (fun I h=>?_) fun s h=>?_
    ·refine jx h (fun J h=>?_) fun J h=>?_
     ·exact ej (c6<|.nil) (so h) (sb u) u
     ·exact ej (c6<|.nil) (so h) (sb u) u
    ·refine jx h (fun k h=>?_) fun k h=>?_
     ·exact wb k u<|ix h fun K h=>rx (c1<|cp (oLit (d:=ki) el56 (by decide) u u u (e1 (cI (by decide)) e0)) tv<|cw (oApp (n:=0) (id':=24) el56 (by decide) u (by decide) K tm tm) (s2 u u)<|c1<|.nil)<|pBlkN<|pSub (Γ':=[(0,.d ((kL ki).sig a)),(3,.v 24),(8,.d ((kL ki).sig a)),(9,.d (ki.sig (a.length:Int))),(10,.d (ki.sig b))]) (sb u)<|pRen 24 1003 u<|pJ1 _ (so h) (sb u) u
     ·refine wc k u<|wB h (fun t=>[(0,.d ((kL ki).sig a)),(3,.v 1003),(5,.d (ki.sig j)),(6,.d (ki.sig (c.length:Int))),(8,.d ((kL ki).sig a)),(9,.d (ki.sig (a.length:Int))),(10,.d (ki.sig b)),(30,.d (kB.sig t))]) (fun t=>[.row 1003 3 ki c]) (fun I h=>?_) fun t h=>?_
      ·refine jx h (fun L h=>?_) fun L h=>?_
       ·exact ej (c6<|.nil) (so h) (sb u) u
       ·exact ej (c6<|.nil) (so h) (sb u) u
      ·refine jx h (fun l h=>?_) fun l h=>?_
       ·exact wb l u<|ix h fun M h=>rx (c1<|cp (oLit (d:=ki) el56 (by decide) u u u (e1 (cI (by decide)) e0)) tv<|cw (oApp (n:=0) (id':=33) el56 (by decide) u (by decide) M tm tm) (s2 u u)<|c1<|.nil)<|pBlkN<|pSub (Γ':=[(0,.d ((kL ki).sig a)),(3,.v 33),(8,.d ((kL ki).sig a)),(9,.d (ki.sig (a.length:Int))),(10,.d (ki.sig b))]) (sb u)<|pRen 33 1003 u<|pJ1 _ (so h) (sb u) u
       ·refine wc l u<|wB h (fun w=>[(0,.d ((kL ki).sig a)),(3,.v 1003),(5,.d (ki.sig j)),(6,.d (ki.sig (c.length:Int))),(8,.d ((kL ki).sig a)),(9,.d (ki.sig (a.length:Int))),(10,.d (ki.sig b)),(43,.d (kB.sig w))]) (fun w=>[.row 1003 3 ki c]) (fun I h=>?_) fun w h=>?_
        ·refine jx h (fun N h=>?_) fun N h=>?_
         ·exact bx h fun qc O h=>ej (c8<|crgB u u u (oCallB u (dc.ok O) (fK fB) b187 (rc1 (rR (n:=0) u) (rc1 (rD (cI (by decide))) rn0))) (s1 u)<|c1<|.nil) (so h) (sb u) u
         ·refine jx h (fun A h=>?_) fun A h=>?_
          ·exact bx h fun qd P h=>ej (c8<|crgB (dT A.1) u u (oCallB u (dc.ok P) (fK fB) b187 (rc1 (rR (n:=0) u) (rc1 (rD (cI (by decide))) rn0))) (s1 u)<|c1<|.nil) (so h) (sb u) u
          ·exact ej (c8<|c2<|.nil) (so h) (sb u) u
        ·refine jx h (fun m h=>?_) fun m h=>?_
         ·exact wb m u<|ix h fun B h=>rx (c3<|cw (oCutR (n:=0) (id':=47) u56 z3 u B.1 B.2 tm tm) (s2 u u)<|c1<|.nil)<|pBlkN<|pSub (Γ':=[(0,.d ((kL ki).sig a)),(3,.v 47),(8,.d ((kL ki).sig a)),(9,.d (ki.sig (a.length:Int))),(10,.d (ki.sig b))]) (sb u)<|pRen 47 1003 u<|pJ1 _ (so h) (sb u) u
         ·refine wc m u<|wB h (fun x=>[(0,.d ((kL ki).sig a)),(3,.v 1003),(5,.d (ki.sig j)),(6,.d (ki.sig (c.length:Int))),(8,.d ((kL ki).sig a)),(9,.d (ki.sig (a.length:Int))),(10,.d (ki.sig b)),(53,.d (kB.sig x))]) (fun x=>[.row 1003 3 ki c]) (fun I h=>?_) fun x h=>?_
          ·refine jx h (fun C h=>?_) fun C h=>?_
           ·exact bx h fun qe Q h=>ej (c4<|crgB (dT C.1) u u (oCallB u (dc.ok Q) (fK fB) b187 (rc1 (rR (n:=0) u) (rc1 (rD (cI (by decide))) rn0))) (s1 u)<|c1<|.nil) (so h) (sb u) u
           ·exact ej (c6<|.nil) (so h) (sb u) u
          ·refine jx h (fun o h=>?_) fun o h=>?_
           ·exact wb o u<|wSeq<|ix h fun D h=>rx (c3<|cw (oCutR (n:=0) (id':=57) u56 z3 u D.1 D.2 tm tm) (s2 u u)<|c1<|.nil)<|pSeq<|ix h fun R h=>rx (c1<|cp (oLit (d:=ki) el56 (by decide) u u u (e1 (cI (by decide)) e0)) tv<|cw (oApp (n:=0) (id':=60) el56 (by decide) u (by decide) R tm tm) (s2 u u)<|c1<|.nil)<|pBlkN<|pSub (Γ':=[(0,.d ((kL ki).sig a)),(3,.v 60),(8,.d ((kL ki).sig a)),(9,.d (ki.sig (a.length:Int))),(10,.d (ki.sig b))]) (sb u)<|pRen 60 1003 u<|pJ1 _ (so h) (sb u) u
           ·refine wc o u<|wB h (fun y=>[(0,.d ((kL ki).sig a)),(3,.v 1003),(6,.d (ki.sig (c.length:Int))),(8,.d ((kL ki).sig a)),(9,.d (ki.sig (a.length:Int))),(10,.d (ki.sig b)),(70,.d (kB.sig y))]) (fun y=>[.row 1003 3 ki c]) (fun I h=>?_) fun y h=>?_
            ·refine jx h (fun S h=>?_) fun S h=>?_
             ·exact bx h fun qf T h=>ej (c8<|crgB u u u (oCallB u (dc.ok T) (fK fB) b187 (rc1 (rR (n:=0) u) (rc1 (rD (cI (by decide))) rn0))) (s1 u)<|c1<|.nil) (so h) (sb u) u
             ·refine jx h (fun E h=>?_) fun E h=>?_
              ·exact bx h fun qg U h=>ej (c8<|crgB (dT E.1) u u (oCallB u (dc.ok U) (fK fB) b187 (rc1 (rR (n:=0) u) (rc1 (rD (cI (by decide))) rn0))) (s1 u)<|c1<|.nil) (so h) (sb u) u
              ·exact ej (c8<|c2<|.nil) (so h) (sb u) u
            ·refine jx h (fun p h=>?_) fun p h=>?_
             ·exact wb p u<|ix h fun F h=>rx (c3<|cw (oCutR (n:=0) (id':=74) u56 z3 u F.1 F.2 tm tm) (s2 u u)<|c1<|.nil)<|pBlkN<|pSub (Γ':=[(0,.d ((kL ki).sig a)),(3,.v 74),(8,.d ((kL ki).sig a)),(9,.d (ki.sig (a.length:Int))),(10,.d (ki.sig b))]) (sb u)<|pRen 74 1003 u<|pJ1 _ (so h) (sb u) u
             ·refine wc p u<|sx (c1<|.nil)<|wRet<|pBlkR<|pThenR ?_
              obtain rfl:=so h
              replace h:=X
              refine pThenR<|pBlkR<|pThenR ?_
              obtain rfl:=so h
              replace h:=W
              refine pThenR ?_
              obtain rfl:=so h
              exact pT u u
   ·rintro g rfl
    replace h:=X
    exact rx (c2<|.nil)<|pLoop (lW (ih _ _ h) ⟨u,u,u,u,u,tv⟩ u)
  ·exact we i u<|wExit<|pThenX<|pThenX<|pBlkX<|pJ1 _ (so h) (sb u) u
 ·rintro e rfl
  replace h:=W
  refine pSeq<|wSeq<|wB h (fun z=>[(3,.v 1003),(83,.d (kB.sig z))]) (fun z=>[.row 1003 3 ki e]) (fun Y h=>?_) fun z h=>?_
  ·refine jx h (fun V h=>?_) fun V h=>?_
   ·exact ej (c1<|cr (oLenR (n:=0) u56 u tm) (s1 u)<|c6<|.nil) (so h) (sb u) u
   ·exact ej (c1<|cr (oLenR (n:=0) u56 u tm) (s1 u)<|c6<|.nil) (so h) (sb u) u
  ·refine jx h (fun q h=>?_) fun q h=>?_
   ·refine wb q u<|sx (c1<|.nil)<|wRet<|pThenR ?_
    obtain rfl:=so h
    exact pT u u
   ·refine wc q u<|wSkip<|pSeq<|wSeq<|bx h fun qh G h=>rx (c1<|cr (oIdxR (n:=0) u56 z3 u G tm (cI (by decide))) (s1 u)<|cr (oLdE (n:=0) u G u t3 tm) (s1 u)<|c1<|.nil)<|pSeq<|wRet ?_
    obtain rfl:=so h
    exact pT u u
theorem dr.ok(h:dr.f d a1=some r):FnA PP 141 [(kL ki).sig d,kB.sig a1] (kB.sig r):=by
 refine fJ Tryz.func141 u fun H0 w0=>?_
 unfold dr.f at h
 refine sx (c1<|.nil)<|wSeq<|sx (c1<|.nil)<|jx h (fun a h=>?_) fun a h=>?_
 ·refine wb a u<|wSeq<|bx h fun e b h=>rx (c1<|cC (cJ.ok b)<|c2<|.nil)<|pSeq<|wRet<|pThenR ?_
  obtain rfl:=so h
  exact pT u u
 ·refine wc a u<|wSkip<|pSeq<|wSeq<|bx h fun g c h=>rx (c1<|cC (cJ.ok c)<|c2<|.nil)<|pSeq<|wRet ?_
  obtain rfl:=so h
  exact pT u u
theorem fZ.ok(h:fZ.f b=some r):FnA PP 164 [ki.sig b] (ki.sig r):=by
 refine fJ Tryz.func164 u fun H0 w0=>?_
 unfold fZ.f at h
 refine sx (c1<|.nil)<|wSeq<|bx h fun c a h=>rx (cp (oLit (d:=ki) el56 (by decide) u u u (e1 (cI (by decide)) (e1 (cI (by decide)) (e1 (cI (by decide)) (e1 (cI (by decide)) (e1 (cI (by decide)) (e1 (cI (by decide)) (e1 (cI (by decide)) (e1 (cI (by decide)) (e1 (cI (by decide)) (e1 (cI (by decide)) (e1 (cI (by decide)) (e1 (cI (by decide)) (e1 (cI (by decide)) e0)))))))))))))) tv<|c1<|iX u56 z3 a u u<|c2<|.nil)<|pSeq<|wRet ?_
 obtain rfl:=so h
 exact pT u u
theorem dR.ok(h:dR.f c a1=some r):FnA PP 165 [(kL ki).sig c,ki.sig a1] (kB.sig r):=by
 refine fJ Tryz.func165 u fun H0 w0=>?_
 unfold dR.f at h
 refine sx (c1<|.nil)<|wSeq<|sx (c3<|.nil) ?_
 obtain⟨i,h,e⟩:=bd h
 refine wK0 (.inr ()=i) ([]) ([]) ?_ ?_
 ·refine wBlock (wLoop ?_)
  refine lW (pc1 i (fun g=>[(1,.d (ki.sig a1)),(7,.d ((kL ki).sig c)),(8,.d (ki.sig (c.length:Int))),(9,.d (ki.sig g))]) (fun g=>[]) (dR.l0.partial_correctness c a1) ?_ _ h) ⟨u,u,u,u,tv⟩ u
  clear h
  intro f' ih g h
  refine sx (c1<|.nil)<|wSeq<|jx h (fun b h=>?_) fun b h=>?_
  ·refine wd b u<|wSkip<|pSeq<|wSeq<|wBlock<|wSeq<|bx h fun k j h=>rx (iX u56 z3 j u u<|c2<|.nil)<|pSeq<|sx (c4<|.nil)<|jx h (fun a h=>?_) fun a h=>?_
   ·refine wd a u<|sx (c1<|.nil)<|wRet<|pBlkR<|pThenR<|pThenR<|pBlkR<|pThenR ?_
    obtain rfl:=so h
    replace h:=e
    refine pThenR ?_
    obtain rfl:=so h
    exact pT u u
   ·exact we a u<|wSkip<|pBlkN<|pSeq<|rx (c2<|.nil)<|pLoop (lW (ih _ h) ⟨u,u,u,u,tv⟩ u)
  ·exact we b u<|wExit<|pThenX<|pThenX<|pBlkX<|pJ0 (so h) tv u
 ·rintro rfl
  replace h:=e
  refine pSeq<|sx (c1<|.nil)<|wRet ?_
  obtain rfl:=so h
  exact pT u u
theorem cy.ok(h:cy.f k a1=some r):FnA PP 142 [ki.sig k,(kL ki).sig a1] (kB.sig r):=by
 refine fJ Tryz.func142 u fun H0 w0=>?_
 unfold cy.f at h
 refine sx (c1<|.nil)<|wSeq<|wSeq<|bx h fun m i h=>rx (c1<|cC (fZ.ok i)<|c2<|.nil)<|pSeq ?_
 obtain⟨j,h,c⟩:=bd h
 refine wK0 (.inr ()=j) ([]) ([]) ?_ ?_
 ·refine wBlock (wLoop ?_)
  refine lW (pc1 j (fun e=>[(1,.d ((kL ki).sig a1)),(5,.d (ki.sig e))]) (fun e=>[]) (cy.l0.partial_correctness a1) ?_ _ h) ⟨u,u,tv⟩ u
  clear h
  intro f' ih e h
  refine wSeq<|sx (c2<|.nil)<|jx h (fun b h=>?_) fun b h=>?_
  ·refine wd b u<|wSkip<|pSeq<|wSeq<|wBlock<|wSeq<|bx h fun l g h=>rx (c2<|cC (dR.ok g)<|.nil)<|pSeq<|jx h (fun a h=>?_) fun a h=>?_
   ·refine wb a u<|sx (c1<|.nil)<|wRet<|pBlkR<|pThenR<|pThenR<|pBlkR<|pThenR ?_
    obtain rfl:=so h
    replace h:=c
    refine pThenR ?_
    obtain rfl:=so h
    exact pT u u
   ·exact wc a u<|wSkip<|pBlkN<|pSeq<|rx (c3<|.nil)<|pLoop (lW (ih _ h) ⟨u,u,tv⟩ u)
  ·exact we b u<|wExit<|pThenX<|pThenX<|pBlkX<|pJ0 (so h) tv u
 ·rintro rfl
  replace h:=c
  refine pSeq<|sx (c1<|.nil)<|wRet ?_
  obtain rfl:=so h
  exact pT u u
theorem fE.ok(h:fE.f s a1=some r):FnA PP 118 [ki.sig s,(kR bj).sig a1] (ki.sig r):=by
 refine fJ Tryz.func118 u fun H0 w0=>?_
 unfold fE.f at h
 refine sx (c2<|.nil)<|wSeq<|wB h (fun o=>[(0,.d (ki.sig s)),(3,.d (sP (kR bj) a1)),(20,.d (kB.sig o))]) (fun o=>[]) (fun t h=>?_) fun o h=>?_
 ·refine bx h fun z g h=>jx h (fun i h=>?_) fun i h=>?_
  ·exact ej (c2<|cC (dr.ok g)<|c12<|c1<|.nil) (so h) (sb u) u
  ·refine bx h fun A n h=>jx h (fun j h=>?_) fun j h=>?_
   ·exact ej (c2<|cC (dr.ok g)<|c4<|cgB (nb i.1) u u (oCall u (dr.ok n) b141 (oc tm (oc cB o0))) (s1 u)<|c8<|.nil) (so h) (sb u) u
   ·exact bx h fun v p h=>ej (c2<|cC (dr.ok g)<|c4<|cgB (nb i.1) u u (oCall u (dr.ok n) b141 (oc tm (oc cB o0))) (s1 u)<|c4<|c1<|cgB (nb j.1) u u (oCall u (dr.ok p) b141 (oc tm (oc cB o0))) (s1 u)<|c2<|.nil) (so h) (sb u) u
 ·refine jx h (fun a h=>?_) fun a h=>?_
  ·refine wb a u<|sx (c1<|.nil)<|wRet<|pThenR ?_
   obtain rfl:=so h
   exact pT u u
  ·refine wc a u<|wSkip<|pSeq<|wSeq<|wB h (fun k=>[(39,.d (kB.sig k))]) (fun k=>[]) (fun t h=>?_) fun k h=>?_
   ·refine bx h fun w b h=>jx h (fun c h=>?_) fun c h=>?_
    ·exact ej (c3<|cC (cy.ok b)<|c12<|c3<|.nil) (so h) (sb u) u
    ·refine bx h fun x l h=>jx h (fun m h=>?_) fun m h=>?_
     ·exact ej (c3<|cC (cy.ok b)<|c4<|c1<|cgB (nb c.1) u u (oCall u (cy.ok l) b142 (oc tm (oc tm o0))) (s2 u u)<|c8<|c1<|.nil) (so h) (sb u) u
     ·exact bx h fun y q h=>ej (c3<|cC (cy.ok b)<|c4<|c1<|cgB (nb c.1) u u (oCall u (cy.ok l) b142 (oc tm (oc tm o0))) (s2 u u)<|c6<|cgB (nb m.1) u u (oCall u (cy.ok q) b142 (oc tm (oc tm o0))) (s2 u u)<|c2<|.nil) (so h) (sb u) u
   ·refine jx h (fun e h=>?_) fun e h=>?_
    ·refine wb e u<|sx (c1<|.nil)<|wRet<|pThenR ?_
     obtain rfl:=so h
     exact pT u u
    ·refine wc e u<|wSkip<|pSeq<|sx (c1<|.nil)<|wRet ?_
     obtain rfl:=so h
     exact pT u u
theorem cW.ok(h:cW.f i=some r):FnA PP 72 [(kR bn).sig i] ((kR dz).sig r):=by
 refine fJ Tryz.func72 u fun H0 w0=>?_
 unfold cW.f at h
 refine sx (c1<|aL 2 Z137 ze137 zl137<|.nil)<|wSeq<|sx (c4<|.nil)<|jx h (fun e h=>?_) fun e h=>?_
 ·refine wh e u<|wSkip<|pSeq<|wSeq<|sx (c4<|.nil) ?_
  obtain⟨o,h,j⟩:=bd h
  refine wK0 (.inr ()=o) ([(2,.p 2 0)]) ([.box 2 137 [.d ki 0,.d ki 0]]) ?_ ?_
  ·refine wBlock (wLoop ?_)
   refine lW (pc1 o (fun a=>[(2,.p 2 0),(12,.d ((kL (kR bj)).sig i.Rows)),(13,.d (ki.sig (i.Rows.length:Int))),(14,.d (ki.sig a))]) (fun a=>[.box 2 137 [.d ki 0,.d ki 0]]) (cW.l0.partial_correctness i) ?_ _ h) ⟨u,u,u,u,tv⟩ u
   clear h
   intro f' ih a h
   refine sx (c1<|.nil)<|wSeq<|jx h (fun b h=>?_) fun b h=>?_
   ·refine wd b u<|wSkip<|pSeq<|wSeq<|wBlock<|wSeq<|bx h fun g l h=>rx (c1<|iX u26 z58 l u u<|c1<|aL 4 Z58 ze58 zl58<|c1<|sA 0 bj u u z58 u u<|.nil)<|pSeq<|wSeq<|bx h fun k m h=>rx (c1<|lA 0 bj ⟨g.May,g.Res,g.Pc⟩ u ⟨u,u,u,tv⟩ t58 u<|cC (fE.ok m)<|c1<|.nil)<|pSeq<|sx (c2<|.nil)<|jx h (fun c h=>?_) fun c h=>?_
    ·exact wh c u<|wSkip<|pBlkN<|pSeq<|rx (c2<|.nil)<|pDrop (.cons _ (.cons_cons _ .slnil))<|pLoop (lW (ih _ h) ⟨u,u,u,u,tv⟩ u)
    ·refine wg c u<|sx (c2<|cp (oBuild (fs:=dz) (u:=⟨a,k⟩) u ze137 pl137 po137 (qI tm u (qI tm u .nil))) (s2 u u)<|sA 1 dz u u z137 u u<|.nil)<|wRet<|pBlkR<|pThenR<|pThenR<|pBlkR<|pThenR ?_
     obtain rfl:=so h
     replace h:=j
     refine pThenR ?_
     obtain rfl:=so h
     exact pR1 (.inl u) u (.box (n:=1) (fs:=dz) (u:=⟨a,k⟩) u u ⟨u,u,tv⟩ t137<|.nil)
   ·exact we b u<|wExit<|pThenX<|pThenX<|pBlkX<|pJ0 (so h) (sb u) u
  ·rintro rfl
   replace h:=j
   refine pSeq<|sx (cp (oBuild (fs:=dz) (u:=⟨0,0⟩) u ze137 pl137 po137 (gI zI_i64 (gI zI_i64 .nil))) tv<|sA 0 dz u u z137 u u<|.nil)<|wRet ?_
   obtain rfl:=so h
   exact pR1 (.inl u) u (.box (n:=0) (fs:=dz) (u:=⟨0,0⟩) u u ⟨u,u,tv⟩ t137<|.nil)
 ·refine wg e u<|sx (cp (oBuild (fs:=dz) (u:=⟨0,1⟩) u ze137 pl137 po137 (gI zI_i64 (qI (cI (by decide)) u .nil))) tv<|sA 0 dz u u z137 u u<|.nil)<|wRet<|pThenR ?_
  obtain rfl:=so h
  exact pR1 (.inl u) u (.box (n:=0) (fs:=dz) (u:=⟨0,1⟩) u u ⟨u,u,tv⟩ t137<|.nil)
theorem fF.ok(h:fF.f y a1=some r):FnA PP 143 [ki.sig y,(kR aH).sig a1] (kB.sig r):=by
 refine fJ Tryz.func143 u fun H0 w0=>?_
 unfold fF.f at h
 refine sx (c2<|.nil)<|wSeq<|sx (c3<|.nil)<|jx h (fun g h=>?_) fun g h=>?_
 ·refine wd g u<|wB h (fun n=>[(4,.d (kB.sig n))]) (fun n=>[]) (fun m h=>?_) fun n h=>?_
  ·refine jx h (fun v h=>?_) fun v h=>?_
   ·refine jx h (fun w h=>?_) fun w h=>?_
    ·refine jx h (fun x h=>?_) fun x h=>?_
     ·exact ej (c12<|c8<|.nil) (so h) (sb u) u
     ·exact ej (c12<|c8<|.nil) (so h) (sb u) u
    ·exact ej (c12<|c8<|.nil) (so h) (sb u) u
   ·exact ej (c12<|c8<|.nil) (so h) (sb u) u
  ·refine wRet<|pThenR ?_
   obtain rfl:=so h
   exact pT u u
 ·refine we g u<|wSkip<|pSeq<|wSeq<|wB h (fun i=>[(3,.d (sP (kR aH) a1)),(39,.d (kB.sig i))]) (fun i=>[]) (fun m h=>?_) fun i h=>?_
  ·refine jx h (fun o h=>?_) fun o h=>?_
   ·exact ej (c12<|c1<|.nil) (so h) (sb u) u
   ·refine jx h (fun p h=>?_) fun p h=>?_
    ·exact ej (c12<|c1<|.nil) (so h) (sb u) u
    ·exact ej (c12<|c1<|.nil) (so h) (sb u) u
  ·refine jx h (fun a h=>?_) fun a h=>?_
   ·refine wb a u<|sx (c1<|.nil)<|wRet<|pThenR ?_
    obtain rfl:=so h
    exact pT u u
   ·refine wc a u<|wSkip<|pSeq<|wSeq<|sx (c3<|.nil)<|jx h (fun b h=>?_) fun b h=>?_
    ·refine wd b u<|wB h (fun j=>[(4,.d (kB.sig j))]) (fun j=>[]) (fun m h=>?_) fun j h=>?_
     ·refine jx h (fun q h=>?_) fun q h=>?_
      ·exact ej (c8<|c1<|.nil) (so h) (sb u) u
      ·exact ej (c8<|c1<|.nil) (so h) (sb u) u
     ·refine wRet<|pThenR ?_
      obtain rfl:=so h
      exact pT u u
    ·refine we b u<|wSkip<|pSeq<|wSeq<|sx (c3<|.nil)<|jx h (fun c h=>?_) fun c h=>?_
     ·refine wd c u<|wB h (fun k=>[(4,.d (kB.sig k))]) (fun k=>[]) (fun m h=>?_) fun k h=>?_
      ·refine jx h (fun s h=>?_) fun s h=>?_
       ·exact ej (c8<|c1<|.nil) (so h) (sb u) u
       ·exact ej (c8<|c1<|.nil) (so h) (sb u) u
      ·refine wRet<|pThenR ?_
       obtain rfl:=so h
       exact pT u u
     ·refine we c u<|wSkip<|pSeq<|wSeq<|sx (c3<|.nil)<|jx h (fun e h=>?_) fun e h=>?_
      ·refine wd e u<|wB h (fun l=>[(4,.d (kB.sig l))]) (fun l=>[]) (fun m h=>?_) fun l h=>?_
       ·refine jx h (fun t h=>?_) fun t h=>?_
        ·exact ej (c8<|c1<|.nil) (so h) (sb u) u
        ·exact ej (c8<|c1<|.nil) (so h) (sb u) u
       ·refine wRet<|pThenR ?_
        obtain rfl:=so h
        exact pT u u
      ·refine we e u<|wSkip<|pSeq<|sx (c4<|.nil)<|wRet ?_
       obtain rfl:=so h
       exact pT u u
theorem cK.ok(h:cK.f g a1=some r):FnA PP 119 [(kR aC).sig g,(kL (kR aH)).sig a1] (kB.sig r):=by
 refine fJ Tryz.func119 u fun H0 w0=>?_
 unfold cK.f at h
 refine sx (c2<|.nil)<|wSeq<|sx (c3<|.nil) ?_
 obtain⟨l,h,e⟩:=bd h
 refine wK0 (.inr ()=l) ([(1,.d ((kL (kR aH)).sig a1))]) ([]) ?_ ?_
 ·refine wBlock (wLoop ?_)
  refine lW (pc1 l (fun i=>[(1,.d ((kL (kR aH)).sig a1)),(2,.d (sP (kR aC) g)),(7,.d ((kL (kR aH)).sig a1)),(8,.d (ki.sig (a1.length:Int))),(9,.d (ki.sig i))]) (fun i=>[]) (cK.l0.partial_correctness g a1) ?_ _ h) ⟨u,u,u,u,u,tv⟩ u
  clear h
  intro f' ih i h
  refine sx (c1<|.nil)<|wSeq<|jx h (fun a h=>?_) fun a h=>?_
  ·refine wd a u<|wSkip<|pSeq<|wSeq<|wBlock<|wSeq<|bx h fun c j h=>rx (iX u31 z73 j u u<|c1<|aL 6 Z73 ze73 zl73<|sA 0 aH u u z73 u u<|.nil)<|pSeq<|wSeq<|bx h fun m k h=>rx (c3<|lA 0 aH ⟨c.Op,c.N,c.L⟩ u ⟨u,u,u,tv⟩ t73 u<|cC (fF.ok k)<|c1<|.nil)<|pSeq<|jx h (fun b h=>?_) fun b h=>?_
   ·refine wb b u<|sx (c1<|.nil)<|wRet<|pBlkR<|pThenR<|pThenR<|pBlkR<|pThenR ?_
    obtain rfl:=so h
    replace h:=e
    refine pThenR ?_
    obtain rfl:=so h
    exact pT u u
   ·exact wc b u<|wSkip<|pBlkN<|pSeq<|rx (c2<|.nil)<|pDrop (.cons _ .slnil)<|pLoop (lW (ih _ h) ⟨u,u,u,u,u,tv⟩ u)
  ·exact we a u<|wExit<|pThenX<|pThenX<|pBlkX<|pJ0 (so h) (sb u) u
 ·rintro rfl
  replace h:=e
  refine pSeq<|sx (c4<|.nil)<|wRet ?_
  obtain rfl:=so h
  exact pT u u
theorem cX.ok(h:cX.f c a1=some r):FnA PP 120 [(kR aC).sig c,ki.sig a1] (kB.sig r):=by
 refine fJ Tryz.func120 u fun H0 w0=>?_
 unfold cX.f at h
 refine sx (c2<|.nil)<|wB h (fun a=>[(4,.d (kB.sig a))]) (fun a=>[]) (fun e h=>?_) fun a h=>?_
 ·refine jx h (fun b h=>?_) fun b h=>?_
  ·exact ej (c8<|c2<|.nil) (so h) (sb u) u
  ·exact ej (c8<|c2<|.nil) (so h) (sb u) u
 ·refine wRet ?_
  obtain rfl:=so h
  exact pT u u
theorem bZ.ok(h:bZ.f j a1=some r):FnA PP 121 [(kR aC).sig j,(kL (kR aB)).sig a1] (kB.sig r):=by
 refine fJ Tryz.func121 u fun H0 w0=>?_
 unfold bZ.f at h
 refine sx (c2<|.nil)<|wSeq<|sx (c3<|.nil) ?_
 obtain⟨q,h,l⟩:=bd h
 refine wK0 (.inr ()=q) ([]) ([]) ?_ ?_
 ·refine wBlock (wLoop ?_)
  refine lW (pc1 q (fun g=>[(2,.d (sP (kR aC) j)),(7,.d ((kL (kR aB)).sig a1)),(8,.d (ki.sig (a1.length:Int))),(9,.d (ki.sig g))]) (fun g=>[]) (bZ.l0.partial_correctness j a1) ?_ _ h) ⟨u,u,u,u,tv⟩ u
  clear h
  intro f' ih g h
  refine sx (c1<|.nil)<|wSeq<|jx h (fun a h=>?_) fun a h=>?_
  ·refine wd a u<|wSkip<|pSeq<|wSeq<|wBlock<|wSeq<|bx h fun m o h=>rx (iX u32 z30 o u u<|c1<|aL 6 Z30 ze30 zl30<|sA 0 aB u u z30 u u<|.nil)<|pSeq<|wB h (fun i=>[(2,.d (sP (kR aC) j)),(7,.d ((kL (kR aB)).sig a1)),(8,.d (ki.sig (a1.length:Int))),(9,.d (ki.sig g)),(27,.d (kB.sig i))]) (fun i=>[.box 6 30 [.d ki m.V,.d ki m.L]]) (fun t h=>?_) fun i h=>?_
   ·refine jx h (fun b h=>?_) fun b h=>?_
    ·exact ej (c1<|lB 0 0 u u u t3 u<|c12<|c1<|.nil) (so h) (sb u) u
    ·refine jx h (fun c h=>?_) fun c h=>?_
     ·exact ej (c1<|lB 0 0 u u u t3 u<|c3<|crgB (dF b.1) u u (oLdB (n:=0) (k:=0) u u u t3 tm) (s1 u)<|c8<|c1<|.nil) (so h) (sb u) u
     ·exact bx h fun s p h=>ej (c1<|lB 0 0 u u u t3 u<|c3<|crgB (dF b.1) u u (oLdB (n:=0) (k:=0) u u u t3 tm) (s1 u)<|c4<|c1<|crgB (dF c.1) u u (oLdB (n:=0) (k:=1) u u u t3 tm) (s1 u)<|cgB (dF c.1) u u (oCall u (cX.ok p) b120 (oc tm (oc tm o0))) (s2 u u)<|c2<|.nil) (so h) (sb u) u
   ·refine jx h (fun e h=>?_) fun e h=>?_
    ·refine wb e u<|sx (c1<|.nil)<|wRet<|pBlkR<|pThenR<|pThenR<|pBlkR<|pThenR ?_
     obtain rfl:=so h
     replace h:=l
     refine pThenR ?_
     obtain rfl:=so h
     exact pT u u
    ·exact wc e u<|wSkip<|pBlkN<|pSeq<|rx (c2<|.nil)<|pDrop (.cons _ .slnil)<|pLoop (lW (ih _ h) ⟨u,u,u,u,tv⟩ u)
  ·exact we a u<|wExit<|pThenX<|pThenX<|pBlkX<|pJ0 (so h) tv u
 ·rintro rfl
  replace h:=l
  refine pSeq<|sx (c1<|.nil)<|wRet ?_
  obtain rfl:=so h
  exact pT u u
theorem cY.ok(h:cY.f p a1=some r):FnA PP 122 [(kR aC).sig p,(kL (kR aD)).sig a1] (kB.sig r):=by
 refine fJ Tryz.func122 u fun H0 w0=>?_
 unfold cY.f at h
 refine sx (c2<|.nil)<|wSeq<|sx (c3<|.nil) ?_
 obtain⟨t,h,q⟩:=bd h
 refine wK0 (.inr ()=t) ([(1,.d ((kL (kR aD)).sig a1))]) ([]) ?_ ?_
 ·refine wBlock (wLoop ?_)
  refine lW (pc1 t (fun l=>[(1,.d ((kL (kR aD)).sig a1)),(2,.d (sP (kR aC) p)),(7,.d ((kL (kR aD)).sig a1)),(8,.d (ki.sig (a1.length:Int))),(9,.d (ki.sig l))]) (fun l=>[]) (cY.l0.partial_correctness p a1) ?_ _ h) ⟨u,u,u,u,u,tv⟩ u
  clear h
  intro f' ih l h
  refine sx (c1<|.nil)<|wSeq<|jx h (fun g h=>?_) fun g h=>?_
  ·refine wd g u<|wSkip<|pSeq<|wSeq<|wBlock<|wSeq<|bx h fun v s h=>rx (iX u33 z88 s u u<|c1<|aL 6 Z88 ze88 zl88<|sA 0 aD u u z88 u u<|.nil)<|pSeq<|wB h (fun m=>[(1,.d ((kL (kR aD)).sig a1)),(2,.d (sP (kR aC) p)),(7,.d ((kL (kR aD)).sig a1)),(8,.d (ki.sig (a1.length:Int))),(9,.d (ki.sig l)),(41,.d (kB.sig m))]) (fun m=>[.box 6 88 (L88 v)]) (fun x h=>?_) fun m h=>?_
   ·refine jx h (fun b h=>?_) fun b h=>?_
    ·exact ej (c1<|lB 0 1 u u u t3 u<|c12<|c4<|c1<|csU u u<|csU u u<|csU u u<|csU u u<|csU u u<|csU u u<|csU u u<|csU u u<|c2<|.nil) (so h) (sb u) u
    ·refine jx h (fun a h=>?_) fun a h=>?_
     ·exact ej (c1<|lB 0 1 u u u t3 u<|c3<|crgB (dF b.1) u u (oLdB (n:=0) (k:=1) u u u t3 tm) (s1 u)<|c12<|c1<|csU u u<|csU u u<|csU u u<|csU u u<|csU u u<|csU u u<|csU u u<|csU u u<|c2<|.nil) (so h) (sb u) u
     ·refine bx h fun w c h=>jx h (fun e h=>?_) fun e h=>?_
      ·exact ej (c1<|lB 0 1 u u u t3 u<|c3<|crgB (dF b.1) u u (oLdB (n:=0) (k:=1) u u u t3 tm) (s1 u)<|c4<|c1<|crgB (dF a.1) u u (oLdB (n:=0) (k:=2) u u u t3 tm) (s1 u)<|cgB (dF a.1) u u (oCall u (cX.ok c) b120 (oc tm (oc tm o0))) (s2 u u)<|c6<|csU u u<|csU u u<|csU u u<|csU u u<|csU u u<|csU u u<|csU u u<|csU u u<|c2<|.nil) (so h) (sb u) u
      ·refine jx h (fun i h=>?_) fun i h=>?_
       ·refine jx h (fun o h=>?_) fun o h=>?_
        ·exact ej (c1<|lB 0 1 u u u t3 u<|c3<|crgB (dF b.1) u u (oLdB (n:=0) (k:=1) u u u t3 tm) (s1 u)<|c4<|c1<|crgB (dF a.1) u u (oLdB (n:=0) (k:=2) u u u t3 tm) (s1 u)<|cgB (dF a.1) u u (oCall u (cX.ok c) b120 (oc tm (oc tm o0))) (s2 u u)<|c4<|crgB (nb e.1) u u (oLdB (n:=0) (k:=0) u u u t4 tm) (s1 u)<|c2<|crgB i.1 u u (oLdB (n:=0) (k:=1) u u u t3 tm) (s1 u)<|c8<|.nil) (so h) (sb u) u
        ·exact ej (c1<|lB 0 1 u u u t3 u<|c3<|crgB (dF b.1) u u (oLdB (n:=0) (k:=1) u u u t3 tm) (s1 u)<|c4<|c1<|crgB (dF a.1) u u (oLdB (n:=0) (k:=2) u u u t3 tm) (s1 u)<|cgB (dF a.1) u u (oCall u (cX.ok c) b120 (oc tm (oc tm o0))) (s2 u u)<|c4<|crgB (nb e.1) u u (oLdB (n:=0) (k:=0) u u u t4 tm) (s1 u)<|c2<|crgB i.1 u u (oLdB (n:=0) (k:=1) u u u t3 tm) (s1 u)<|c3<|crgB (dF o.1) u u (oLdB (n:=0) (k:=1) u u u t3 tm) (s1 u)<|c4<|.nil) (so h) (sb u) u
       ·exact ej (c1<|lB 0 1 u u u t3 u<|c3<|crgB (dF b.1) u u (oLdB (n:=0) (k:=1) u u u t3 tm) (s1 u)<|c4<|c1<|crgB (dF a.1) u u (oLdB (n:=0) (k:=2) u u u t3 tm) (s1 u)<|cgB (dF a.1) u u (oCall u (cX.ok c) b120 (oc tm (oc tm o0))) (s2 u u)<|c4<|crgB (nb e.1) u u (oLdB (n:=0) (k:=0) u u u t4 tm) (s1 u)<|c4<|c1<|csU u u<|csU u u<|csU u u<|c3<|.nil) (so h) (sb u) u
   ·refine jx h (fun j h=>?_) fun j h=>?_
    ·refine wb j u<|sx (c1<|.nil)<|wRet<|pBlkR<|pThenR<|pThenR<|pBlkR<|pThenR ?_
     obtain rfl:=so h
     replace h:=q
     refine pThenR ?_
     obtain rfl:=so h
     exact pT u u
    ·exact wc j u<|wSkip<|pBlkN<|pSeq<|rx (c2<|.nil)<|pDrop (.cons _ .slnil)<|pLoop (lW (ih _ h) ⟨u,u,u,u,u,tv⟩ u)
  ·exact we g u<|wExit<|pThenX<|pThenX<|pBlkX<|pJ0 (so h) (sb u) u
 ·rintro rfl
  replace h:=q
  refine pSeq<|sx (c4<|.nil)<|wRet ?_
  obtain rfl:=so h
  exact pT u u
theorem dg.ok(h:dg.f q a1=some r):FnA PP 73 [(kR aC).sig q,(kR av).sig a1] (kB.sig r):=by
 refine fJ Tryz.func73 u fun H0 w0=>?_
 unfold dg.f at h
 refine sx (c3<|.nil)<|wSeq<|wB h (fun m=>[(2,.d (sP (kR aC) q)),(3,.d (sP (kR av) a1)),(29,.d (kB.sig m))]) (fun m=>[]) (fun v h=>?_) fun m h=>?_
 ·refine bx h fun A i h=>jx h (fun s h=>?_) fun s h=>?_
  ·exact ej (c3<|cC (cK.ok i)<|c12<|c8<|c1<|.nil) (so h) (sb u) u
  ·refine jx h (fun t h=>?_) fun t h=>?_
   ·exact ej (c3<|cC (cK.ok i)<|c12<|c8<|c1<|.nil) (so h) (sb u) u
   ·refine jx h (fun j h=>?_) fun j h=>?_
    ·exact ej (c3<|cC (cK.ok i)<|c12<|c8<|c1<|.nil) (so h) (sb u) u
    ·exact bx h fun w n h=>ej (c3<|cC (cK.ok i)<|c12<|c6<|cgB (dF j.1) u u (oCall u (cX.ok n) b120 (oc tm (oc tm o0))) (s2 u u)<|c2<|.nil) (so h) (sb u) u
 ·refine jx h (fun c h=>?_) fun c h=>?_
  ·refine wb c u<|sx (c1<|.nil)<|wRet<|pThenR ?_
   obtain rfl:=so h
   exact pT u u
  ·refine wc c u<|wSkip<|pSeq<|wB h (fun k=>[(4,.d (kB.sig k))]) (fun k=>[]) (fun v h=>?_) fun k h=>?_
   ·refine bx h fun x a h=>jx h (fun o h=>?_) fun o h=>?_
    ·refine jx h (fun b h=>?_) fun b h=>?_
     ·refine bx h fun y e h=>jx h (fun g h=>?_) fun g h=>?_
      ·refine bx h fun z l h=>jx h (fun p h=>?_) fun p h=>?_
       ·exact ej (c3<|cC (bZ.ok a)<|c8<|c2<|cgB (dT b.1) u u (oCall u (cY.ok e) b122 (oc tm (oc tm o0))) (s2 u u)<|c4<|c1<|cgB g.1 u u (oCall u (bZ.ok l) b121 (oc tm (oc tm o0))) (s2 u u)<|c8<|.nil) (so h) (sb u) u
       ·exact ej (c3<|cC (bZ.ok a)<|c8<|c2<|cgB (dT b.1) u u (oCall u (cY.ok e) b122 (oc tm (oc tm o0))) (s2 u u)<|c4<|c1<|cgB g.1 u u (oCall u (bZ.ok l) b121 (oc tm (oc tm o0))) (s2 u u)<|c8<|.nil) (so h) (sb u) u
      ·exact ej (c3<|cC (bZ.ok a)<|c8<|c2<|cgB (dT b.1) u u (oCall u (cY.ok e) b122 (oc tm (oc tm o0))) (s2 u u)<|c12<|c2<|.nil) (so h) (sb u) u
     ·exact ej (c3<|cC (bZ.ok a)<|c12<|c12<|c1<|.nil) (so h) (sb u) u
    ·exact ej (c3<|cC (bZ.ok a)<|c12<|c12<|c1<|.nil) (so h) (sb u) u
   ·refine wRet ?_
    obtain rfl:=so h
    exact pT u u
theorem fS.ok(h:fS.f j a1 a2=some r):FnA PP 31 [(kR aC).sig j,(kR bn).sig a1,(kR av).sig a2] (ki.sig r):=by
 refine fJ Tryz.func31 u fun H0 w0=>?_
 unfold fS.f at h
 refine sx (c4<|.nil)<|wSeq<|bx h fun l d h=>rx (c1<|cC (bN.ok d)<|c1<|.nil)<|pSeq<|wSeq<|sx (c2<|.nil)<|jx h (fun a h=>?_) fun a h=>?_
 ·refine wh a u<|wSkip<|pSeq<|wSeq<|wSeq<|bx h fun m e h=>rx (c1<|cC (cW.ok e)<|cp (oField (fs:=dz) (k:=1) u ff137_1 t39 tm) (s1 u)<|c1<|.nil)<|pSeq<|jx h (fun b h=>?_) fun b h=>?_
  ·refine wh b u<|wSkip<|pSeq<|wSeq<|wSeq<|bx h fun n g h=>rx (c2<|cC (dg.ok g)<|c1<|.nil)<|pSeq<|jx h (fun c h=>?_) fun c h=>?_
   ·refine wb c u<|sx (c1<|.nil)<|wRet<|pThenR ?_
    obtain rfl:=so h
    exact pT u u
   ·refine wc c u<|wSkip<|pSeq<|sx (c1<|.nil)<|wRet ?_
    obtain rfl:=so h
    exact pT u u
  ·refine wg b u<|wSeq<|bx h fun o i h=>rx (c1<|cC (cW.ok i)<|cp (oField (fs:=dz) (k:=1) u ff137_1 t39 tm) (s1 u)<|c1<|.nil)<|pSeq<|wRet<|pThenR ?_
   obtain rfl:=so h
   exact pT u u
 ·refine wg a u<|sx (c2<|.nil)<|wRet<|pThenR ?_
  obtain rfl:=so h
  exact pT u u
theorem eZ.ok(h:eZ.f i a1 a2 a3=some r):FnA PP 15 [(kR aC).sig i,(kR bn).sig a1,(kR av).sig a2,ki.sig a3] (ki.sig r):=by
 refine fJ Tryz.func15 u fun H0 w0=>?_
 unfold eZ.f at h
 refine sx (c4<|.nil)<|wSeq<|bx h fun j c h=>rx (c3<|cC (fS.ok c)<|c1<|.nil)<|pSeq<|wSeq<|wB h (fun b=>[(9,.d (ki.sig j)),(23,.d (kB.sig b))]) (fun b=>[]) (fun k h=>?_) fun b h=>?_
 ·refine jx h (fun e h=>?_) fun e h=>?_
  ·refine jx h (fun g h=>?_) fun g h=>?_
   ·exact ej (c8<|c2<|.nil) (so h) (sb u) u
   ·exact ej (c8<|c2<|.nil) (so h) (sb u) u
  ·exact ej (c6<|csU u u<|csU u u<|c2<|.nil) (so h) (sb u) u
 ·refine jx h (fun a h=>?_) fun a h=>?_
  ·refine wb a u<|sx (c1<|.nil)<|wRet<|pThenR ?_
   obtain rfl:=so h
   exact pT u u
  ·refine wc a u<|wSkip<|pSeq<|sx (c2<|.nil)<|wRet ?_
   obtain rfl:=so h
   exact pT u u
theorem bP.ok(h:bP.f b a1 a2=some r):FnA PP 58 [(kR aC).sig b,ki.sig a1,ki.sig a2] (kB.sig r):=by
 refine fJ Tryz.func58 u fun H0 w0=>?_
 unfold bP.f at h
 refine sx (c2<|.nil)<|wSeq<|bx h fun c a h=>rx (c3<|cC (aP.ok a)<|c1<|.nil)<|pSeq<|wRet ?_
 obtain rfl:=so h
 exact pT u u
theorem cZ.ok(h:cZ.f l a1 a2 a3=some r):FnA PP 55 [(kR aC).sig l,ki.sig a1,(kL (kR aH)).sig a2,(kL (kR aH)).sig a3] (kB.sig r):=by
 refine fJ Tryz.func55 u fun H0 w0=>?_
 unfold cZ.f at h
 refine sx (c2<|.nil)<|wSeq<|sx (c4<|c1<|.nil)<|jx h (fun m h=>?_) fun m h=>?_
 ·refine wh m u<|wSkip<|pSeq<|wSeq<|sx (c3<|.nil) ?_
  obtain⟨z,h,o⟩:=bd h
  refine wK0 (.inr ()=z) ([]) ([]) ?_ ?_
  ·refine wBlock (wLoop ?_)
   refine lW (pc1 z (fun a=>[(1,.d (ki.sig a1)),(3,.d ((kL (kR aH)).sig a3)),(4,.d (sP (kR aC) l)),(17,.d ((kL (kR aH)).sig a2)),(18,.d (ki.sig (a2.length:Int))),(19,.d (ki.sig a))]) (fun a=>[]) (cZ.l0.partial_correctness l a1 a2 a3) ?_ _ h) ⟨u,u,u,u,u,u,tv⟩ u
   clear h
   intro f' ih a h
   refine sx (c1<|.nil)<|wSeq<|jx h (fun b h=>?_) fun b h=>?_
   ·refine wd b u<|wSkip<|pSeq<|wSeq<|wBlock<|wSeq<|bx h fun t w h=>rx (c1<|iX u31 z73 w u u<|c1<|aL 10 Z73 ze73 zl73<|c1<|sA 0 aH u u z73 u u<|.nil)<|pSeq<|wSeq<|bx h fun v x h=>rx (c2<|iX u31 z73 x u u<|c1<|aL 11 Z73 ze73 zl73<|sA 0 aH u u z73 u u<|.nil)<|pSeq<|wSeq<|wB h (fun q=>[(1,.d (ki.sig a1)),(3,.d ((kL (kR aH)).sig a3)),(4,.d (sP (kR aC) l)),(10,.p 10 0),(11,.p 11 0),(17,.d ((kL (kR aH)).sig a2)),(18,.d (ki.sig (a2.length:Int))),(19,.d (ki.sig a)),(39,.d (kB.sig q))]) (fun q=>[.box 11 73 (L73 v),.box 10 73 (L73 t)]) (fun A h=>?_) fun q h=>?_
    ·refine jx h (fun c h=>?_) fun c h=>?_
     ·exact ej (c1<|lB 1 0 u u u t3 u<|c1<|lB 0 0 u u u t3 u<|c3<|crgB (nf c.1) u u (oLdB (n:=1) (k:=2) u u u t3 tm) (s1 u)<|c1<|crgB (nf c.1) u u (oLdB (n:=0) (k:=2) u u u t3 tm) (s1 u)<|c2<|.nil) (so h) (sb u) u
     ·exact ej (c1<|lB 1 0 u u u t3 u<|c1<|lB 0 0 u u u t3 u<|c8<|.nil) (so h) (sb u) u
    ·refine jx h (fun e h=>?_) fun e h=>?_
     ·refine wb e u<|sx (c1<|.nil)<|wRet<|pThenR<|pBlkR<|pThenR<|pThenR<|pBlkR<|pThenR ?_
      obtain rfl:=so h
      replace h:=o
      refine pThenR ?_
      obtain rfl:=so h
      exact pT u u
     ·refine wc e u<|wSkip<|pSeq<|wB h (fun s=>[(1,.d (ki.sig a1)),(3,.d ((kL (kR aH)).sig a3)),(4,.d (sP (kR aC) l)),(17,.d ((kL (kR aH)).sig a2)),(18,.d (ki.sig (a2.length:Int))),(19,.d (ki.sig a)),(56,.d (kB.sig s))]) (fun s=>[.box 11 73 (L73 v),.box 10 73 (L73 t)]) (fun A h=>?_) fun s h=>?_
      ·refine jx h (fun g h=>?_) fun g h=>?_
       ·exact ej (c1<|lB 1 1 u u u t3 u<|c1<|lB 0 1 u u u t3 u<|c6<|csU u u<|csU u u<|csU u u<|csU u u<|csU u u<|c2<|.nil) (so h) (sb u) u
       ·refine jx h (fun i h=>?_) fun i h=>?_
        ·exact bx h fun B y h=>ej (c1<|lB 1 1 u u u t3 u<|c1<|lB 0 1 u u u t3 u<|c3<|crgB (nt g.1) u u (oLdB (n:=1) (k:=0) u u u t3 tm) (s1 u)<|c4<|c1<|crgB (nf i.1) u u (oLdB (n:=1) (k:=2) u u u t3 tm) (s1 u)<|cgB (nf i.1) u u (oCall u (bP.ok y) b58 (oc tm (oc tm (oc tm o0)))) (s3 u u u)<|c2<|.nil) (so h) (sb u) u
        ·exact ej (c1<|lB 1 1 u u u t3 u<|c1<|lB 0 1 u u u t3 u<|c3<|crgB (nt g.1) u u (oLdB (n:=1) (k:=0) u u u t3 tm) (s1 u)<|c8<|c1<|.nil) (so h) (sb u) u
      ·refine jx h (fun j h=>?_) fun j h=>?_
       ·refine wb j u<|sx (c1<|.nil)<|wRet<|pBlkR<|pThenR<|pThenR<|pBlkR<|pThenR ?_
        obtain rfl:=so h
        replace h:=o
        refine pThenR ?_
        obtain rfl:=so h
        exact pT u u
       ·exact wc j u<|wSkip<|pBlkN<|pSeq<|rx (c2<|.nil)<|pDrop (.cons _ (.cons _ .slnil))<|pLoop (lW (ih _ h) ⟨u,u,u,u,u,u,tv⟩ u)
   ·exact we b u<|wExit<|pThenX<|pThenX<|pBlkX<|pJ0 (so h) tv u
  ·rintro rfl
   replace h:=o
   refine pSeq<|sx (c1<|.nil)<|wRet ?_
   obtain rfl:=so h
   exact pT u u
 ·refine wg m u<|sx (c1<|.nil)<|wRet<|pThenR ?_
  obtain rfl:=so h
  exact pT u u
theorem fh.ok(h:fh.f g a1 a2 a3 a4 i=some r):FnA PP 99 [(kR aC).sig g,ki.sig a1,ki.sig a2,ki.sig a3,ki.sig a4,ki.sig i] (kB.sig r):=by
 refine fJ Tryz.func99 u fun H0 w0=>?_
 unfold fh.f at h
 refine sx (c2<|.nil)<|wB h (fun c=>[(12,.d (kB.sig c))]) (fun c=>[]) (fun j h=>?_) fun c h=>?_
 ·refine jx h (fun a h=>?_) fun a h=>?_
  ·refine bx h fun k b h=>jx h (fun e h=>?_) fun e h=>?_
   ·exact ej (c6<|c1<|cgB (dT a.1) u u (oCall u (bP.ok b) b58 (oc tm (oc tm (oc tm o0)))) (s3 u u u)<|c8<|.nil) (so h) (sb u) u
   ·exact ej (c6<|c1<|cgB (dT a.1) u u (oCall u (bP.ok b) b58 (oc tm (oc tm (oc tm o0)))) (s3 u u u)<|c8<|.nil) (so h) (sb u) u
  ·exact ej (c8<|c2<|csU u u<|csU u u<|csU u u<|c3<|.nil) (so h) (sb u) u
 ·refine wRet ?_
  obtain rfl:=so h
  exact pT u u
theorem dh.ok(h:dh.f i a1 a2 a3=some r):FnA PP 56 [(kR aC).sig i,ki.sig a1,(kL (kR aB)).sig a2,(kL (kR aB)).sig a3] (kB.sig r):=by
 refine fJ Tryz.func56 u fun H0 w0=>?_
 unfold dh.f at h
 refine sx (c2<|.nil)<|wSeq<|sx (c4<|c1<|.nil)<|jx h (fun c h=>?_) fun c h=>?_
 ·refine wh c u<|wSkip<|pSeq<|wSeq<|sx (c3<|.nil) ?_
  obtain⟨o,h,g⟩:=bd h
  refine wK0 (.inr ()=o) ([]) ([]) ?_ ?_
  ·refine wBlock (wLoop ?_)
   refine lW (pc1 o (fun e=>[(1,.d (ki.sig a1)),(2,.d ((kL (kR aB)).sig a2)),(3,.d ((kL (kR aB)).sig a3)),(4,.d (sP (kR aC) i)),(16,.d (ki.sig (a2.length:Int))),(17,.d (ki.sig e))]) (fun e=>[]) (dh.l0.partial_correctness i a1 a2 a3) ?_ _ h) ⟨u,u,u,u,u,u,tv⟩ u
   clear h
   intro f' ih e h
   refine sx (c1<|.nil)<|wSeq<|jx h (fun a h=>?_) fun a h=>?_
   ·refine wd a u<|wSkip<|pSeq<|wSeq<|wBlock<|sx (c2<|.nil)<|wSeq<|bx h fun p j h=>bx h fun q k h=>bx h fun s l h=>bx h fun t m h=>bx h fun v n h=>rdx hm (c4<|iX u32 z30 j u u<|c4<|iX u32 z30 k u u<|c4<|iX u32 z30 l u u<|c4<|iX u32 z30 m u u<|c2<|cC (fh.ok n)<|c1<|.nil)<|pSeq<|jx h (fun b h=>?_) fun b h=>?_
    ·refine wb b u<|sx (c1<|.nil)<|wRet<|pBlkR<|pThenR<|pThenR<|pBlkR<|pThenR ?_
     obtain rfl:=so h
     replace h:=g
     refine pThenR ?_
     obtain rfl:=so h
     exact pT u u
    ·exact wc b u<|wSkip<|pBlkN<|pSeq<|rx (c2<|.nil)<|pLoop (lW (ih _ h) ⟨u,u,u,u,u,u,tv⟩ u)
   ·exact we a u<|wExit<|pThenX<|pThenX<|pBlkX<|pJ0 (so h) tv u
  ·rintro rfl
   replace h:=g
   refine pSeq<|sx (c1<|.nil)<|wRet ?_
   obtain rfl:=so h
   exact pT u u
 ·refine wg c u<|sx (c1<|.nil)<|wRet<|pThenR ?_
  obtain rfl:=so h
  exact pT u u
theorem cv.ok(h:cv.f e a1 a2=some r):FnA PP 100 [(kR aC).sig e,ki.sig a1,(kL (kR aB)).sig a2] ((kL (kR aB)).sig r):=by
 refine fJ Tryz.func100 u fun H0 w0=>?_
 unfold cv.f at h
 refine sx (c1<|cp (oAs cV) tv<|.nil)<|sx (cw (oLitR (id:=10) (d:=(kR aB)) el32 (by decide) u u u e0) tv<|c1<|.nil)<|wSeq<|sx (c3<|.nil)<|wWeak (Γ':=[(1,.d (ki.sig a1)),(3,.d (sP (kR aC) e)),(7,.v 10),(11,.d ((kL (kR aB)).sig a2)),(12,.d (ki.sig (a2.length:Int))),(13,.d (ki.sig 0))]) (sb u)<|wRen 10 1007 u<|kX h (fun g=>[(7,.v 1007)]) (fun g=>[.row 1007 30 (kR aB) g]) (fun p h=>?_) fun g h=>?_
 ·refine wBlock (wLoop ?_)
  refine lW (pc2 p (fun i a=>[(1,.d (ki.sig a1)),(3,.d (sP (kR aC) e)),(7,.v 1007),(11,.d ((kL (kR aB)).sig a2)),(12,.d (ki.sig (a2.length:Int))),(13,.d (ki.sig a))]) (fun i a=>[.row 1007 30 (kR aB) i]) (cv.l0.partial_correctness e a1 a2) ?_ _ _ h) ⟨u,u,u,u,u,u,tv⟩ u
  clear h
  intro f' ih i a h
  refine sx (c1<|.nil)<|wSeq<|jx h (fun b h=>?_) fun b h=>?_
  ·refine wd b u<|wSkip<|pSeq<|wB h (fun j=>[(1,.d (ki.sig a1)),(3,.d (sP (kR aC) e)),(7,.v 1007),(11,.d ((kL (kR aB)).sig a2)),(12,.d (ki.sig (a2.length:Int))),(13,.d (ki.sig a))]) (fun j=>[.row 1007 30 (kR aB) j]) (fun s h=>?_) fun j h=>?_
   ·refine wBlock<|wSeq<|bx h fun k l h=>rx (iX u32 z30 l u u<|c1<|aL 9 Z30 ze30 zl30<|sA 0 aB u u z30 u u<|.nil)<|pSeq<|wSeq<|bx h fun q m h=>rx (c3<|lB 0 1 u u u t3 u<|cC (bP.ok m)<|.nil)<|pSeq<|jx h (fun c h=>?_) fun c h=>?_
    ·exact wb c u<|ix h fun o h=>rx (c1<|lA 0 aB ⟨k.V,k.L⟩ u ⟨u,u,tv⟩ t30 u<|cp (oLit (d:=(kR aB)) el32 (by decide) u u u (e1 tm e0)) (s1 u)<|cw (oApp (n:=1) (id':=25) el32 (by decide) u (by decide) o tm tm) (s2 u u)<|c1<|.nil)<|pBlkN<|pDrop (.cons _ (.cons_cons _ .slnil))<|pSub (Γ':=[(1,.d (ki.sig a1)),(3,.d (sP (kR aC) e)),(7,.v 25),(11,.d ((kL (kR aB)).sig a2)),(12,.d (ki.sig (a2.length:Int))),(13,.d (ki.sig a))]) (sb u)<|pRen 25 1007 u<|pJ1 _ (so h) (sb u) u
    ·exact wc c u<|wSkip<|pBlkN<|pDrop (.cons _ (.cons_cons _ .slnil))<|pJ1 _ (so h) (sb u) u
   ·exact rx (c2<|.nil)<|pLoop (lW (ih _ _ h) ⟨u,u,u,u,u,u,tv⟩ u)
  ·exact we b u<|wExit<|pThenX<|pThenX<|pBlkX<|pJ1 _ (so h) (sb u) u
 ·refine pSeq<|sx (c2<|.nil)<|wFrzR (n:=0) (id:=1007) [6] u u ⟨u,tv⟩<|wRet ?_
  obtain rfl:=so h
  exact pT u u
theorem cH.ok(h:cH.f g a1=some r):FnA PP 35 [(kL (kR aB)).sig g,(kL (kR aB)).sig a1] (kB.sig r):=by
 refine fJ Tryz.func35 u fun H0 w0=>?_
 unfold cH.f at h
 refine sx (c1<|.nil)<|wSeq<|sx (c4<|c1<|.nil)<|jx h (fun c h=>?_) fun c h=>?_
 ·refine wh c u<|wSkip<|pSeq<|wSeq<|sx (c3<|.nil) ?_
  obtain⟨l,h,i⟩:=bd h
  refine wK0 (.inr ()=l) ([]) ([]) ?_ ?_
  ·refine wBlock (wLoop ?_)
   refine lW (pc1 l (fun e=>[(0,.d ((kL (kR aB)).sig g)),(1,.d ((kL (kR aB)).sig a1)),(12,.d (ki.sig (g.length:Int))),(13,.d (ki.sig e))]) (fun e=>[]) (cH.l0.partial_correctness g a1) ?_ _ h) ⟨u,u,u,u,tv⟩ u
   clear h
   intro f' ih e h
   refine sx (c1<|.nil)<|wSeq<|jx h (fun a h=>?_) fun a h=>?_
   ·refine wd a u<|wSkip<|pSeq<|wSeq<|wBlock<|sx (c2<|.nil)<|wSeq<|bx h fun m j h=>bx h fun n k h=>rdx hm (c2<|iX u32 z30 j u u<|c3<|iX u32 z30 k u u<|c1<|cp (oRNe eqk30 u eg30 u tm tm) (s2 u u)<|.nil)<|pSeq<|jx h (fun b h=>?_) fun b h=>?_
    ·exact wh b u<|wSkip<|pBlkN<|pSeq<|rx (c2<|.nil)<|pLoop (lW (ih _ h) ⟨u,u,u,u,tv⟩ u)
    ·refine wg b u<|sx (c1<|.nil)<|wRet<|pBlkR<|pThenR<|pThenR<|pBlkR<|pThenR ?_
     obtain rfl:=so h
     replace h:=i
     refine pThenR ?_
     obtain rfl:=so h
     exact pT u u
   ·exact we a u<|wExit<|pThenX<|pThenX<|pBlkX<|pJ0 (so h) tv u
  ·rintro rfl
   replace h:=i
   refine pSeq<|sx (c1<|.nil)<|wRet ?_
   obtain rfl:=so h
   exact pT u u
 ·refine wg c u<|sx (c1<|.nil)<|wRet<|pThenR ?_
  obtain rfl:=so h
  exact pT u u
theorem fG.ok(h:fG.f d a1 a2 a3=some r):FnA PP 57 [(kR aC).sig d,ki.sig a1,(kL (kR aB)).sig a2,(kL (kR aB)).sig a3] (kB.sig r):=by
 refine fJ Tryz.func57 u fun H0 w0=>?_
 unfold fG.f at h
 refine sx (c2<|.nil)<|wSeq<|bx h fun e a h=>bx h fun g b h=>bx h fun i c h=>rdx hm (c3<|cC (cv.ok a)<|c3<|cC (cv.ok b)<|cC (cH.ok c)<|c1<|.nil)<|pSeq<|wRet ?_
 obtain rfl:=so h
 exact pT u u
theorem cD.ok(h:cD.f l a1 a2 a3=some r):FnA PP 59 [(kR aC).sig l,ki.sig a1,(kL (kR aD)).sig a2,(kL (kR aD)).sig a3] (kB.sig r):=by
 refine fJ Tryz.func59 u fun H0 w0=>?_
 unfold cD.f at h
 refine sx (c2<|.nil)<|wSeq<|sx (c4<|c1<|.nil)<|jx h (fun g h=>?_) fun g h=>?_
 ·refine wh g u<|wSkip<|pSeq<|wSeq<|sx (c3<|.nil) ?_
  obtain⟨t,h,m⟩:=bd h
  refine wK0 (.inr ()=t) ([]) ([]) ?_ ?_
  ·refine wBlock (wLoop ?_)
   refine lW (pc1 t (fun e=>[(1,.d (ki.sig a1)),(2,.d ((kL (kR aD)).sig a2)),(3,.d ((kL (kR aD)).sig a3)),(4,.d (sP (kR aC) l)),(16,.d (ki.sig (a2.length:Int))),(17,.d (ki.sig e))]) (fun e=>[]) (cD.l0.partial_correctness l a1 a2 a3) ?_ _ h) ⟨u,u,u,u,u,u,tv⟩ u
   clear h
   intro f' ih e h
   refine sx (c1<|.nil)<|wSeq<|jx h (fun b h=>?_) fun b h=>?_
   ·refine wd b u<|wSkip<|pSeq<|wSeq<|wBlock<|sx (c2<|.nil)<|wB h (fun i=>[(1,.d (ki.sig a1)),(2,.d ((kL (kR aD)).sig a2)),(3,.d ((kL (kR aD)).sig a3)),(4,.d (sP (kR aC) l)),(16,.d (ki.sig (a2.length:Int))),(17,.d (ki.sig e)),(56,.d (kB.sig i))]) (fun i=>[]) (fun C h=>?_) fun i h=>?_
    ·refine bx h fun v j h=>bx h fun w k h=>jx h (fun a h=>?_) fun a h=>?_
     ·exact bx h fun x n h=>bx h fun y o h=>bx h fun z p h=>bx h fun A q h=>bx h fun B s h=>rdx hm (c2<|iX u33 z88 j u u<|c4<|iX u33 z88 k u u<|c2<|cp (oBNe u4 u tm tm) (s2 u u)<|c4<|c1<|cgB (nf a.1) u u (oIdx u33 z88 n tm tm) (s2 u u)<|c4<|cgB (nf a.1) u u (oIdx u33 z88 o tm tm) (s2 u u)<|c4<|cgB (nf a.1) u u (oIdx u33 z88 p tm tm) (s2 u u)<|c4<|cgB (nf a.1) u u (oIdx u33 z88 q tm tm) (s2 u u)<|c2<|cgB (nf a.1) u u (oCall u (fh.ok s) b99 (oc tm (oc tm (oc tm (oc tm (oc tm (oc tm o0))))))) ⟨u,u,u,u,u,u,tv⟩<|c2<|.nil)<|pJ1 _ (so h) (sb u) u
     ·exact rdx hm (c2<|iX u33 z88 j u u<|c4<|iX u33 z88 k u u<|c2<|cp (oBNe u4 u tm tm) (s2 u u)<|c12<|c12<|c2<|.nil)<|pJ1 _ (so h) (sb u) u
    ·refine jx h (fun c h=>?_) fun c h=>?_
     ·refine wb c u<|sx (c1<|.nil)<|wRet<|pBlkR<|pThenR<|pThenR<|pBlkR<|pThenR ?_
      obtain rfl:=so h
      replace h:=m
      refine pThenR ?_
      obtain rfl:=so h
      exact pT u u
     ·exact wc c u<|wSkip<|pBlkN<|pSeq<|rx (c2<|.nil)<|pLoop (lW (ih _ h) ⟨u,u,u,u,u,u,tv⟩ u)
   ·exact we b u<|wExit<|pThenX<|pThenX<|pBlkX<|pJ0 (so h) tv u
  ·rintro rfl
   replace h:=m
   refine pSeq<|sx (c1<|.nil)<|wRet ?_
   obtain rfl:=so h
   exact pT u u
 ·refine wg g u<|sx (c1<|.nil)<|wRet<|pThenR ?_
  obtain rfl:=so h
  exact pT u u
theorem cE.ok(h:cE.f i a1 a2=some r):FnA PP 60 [(kR aC).sig i,ki.sig a1,(kL (kR aD)).sig a2] ((kL (kR aD)).sig r):=by
 refine fJ Tryz.func60 u fun H0 w0=>?_
 unfold cE.f at h
 refine sx (c1<|cp (oAs cV) tv<|.nil)<|sx (c1<|.nil)<|wSeq<|sx (c3<|.nil)<|kX h (fun j=>[(2,.d ((kL (kR aD)).sig a2)),(7,.d (ki.sig j))]) (fun j=>[]) (fun t h=>?_) fun j h=>?_
 ·refine wBlock (wLoop ?_)
  refine lW (pc2 t (fun a g=>[(1,.d (ki.sig a1)),(2,.d ((kL (kR aD)).sig a2)),(3,.d (sP (kR aC) i)),(7,.d (ki.sig g)),(10,.d ((kL (kR aD)).sig a2)),(11,.d (ki.sig (a2.length:Int))),(12,.d (ki.sig a))]) (fun a g=>[]) (cE.l0.partial_correctness i a1 a2) ?_ _ _ h) ⟨u,u,u,u,u,u,u,tv⟩ u
  clear h
  intro f' ih a g h
  refine sx (c1<|.nil)<|wSeq<|jx h (fun b h=>?_) fun b h=>?_
  ·refine wd b u<|wSkip<|pSeq<|wB h (fun l=>[(1,.d (ki.sig a1)),(2,.d ((kL (kR aD)).sig a2)),(3,.d (sP (kR aC) i)),(7,.d (ki.sig l)),(10,.d ((kL (kR aD)).sig a2)),(11,.d (ki.sig (a2.length:Int))),(12,.d (ki.sig a))]) (fun l=>[]) (fun w h=>?_) fun l h=>?_
   ·refine wBlock<|wSeq<|bx h fun s p h=>rx (c1<|iX u33 z88 p u u<|c1<|aL 9 Z88 ze88 zl88<|c1<|sA 0 aD u u z88 u u<|.nil)<|pSeq<|wB h (fun m=>[(1,.d (ki.sig a1)),(2,.d ((kL (kR aD)).sig a2)),(3,.d (sP (kR aC) i)),(7,.d (ki.sig g)),(8,.d (ki.sig a)),(10,.d ((kL (kR aD)).sig a2)),(11,.d (ki.sig (a2.length:Int))),(12,.d (ki.sig a)),(25,.d (kB.sig m))]) (fun m=>[.box 9 88 (L88 s)]) (fun x h=>?_) fun m h=>?_
    ·refine jx h (fun c h=>?_) fun c h=>?_
     ·exact bx h fun v q h=>ej (c1<|lB 0 0 u u u t4 u<|c4<|crgB c.1 u u (oLdB (n:=0) (k:=2) u u u t3 tm) (s1 u)<|cgB c.1 u u (oCall u (bP.ok q) b58 (oc tm (oc tm (oc tm o0)))) (s3 u u u)<|c1<|.nil) (so h) (sb u) u
     ·exact ej (c1<|lB 0 0 u u u t4 u<|c6<|c1<|.nil) (so h) (sb u) u
    ·refine jx h (fun e h=>?_) fun e h=>?_
     ·exact wb e u<|rx (c3<|.nil)<|pBlkN<|pDrop (.cons _ .slnil)<|pJ1 _ (so h) (sb u) u
     ·exact wc e u<|wSkip<|pBlkN<|pDrop (.cons _ .slnil)<|pJ1 _ (so h) (sb u) u
   ·exact rx (c2<|.nil)<|pLoop (lW (ih _ _ h) ⟨u,u,u,u,u,u,u,tv⟩ u)
  ·exact we b u<|wExit<|pThenX<|pThenX<|pBlkX<|pJ1 _ (so h) (sb u) u
 ·refine pSeq<|wSeq<|ix h fun o h=>rx (c2<|cp (oCutHi u33 z88 o.1 o.2 tm tm) (s2 u u)<|c1<|.nil)<|pSeq<|wRet ?_
  obtain rfl:=so h
  exact pT u u
theorem eI.ok(h:eI.f s a1 a2 a3=some r):FnA PP 21 [(kR aC).sig s,ki.sig a1,(kR av).sig a2,(kR av).sig a3] (kB.sig r):=by
 refine fJ Tryz.func21 u fun H0 w0=>?_
 unfold eI.f at h
 refine sx (c4<|.nil)<|wSeq<|wB h (fun v=>[(1,.d (ki.sig a1)),(4,.d (sP (kR aC) s)),(6,.d (sP (kR av) a2)),(7,.d (sP (kR av) a3)),(36,.d (kB.sig v))]) (fun v=>[]) (fun w h=>?_) fun v h=>?_
 ·refine bx h fun N e h=>jx h (fun g h=>?_) fun g h=>?_
  ·exact ej (c6<|cC (cZ.ok e)<|c12<|c8<|c1<|.nil) (so h) (sb u) u
  ·refine bx h fun O t h=>jx h (fun i h=>?_) fun i h=>?_
   ·exact ej (c6<|cC (cZ.ok e)<|c8<|cgB (nb g.1) u u (oCall u (dh.ok t) b56 (oc tm (oc tm (oc tm (oc tm o0))))) ⟨u,u,u,u,tv⟩<|c12<|.nil) (so h) (sb u) u
   ·exact bx h fun E x h=>ej (c6<|cC (cZ.ok e)<|c8<|cgB (nb g.1) u u (oCall u (dh.ok t) b56 (oc tm (oc tm (oc tm (oc tm o0))))) ⟨u,u,u,u,tv⟩<|c8<|c1<|cgB (nb i.1) u u (oCall u (fG.ok x) b57 (oc tm (oc tm (oc tm (oc tm o0))))) ⟨u,u,u,u,tv⟩<|c2<|.nil) (so h) (sb u) u
 ·refine jx h (fun a h=>?_) fun a h=>?_
  ·refine wb a u<|sx (c1<|.nil)<|wRet<|pThenR ?_
   obtain rfl:=so h
   exact pT u u
  ·refine wc a u<|wSkip<|pSeq<|wSeq<|wB h (fun j=>[(1,.d (ki.sig a1)),(4,.d (sP (kR aC) s)),(6,.d (sP (kR av) a2)),(7,.d (sP (kR av) a3)),(50,.d (kB.sig j))]) (fun j=>[]) (fun w h=>?_) fun j h=>?_
   ·refine bx h fun F k h=>jx h (fun l h=>?_) fun l h=>?_
    ·exact bx h fun G y h=>ej (c4<|c1<|cC (bP.ok k)<|c6<|cgB l.1 u u (oCall u (bP.ok y) b58 (oc tm (oc tm (oc tm o0)))) (s3 u u u)<|c1<|.nil) (so h) (sb u) u
    ·exact ej (c4<|c1<|cC (bP.ok k)<|c8<|.nil) (so h) (sb u) u
   ·refine jx h (fun b h=>?_) fun b h=>?_
    ·refine wb b u<|wB h (fun m=>[(8,.d (kB.sig m))]) (fun m=>[]) (fun w h=>?_) fun m h=>?_
     ·refine jx h (fun n h=>?_) fun n h=>?_
      ·exact bx h fun H z h=>ej (c4<|cp (oREq eqk30 u eg30 u tm tm) (s2 u u)<|c6<|c1<|cgB (dT n.1) u u (oCall u (cD.ok z) b59 (oc tm (oc tm (oc tm (oc tm o0))))) ⟨u,u,u,u,tv⟩<|c2<|.nil) (so h) (sb u) u
      ·exact ej (c4<|cp (oREq eqk30 u eg30 u tm tm) (s2 u u)<|c8<|c2<|.nil) (so h) (sb u) u
     ·refine wRet<|pThenR ?_
      obtain rfl:=so h
      exact pT u u
    ·refine wc b u<|wSkip<|pSeq<|wSeq<|wB h (fun o=>[(1,.d (ki.sig a1)),(4,.d (sP (kR aC) s)),(6,.d (sP (kR av) a2)),(7,.d (sP (kR av) a3)),(78,.d (kB.sig o))]) (fun o=>[]) (fun w h=>?_) fun o h=>?_
     ·refine bx h fun I p h=>jx h (fun q h=>?_) fun q h=>?_
      ·exact ej (c4<|c1<|cC (bP.ok p)<|c8<|.nil) (so h) (sb u) u
      ·exact bx h fun J A h=>ej (c4<|c1<|cC (bP.ok p)<|c6<|cgB (nb q.1) u u (oCall u (bP.ok A) b58 (oc tm (oc tm (oc tm o0)))) (s3 u u u)<|c1<|.nil) (so h) (sb u) u
     ·refine jx h (fun c h=>?_) fun c h=>?_
      ·refine wb c u<|sx (c1<|.nil)<|wRet<|pThenR ?_
       obtain rfl:=so h
       exact pT u u
      ·refine wc c u<|wSkip<|pSeq<|wSeq<|bx h fun K B h=>bx h fun L C h=>bx h fun M D h=>rdx hm (c6<|cC (cE.ok B)<|c4<|cC (cE.ok C)<|cC (cD.ok D)<|c1<|.nil)<|pSeq<|wRet ?_
       obtain rfl:=so h
       exact pT u u
theorem fj.ok(h:fj.f m a1 a2 a3=some r):FnA PP 10 [(kR bM).sig m,ki.sig a1,(kR av).sig a2,(kR av).sig a3] (ki.sig r):=by
 refine fJ Tryz.func10 u fun H0 w0=>?_
 unfold fj.f at h
 refine sx (c4<|.nil)<|wSeq<|bx h fun t n h=>rx (c6<|c1<|cC (eZ.ok n)<|c1<|.nil)<|pSeq<|wSeq<|sx (c2<|.nil)<|jx h (fun b h=>?_) fun b h=>?_
 ·refine wd b u<|bx h fun v o h=>rx (c6<|c1<|cC (eZ.ok o)<|c1<|.nil)<|pSeq<|wSeq<|sx (c2<|.nil)<|jx h (fun c h=>?_) fun c h=>?_
  ·refine wh c u<|wSkip<|pSeq<|wSeq<|wB h (fun j=>[(4,.d (sP (kR bM) m)),(6,.d (sP (kR av) a2)),(7,.d (sP (kR av) a3)),(36,.d (kB.sig j))]) (fun j=>[]) (fun q h=>?_) fun j h=>?_
   ·refine jx h (fun p h=>?_) fun p h=>?_
    ·exact ej (c6<|.nil) (so h) (sb u) u
    ·exact ej (c6<|.nil) (so h) (sb u) u
   ·refine jx h (fun e h=>?_) fun e h=>?_
    ·refine wb e u<|sx (c1<|.nil)<|wRet<|pThenR ?_
     obtain rfl:=so h
     exact pT u u
    ·refine wc e u<|wSkip<|pSeq<|wSeq<|wB h (fun g=>[(58,.d (kB.sig g))]) (fun g=>[]) (fun q h=>?_) fun g h=>?_
     ·refine jx h (fun k h=>?_) fun k h=>?_
      ·exact ej (c12<|c8<|c2<|.nil) (so h) (sb u) u
      ·refine jx h (fun i h=>?_) fun i h=>?_
       ·exact ej (c12<|c8<|c2<|.nil) (so h) (sb u) u
       ·exact bx h fun s l h=>ej (c12<|c6<|c1<|cgB (dF i.1) u u (oCall u (eI.ok l) b21 (oc tm (oc tm (oc tm (oc tm o0))))) ⟨u,u,u,u,tv⟩<|c2<|.nil) (so h) (sb u) u
     ·refine jx h (fun a h=>?_) fun a h=>?_
      ·refine wb a u<|sx (c1<|.nil)<|wRet<|pThenR ?_
       obtain rfl:=so h
       exact pT u u
      ·refine wc a u<|wSkip<|pSeq<|sx (c1<|.nil)<|wRet ?_
       obtain rfl:=so h
       exact pT u u
  ·refine wg c u<|sx (c2<|.nil)<|wRet<|pThenR ?_
   obtain rfl:=so h
   exact pT u u
 ·refine we b u<|wSkip<|pSeq<|wSeq<|sx (c2<|.nil)<|wg b u<|sx (c2<|.nil)<|wRet<|pThenR ?_
  obtain rfl:=so h
  exact pT u u
theorem iu.ok(h:iu.f=some r):FnA PP 22 [] ((kR bn).sig r):=by
 refine fJ Tryz.func22 u fun H0 w0=>?_
 unfold iu.f at h
 refine sx (cw (oAlloc (id:=0) (ls:=[.d (kL (kR bj)) []]) ze28 (fun g=>⟨[(.slice none 0 0)],_,u,zL g.H,u⟩)) tv<|.nil)<|sx (cp (oLit (d:=ki) el56 (by decide) u u u (e1 (cI (by decide)) e0)) tv<|cp (oLit (d:=ki) el56 (by decide) u u u (e1 (cI (by decide)) e0)) tv<|cp (oLit (d:=ki) el56 (by decide) u u u (e1 (cI (by decide)) e0)) tv<|c3<|.nil)<|sx (cp (oLit (d:=ki) el56 (by decide) u u u (e1 (cI (by decide)) (e1 (cI (by decide)) (e1 (cI (by decide)) e0)))) tv<|c1<|.nil)<|sx (cp (oLit (d:=ki) el56 (by decide) u u u (e1 (cI (by decide)) (e1 (cI (by decide)) (e1 (cI (by decide)) e0)))) tv<|c1<|.nil)<|sx (c3<|cp (oBuild (fs:=bj) (u:=⟨([1]:List Int),([6]:List Int),([8]:List Int)⟩) u ze58 pl58 po58 (qL tm u (qL tm u (qL tm u .nil)))) (s3 u u u)<|aL 6 Z58 ze58 zl58<|sA 0 bj u u z58 u u<|.nil)<|sx (c3<|cp (oBuild (fs:=bj) (u:=⟨([1]:List Int),([9,10,12]:List Int),([8]:List Int)⟩) u ze58 pl58 po58 (qL tm u (qL tm u (qL tm u .nil)))) (s3 u u u)<|aL 7 Z58 ze58 zl58<|sA 0 bj u u z58 u u<|.nil)<|sx (c3<|cp (oBuild (fs:=bj) (u:=⟨([1]:List Int),([6]:List Int),([9,8,12]:List Int)⟩) u ze58 pl58 po58 (qL tm u (qL tm u (qL tm u .nil)))) (s3 u u u)<|aL 8 Z58 ze58 zl58<|sA 0 bj u u z58 u u<|.nil)<|sx (lA 2 bj ⟨([1]:List Int),([6]:List Int),([8]:List Int)⟩ u ⟨u,u,u,tv⟩ t58 u<|c1<|cp (oLit (d:=ki) el56 (by decide) u u u (e1 (cI (by decide)) e0)) tv<|c1<|cp (oBuild (fs:=bj) (u:=⟨([1]:List Int),([9]:List Int),([8]:List Int)⟩) u ze58 pl58 po58 (qL tm u (qL tm u (qL tm u .nil)))) (s3 u u u)<|lA 2 bj ⟨([1]:List Int),([6]:List Int),([8]:List Int)⟩ u ⟨u,u,u,tv⟩ t58 u<|lA 1 bj ⟨([1]:List Int),([9,10,12]:List Int),([8]:List Int)⟩ u ⟨u,u,u,tv⟩ t58 u<|lA 1 bj ⟨([1]:List Int),([9,10,12]:List Int),([8]:List Int)⟩ u ⟨u,u,u,tv⟩ t58 u<|lA 1 bj ⟨([1]:List Int),([9,10,12]:List Int),([8]:List Int)⟩ u ⟨u,u,u,tv⟩ t58 u<|cp (oLit (d:=ki) el56 (by decide) u u u (e1 (cI (by decide)) (e1 (cI (by decide)) (e1 (cI (by decide)) (e1 (cI (by decide)) (e1 (cI (by decide)) e0)))))) tv<|cp (oLit (d:=ki) el56 (by decide) u u u (e1 (cI (by decide)) (e1 (cI (by decide)) (e1 (cI (by decide)) (e1 (cI (by decide)) (e1 (cI (by decide)) e0)))))) tv<|c1<|cp (oBuild (fs:=bj) (u:=⟨([9,8,12,11,5]:List Int),([9,10,12,8,12]:List Int),([8]:List Int)⟩) u ze58 pl58 po58 (qL tm u (qL tm u (qL tm u .nil)))) (s3 u u u)<|lA 0 bj ⟨([1]:List Int),([6]:List Int),([9,8,12]:List Int)⟩ u ⟨u,u,u,tv⟩ t58 u<|lA 0 bj ⟨([1]:List Int),([6]:List Int),([9,8,12]:List Int)⟩ u ⟨u,u,u,tv⟩ t58 u<|lA 0 bj ⟨([1]:List Int),([6]:List Int),([9,8,12]:List Int)⟩ u ⟨u,u,u,tv⟩ t58 u<|c2<|cp (oLit (d:=ki) el56 (by decide) u u u (e1 (cI (by decide)) e0)) tv<|cp (oBuild (fs:=bj) (u:=⟨([1]:List Int),([9,8,12]:List Int),([10]:List Int)⟩) u ze58 pl58 po58 (qL tm u (qL tm u (qL tm u .nil)))) (s3 u u u)<|c3<|cp (oBuild (fs:=bj) (u:=⟨([1]:List Int),([9,8,12]:List Int),([8]:List Int)⟩) u ze58 pl58 po58 (qL tm u (qL tm u (qL tm u .nil)))) (s3 u u u)<|lA 2 bj ⟨([1]:List Int),([6]:List Int),([8]:List Int)⟩ u ⟨u,u,u,tv⟩ t58 u<|cp (oLit (d:=(kR bj)) el26 (by decide) u u u (e1 tm (e1 tm (e1 tm (e1 tm (e1 tm (e1 tm (e1 tm (e1 tm (e1 tm (e1 tm (e1 tm (e1 tm (e1 tm e0)))))))))))))) ⟨u,u,u,u,u,u,u,u,u,u,u,u,u,tv⟩<|cp (oBuild (fs:=bn) (u:=⟨([(⟨([1]:List Int),([6]:List Int),([8]:List Int)⟩:aW),(⟨([1]:List Int),([9]:List Int),([8]:List Int)⟩:aW),(⟨([1]:List Int),([6]:List Int),([8]:List Int)⟩:aW),(⟨([1]:List Int),([9,10,12]:List Int),([8]:List Int)⟩:aW),(⟨([1]:List Int),([9,10,12]:List Int),([8]:List Int)⟩:aW),(⟨([1]:List Int),([9,10,12]:List Int),([8]:List Int)⟩:aW),(⟨([9,8,12,11,5]:List Int),([9,10,12,8,12]:List Int),([8]:List Int)⟩:aW),(⟨([1]:List Int),([6]:List Int),([9,8,12]:List Int)⟩:aW),(⟨([1]:List Int),([6]:List Int),([9,8,12]:List Int)⟩:aW),(⟨([1]:List Int),([6]:List Int),([9,8,12]:List Int)⟩:aW),(⟨([1]:List Int),([9,8,12]:List Int),([10]:List Int)⟩:aW),(⟨([1]:List Int),([9,8,12]:List Int),([8]:List Int)⟩:aW),(⟨([1]:List Int),([6]:List Int),([8]:List Int)⟩:aW)]:List aW)⟩) u ze28 pl28 po28 (qL tm u .nil)) (s1 u)<|sA 3 bn u u z28 u u<|.nil)<|wRet ?_
 obtain rfl:=so h
 exact pR1 (.inl u) u (.box (n:=3) (fs:=bn) (u:=⟨([(⟨([1]:List Int),([6]:List Int),([8]:List Int)⟩:aW),(⟨([1]:List Int),([9]:List Int),([8]:List Int)⟩:aW),(⟨([1]:List Int),([6]:List Int),([8]:List Int)⟩:aW),(⟨([1]:List Int),([9,10,12]:List Int),([8]:List Int)⟩:aW),(⟨([1]:List Int),([9,10,12]:List Int),([8]:List Int)⟩:aW),(⟨([1]:List Int),([9,10,12]:List Int),([8]:List Int)⟩:aW),(⟨([9,8,12,11,5]:List Int),([9,10,12,8,12]:List Int),([8]:List Int)⟩:aW),(⟨([1]:List Int),([6]:List Int),([9,8,12]:List Int)⟩:aW),(⟨([1]:List Int),([6]:List Int),([9,8,12]:List Int)⟩:aW),(⟨([1]:List Int),([6]:List Int),([9,8,12]:List Int)⟩:aW),(⟨([1]:List Int),([9,8,12]:List Int),([10]:List Int)⟩:aW),(⟨([1]:List Int),([9,8,12]:List Int),([8]:List Int)⟩:aW),(⟨([1]:List Int),([6]:List Int),([8]:List Int)⟩:aW)]:List aW)⟩) u u ⟨u,tv⟩ t28<|.nil)
theorem gK.ok(h:gK.f=some r):FnS PP 22 [] [] [] (.f [80000] sAg1) [.row 80000 58 (kR bj) r]:=by
 refine fnIntroS Tryz.func22 u (by kernel_rfl) fun X H0 w0 pv=>?_
 unfold gK.f at h
 refine sx (cw (oAlloc (id:=0) (ls:=[.d (kL (kR bj)) []]) ze28 (fun g=>⟨[(.slice none 0 0)],_,u,zL g.H,u⟩)) tv<|.nil)<|sx (cp (oLit (d:=ki) el56 (by decide) u u u (e1 (cI (by decide)) e0)) tv<|cp (oLit (d:=ki) el56 (by decide) u u u (e1 (cI (by decide)) e0)) tv<|cp (oLit (d:=ki) el56 (by decide) u u u (e1 (cI (by decide)) e0)) tv<|c3<|.nil)<|sx (cp (oLit (d:=ki) el56 (by decide) u u u (e1 (cI (by decide)) (e1 (cI (by decide)) (e1 (cI (by decide)) e0)))) tv<|c1<|.nil)<|sx (cp (oLit (d:=ki) el56 (by decide) u u u (e1 (cI (by decide)) (e1 (cI (by decide)) (e1 (cI (by decide)) e0)))) tv<|c1<|.nil)<|sx (c3<|cp (oBuild (fs:=bj) (u:=⟨([1]:List Int),([6]:List Int),([8]:List Int)⟩) u ze58 pl58 po58 (qL tm u (qL tm u (qL tm u .nil)))) (s3 u u u)<|aL 6 Z58 ze58 zl58<|sA 0 bj u u z58 u u<|.nil)<|sx (c3<|cp (oBuild (fs:=bj) (u:=⟨([1]:List Int),([9,10,12]:List Int),([8]:List Int)⟩) u ze58 pl58 po58 (qL tm u (qL tm u (qL tm u .nil)))) (s3 u u u)<|aL 7 Z58 ze58 zl58<|sA 0 bj u u z58 u u<|.nil)<|sx (c3<|cp (oBuild (fs:=bj) (u:=⟨([1]:List Int),([6]:List Int),([9,8,12]:List Int)⟩) u ze58 pl58 po58 (qL tm u (qL tm u (qL tm u .nil)))) (s3 u u u)<|aL 8 Z58 ze58 zl58<|sA 0 bj u u z58 u u<|.nil)<|sx (lA 2 bj ⟨([1]:List Int),([6]:List Int),([8]:List Int)⟩ u ⟨u,u,u,tv⟩ t58 u<|c1<|cp (oLit (d:=ki) el56 (by decide) u u u (e1 (cI (by decide)) e0)) tv<|c1<|cp (oBuild (fs:=bj) (u:=⟨([1]:List Int),([9]:List Int),([8]:List Int)⟩) u ze58 pl58 po58 (qL tm u (qL tm u (qL tm u .nil)))) (s3 u u u)<|lA 2 bj ⟨([1]:List Int),([6]:List Int),([8]:List Int)⟩ u ⟨u,u,u,tv⟩ t58 u<|lA 1 bj ⟨([1]:List Int),([9,10,12]:List Int),([8]:List Int)⟩ u ⟨u,u,u,tv⟩ t58 u<|lA 1 bj ⟨([1]:List Int),([9,10,12]:List Int),([8]:List Int)⟩ u ⟨u,u,u,tv⟩ t58 u<|lA 1 bj ⟨([1]:List Int),([9,10,12]:List Int),([8]:List Int)⟩ u ⟨u,u,u,tv⟩ t58 u<|cp (oLit (d:=ki) el56 (by decide) u u u (e1 (cI (by decide)) (e1 (cI (by decide)) (e1 (cI (by decide)) (e1 (cI (by decide)) (e1 (cI (by decide)) e0)))))) tv<|cp (oLit (d:=ki) el56 (by decide) u u u (e1 (cI (by decide)) (e1 (cI (by decide)) (e1 (cI (by decide)) (e1 (cI (by decide)) (e1 (cI (by decide)) e0)))))) tv<|c1<|cp (oBuild (fs:=bj) (u:=⟨([9,8,12,11,5]:List Int),([9,10,12,8,12]:List Int),([8]:List Int)⟩) u ze58 pl58 po58 (qL tm u (qL tm u (qL tm u .nil)))) (s3 u u u)<|lA 0 bj ⟨([1]:List Int),([6]:List Int),([9,8,12]:List Int)⟩ u ⟨u,u,u,tv⟩ t58 u<|lA 0 bj ⟨([1]:List Int),([6]:List Int),([9,8,12]:List Int)⟩ u ⟨u,u,u,tv⟩ t58 u<|lA 0 bj ⟨([1]:List Int),([6]:List Int),([9,8,12]:List Int)⟩ u ⟨u,u,u,tv⟩ t58 u<|c2<|cp (oLit (d:=ki) el56 (by decide) u u u (e1 (cI (by decide)) e0)) tv<|cp (oBuild (fs:=bj) (u:=⟨([1]:List Int),([9,8,12]:List Int),([10]:List Int)⟩) u ze58 pl58 po58 (qL tm u (qL tm u (qL tm u .nil)))) (s3 u u u)<|c3<|cp (oBuild (fs:=bj) (u:=⟨([1]:List Int),([9,8,12]:List Int),([8]:List Int)⟩) u ze58 pl58 po58 (qL tm u (qL tm u (qL tm u .nil)))) (s3 u u u)<|lA 2 bj ⟨([1]:List Int),([6]:List Int),([8]:List Int)⟩ u ⟨u,u,u,tv⟩ t58 u<|cw (oLitR (id:=51) (d:=(kR bj)) el26 (by decide) u u u (e1 tm (e1 tm (e1 tm (e1 tm (e1 tm (e1 tm (e1 tm (e1 tm (e1 tm (e1 tm (e1 tm (e1 tm (e1 tm e0)))))))))))))) ⟨u,u,u,u,u,u,u,u,u,u,u,u,u,tv⟩<|cr (oBuildW (n:=0) u ze28 pl28 tm) (s1 u)<|cwn (oStW (n:=4) (m:=0) u u z28 u tm tm) (s2 u u)<|.nil)<|wRet ?_
 obtain rfl:=so h
 exact pSub (Γ':=[(0,.p 0 0)]) (sb u)<|pRen 51 80000 u<|pSag (n:=4) [0] u u (.inl u) u u u t28
theorem reticentlaw20_alive.ok(h:reticentlaw20_alive.f=some r):FnA PP 11 [] (kB.sig r):=by
 refine fJ Tryz.func11 u fun H0 w0=>?_
 unfold reticentlaw20_alive.f at h
 refine sx (c1<|.nil)<|sx (cp (oLit (d:=kS) el22 (by decide) u u u (e1 (cS (by decide)) (e1 (cS (by decide)) e0))) tv<|cp (oLit (d:=(kI .u32)) el23 (by decide) u u u (e1 (cI (by decide)) (e1 (cI (by decide)) e0))) tv<|cp (oBuild (fs:=aC) (u:=⟨([([97]:Str),([98]:Str)]:List Str),([3,2]:List Int)⟩) u ze25 pl25 po25 (qL tm u (qL tm u .nil))) (s2 u u)<|aL 1 Z25 ze25 zl25<|sA 0 aC u u z25 u u<|.nil)<|wSeq<|bx h fun i p h=>rx (cm (oCallS (rest:=[.box 1 25 [.d (kL kS) ([([97]:Str),([98]:Str)]:List Str),.d (kL (kI .u32)) ([3,2]:List Int)]]) (R':=[.row 320000 58 (kR bj) i,.box 1 25 [.d (kL kS) ([([97]:Str),([98]:Str)]:List Str),.d (kL (kI .u32)) ([3,2]:List Int)]]) (out':=.f [320000] sAg1) [] [(80000,320000)] [] [0] [0,1] u (gK.ok p) b22 oE0 u u u u u u u u) tv<|cw (oAlloc (id:=2) (ls:=[.d (kL (kR bj)) []]) ze28 (fun g=>⟨[(.slice none 0 0)],_,u,zL g.H,u⟩)) tv<|cwn (oStW (n:=0) (m:=1) u u z28 u tm tm) (s2 u u)<|.nil)<|pSeq<|wSeq<|sx (c1<|lN 0 0 u u u t26 u<|cr (oLenR (n:=1) u26 u tm) (s1 u)<|c1<|.nil)<|jx h (fun b h=>?_) fun b h=>?_
 ·refine wh b u<|wSkip<|pSeq<|wSeq<|bx h fun a e h=>rx (c1<|lN 0 0 u u u t26 u<|cp (oLit (d:=ki) el56 (by decide) u u u (e1 (cI (by decide)) e0)) tv<|cr (oIdxR (n:=1) u26 z58 u e tm (cI (by decide))) (s1 u)<|cp (oFldE o58_1 tm) (s1 u)<|cwn (oStEF (n:=1) (k:=1) (fs:=bj) (u':=(⟨a.May,([6]:List Int),a.Pc⟩:aW)) u e u ⟨u,u,tv⟩ u z56 tm tm) (s2 u u)<|.nil)<|pSeq<|sx (cp (oBuild (fs:=aH) (u:=⟨1,1,1⟩) u ze73 pl73 po73 (qI (cI (by decide)) u (qI (cI (by decide)) u (qI (cI (by decide)) u .nil)))) tv<|cp (oLit (d:=(kR aH)) el31 (by decide) u u u (e1 tm e0)) (s1 u)<|cp (oBuild (fs:=av) (u:=⟨(⟨0,0⟩:aG),([(⟨1,1,1⟩:aI)]:List aI),[],[],[]⟩) u ze35 pl35 po35 (.ze (zc:=[(.int .i64 0),(.int .i64 0)]) gx (qL tm u (gL zL (gL zL (gL zL .nil)))))) (s1 u)<|cp (oBuild (fs:=aH) (u:=⟨1,2,1⟩) u ze73 pl73 po73 (qI (cI (by decide)) u (qI (cI (by decide)) u (qI (cI (by decide)) u .nil)))) tv<|cp (oLit (d:=(kR aH)) el31 (by decide) u u u (e1 tm e0)) (s1 u)<|cp (oBuild (fs:=av) (u:=⟨(⟨0,0⟩:aG),([(⟨1,2,1⟩:aI)]:List aI),[],[],[]⟩) u ze35 pl35 po35 (.ze (zc:=[(.int .i64 0),(.int .i64 0)]) gx (qL tm u (gL zL (gL zL (gL zL .nil)))))) (s1 u)<|aL 3 Z35 ze35 zl35<|aL 4 Z35 ze35 zl35<|cwn (oStP (n:=1) (k:=0) (m:=6) (d:=(kR av)) (u:=(⟨(⟨0,0⟩:aG),([(⟨1,1,1⟩:aI)]:List aI),[],[],[]⟩:al)) pt35 u u u z35 tm tm) (s2 u u)<|cwn (oStP (n:=0) (k:=0) (m:=6) (d:=(kR av)) (u:=(⟨(⟨0,0⟩:aG),([(⟨1,2,1⟩:aI)]:List aI),[],[],[]⟩:al)) pt35 u u u z35 tm tm) (s2 u u)<|.nil)<|wSeq<|wFrzR (n:=3) (id:=320000) [14,18] u u ⟨u,u,tv⟩<|bx h fun v q h=>rx (lA 3 aC ⟨([([97]:Str),([98]:Str)]:List Str),([3,2]:List Int)⟩ u ⟨u,u,tv⟩ t25 u<|cr (oLdA (n:=2) (fs:=bn) (u:=⟨i.set (1:Int).toNat (⟨a.May,([6]:List Int),a.Pc⟩:aW)⟩) u ⟨u,tv⟩ t28 tm) (s1 u)<|lP 1 0 6 (kR av) (⟨⟨0,0⟩,([(⟨1,1,1⟩:aI)]:List aI),[],[],[]⟩:al) pt35 u u u t35 u<|lP 0 0 6 (kR av) (⟨⟨0,0⟩,([(⟨1,2,1⟩:aI)]:List aI),[],[],[]⟩:al) pt35 u u u t35 u<|cC (dC.ok q)<|c4<|c1<|.nil)<|pSeq<|wSeq<|bx h fun w s h=>bx h fun x t h=>rdx hm (lA 3 aC ⟨([([97]:Str),([98]:Str)]:List Str),([3,2]:List Int)⟩ u ⟨u,u,tv⟩ t25 u<|cC (iu.ok s)<|lP 1 0 6 (kR av) (⟨⟨0,0⟩,([(⟨1,1,1⟩:aI)]:List aI),[],[],[]⟩:al) pt35 u u u t35 u<|lP 0 0 6 (kR av) (⟨⟨0,0⟩,([(⟨1,2,1⟩:aI)]:List aI),[],[],[]⟩:al) pt35 u u u t35 u<|cC (dC.ok t)<|c4<|c1<|.nil)<|pSeq<|wB h (fun c=>[(0,.d (kB.sig c))]) (fun c=>[.box 4 35 [.d ki 0,.d ki 0,.d (kL (kR aH)) ([(⟨1,2,1⟩:aI)]:List aI),.d (kL (kR aB)) [],.d (kL (kR aD)) [],.d (kL (kR aB)) []],.box 3 35 [.d ki 0,.d ki 0,.d (kL (kR aH)) ([(⟨1,1,1⟩:aI)]:List aI),.d (kL (kR aB)) [],.d (kL (kR aD)) [],.d (kL (kR aB)) []],.box 2 28 [.d (kL (kR bj)) (i.set (1:Int).toNat (⟨a.May,([6]:List Int),a.Pc⟩:aW))],.box 1 25 [.d (kL kS) ([([97]:Str),([98]:Str)]:List Str),.d (kL (kI .u32)) ([3,2]:List Int)]]) (fun y h=>?_) fun c h=>?_
  ·refine jx h (fun j h=>?_) fun j h=>?_
   ·refine jx h (fun l h=>?_) fun l h=>?_
    ·refine jx h (fun o h=>?_) fun o h=>?_
     ·exact ej (c12<|c3<|.nil) (so h) (sb u) u
     ·exact ej (c12<|c3<|.nil) (so h) (sb u) u
    ·exact ej (c12<|c3<|.nil) (so h) (sb u) u
   ·exact ej (c12<|c3<|.nil) (so h) (sb u) u
  ·refine wRet ?_
   obtain rfl:=so h
   exact pT u u
 ·refine wg b u<|sx (c1<|.nil)<|wRet<|pThenR ?_
  obtain rfl:=so h
  exact pT u u
theorem bU.ok(h:bU.f b=some r):FnA PP 128 [(kR aC).sig b] (ki.sig r):=by
 refine fJ Tryz.func128 u fun H0 w0=>?_
 unfold bU.f at h
 refine sx (c2<|.nil)<|sx (c1<|.nil)<|wSeq<|sx (c4<|.nil)<|kX h (fun c=>[(3,.d (ki.sig c))]) (fun c=>[]) (fun j h=>?_) fun c h=>?_
 ·refine wBlock (wLoop ?_)
  refine lW (pc2 j (fun e g=>[(1,.d (sP (kR aC) b)),(3,.d (ki.sig e)),(7,.d (ki.sig (b.Up.length:Int))),(8,.d (ki.sig g))]) (fun e g=>[]) (bU.l0.partial_correctness b) ?_ _ _ h) ⟨u,u,u,u,tv⟩ u
  clear h
  intro f' ih e g h
  refine sx (c1<|.nil)<|wSeq<|jx h (fun a h=>?_) fun a h=>?_
  ·exact wd a u<|wSkip<|pSeq<|wSeq<|wBlock<|sx (c2<|.nil)<|bx h fun k i h=>rx (c3<|cC (bC.ok i)<|c1<|.nil)<|pBlkN<|pSeq<|rx (c2<|.nil)<|pLoop (lW (ih _ _ h) ⟨u,u,u,u,tv⟩ u)
  ·exact we a u<|wExit<|pThenX<|pThenX<|pBlkX<|pJ1 _ (so h) (sb u) u
 ·refine pSeq<|sx (c2<|.nil)<|wRet ?_
  obtain rfl:=so h
  exact pT u u
theorem ci.ok(h:ci.f c=some r):FnA PP 129 [(kR aH).sig c] (ki.sig r):=by
 refine fJ Tryz.func129 u fun H0 w0=>?_
 unfold ci.f at h
 refine sx (c2<|.nil)<|wSeq<|sx (c3<|.nil)<|jx h (fun a h=>?_) fun a h=>?_
 ·refine wd a u<|sx (c3<|.nil)<|wRet<|pThenR ?_
  obtain rfl:=so h
  exact pT u u
 ·refine we a u<|wSkip<|pSeq<|wSeq<|bx h fun e b h=>rx (cp (oLit (d:=ki) el56 (by decide) u u u (e1 (cI (by decide)) (e1 (cI (by decide)) (e1 (cI (by decide)) (e1 (cI (by decide)) (e1 (cI (by decide)) (e1 (cI (by decide)) (e1 (cI (by decide)) (e1 (cI (by decide)) (e1 (cI (by decide)) (e1 (cI (by decide)) (e1 (cI (by decide)) (e1 (cI (by decide)) (e1 (cI (by decide)) e0)))))))))))))) tv<|c2<|iX u56 z3 b u u<|c2<|.nil)<|pSeq<|wRet ?_
  obtain rfl:=so h
  exact pT u u
theorem fa.ok(h:fa.f e a1=some r):FnA PP 130 [(kR av).sig e,ki.sig a1] (kB.sig r):=by
 refine fJ Tryz.func130 u fun H0 w0=>?_
 unfold fa.f at h
 refine sx (c2<|.nil)<|sx (c6<|c1<|.nil)<|wB h (fun b=>[(4,.d (kB.sig b))]) (fun b=>[]) (fun g h=>?_) fun b h=>?_
 ·refine jx h (fun a h=>?_) fun a h=>?_
  ·exact bx h fun i c h=>ej (c6<|cgB (dT a.1) u u (oIdx u33 z88 c tm tm) (s2 u u)<|c4<|c1<|.nil) (so h) (sb u) u
  ·exact ej (c12<|.nil) (so h) (sb u) u
 ·refine wRet ?_
  obtain rfl:=so h
  exact pT u u
theorem di.ok(h:di.f e a1=some r):FnA PP 131 [(kR av).sig e,ki.sig a1] (ki.sig r):=by
 refine fJ Tryz.func131 u fun H0 w0=>?_
 unfold di.f at h
 refine sx (c2<|.nil)<|wSeq<|sx (c3<|.nil) ?_
 obtain⟨i,h,c⟩:=bd h
 refine wK0 (.inr ()=i) ([]) ([]) ?_ ?_
 ·refine wBlock (wLoop ?_)
  refine lW (pc1 i (fun g=>[(2,.d (sP (kR av) e)),(5,.d (ki.sig g))]) (fun g=>[]) (di.l0.partial_correctness e) ?_ _ h) ⟨u,u,tv⟩ u
  clear h
  intro f' ih g h
  refine wSeq<|sx (c2<|.nil)<|jx h (fun b h=>?_) fun b h=>?_
  ·refine wd b u<|wSkip<|pSeq<|wSeq<|wBlock<|wSeq<|bx h fun k j h=>rx (c3<|iX u33 z88 j u u<|c2<|.nil)<|pSeq<|jx h (fun a h=>?_) fun a h=>?_
   ·refine wb a u<|sx (c2<|.nil)<|wRet<|pBlkR<|pThenR<|pThenR<|pBlkR<|pThenR ?_
    obtain rfl:=so h
    replace h:=c
    refine pThenR ?_
    obtain rfl:=so h
    exact pT u u
   ·exact wc a u<|wSkip<|pBlkN<|pSeq<|rx (c3<|.nil)<|pLoop (lW (ih _ h) ⟨u,u,tv⟩ u)
  ·exact we b u<|wExit<|pThenX<|pThenX<|pBlkX<|pJ0 (so h) tv u
 ·rintro rfl
  replace h:=c
  refine pSeq<|sx (c1<|.nil)<|wRet ?_
  obtain rfl:=so h
  exact pT u u
theorem bH.ok(h:bH.f a0 a1=some r):FnA PP 102 [(kR aC).sig a0,(kR av).sig a1] ((kR bl).sig r):=by
 refine fJ Tryz.func102 u fun H0 w0=>?_
 unfold bH.f at h
 refine sx (c2<|aL 4 Z158 ze158 zl158<|.nil)<|wSeq<|bx h fun b qn h=>rx (c4<|c1<|iX u31 z73 qn u u<|c1<|aL 5 Z73 ze73 zl73<|sA 0 aH u u z73 u u<|.nil)<|pSeq<|wSeq<|bx h fun g qo h=>rx (c1<|cC (bU.ok qo)<|c1<|.nil)<|pSeq<|wSeq<|bx h fun X qp h=>rgL hm (c6<|cl [] u (oLdA (n:=0) (fs:=aH) (u:=⟨b.Op,b.N,b.L⟩) u ⟨u,u,u,tv⟩ t73 tm) (s1 u)<|cC (ci.ok qp)<|c1<|cp (oBuild (fs:=bl) (u:=⟨false,(⟨false,0,0⟩:aF),(⟨false,0,0⟩:aF),(⟨false,0,0⟩:aF),g,g,g,IntKind.i64.wrap ((a1.Stack.length:Int)-X)⟩) u ze158 pl158 po158 (gB zB (gS dV (gS dV (gS dV (qI tm u (qI tm u (qI tm u (qI tm u .nil))))))))) ⟨u,u,u,u,tv⟩<|cn (oAlloc (id:=7) (ls:=Z158) ze158 zl158) tv<|cwn (oStP (n:=0) (k:=0) (m:=14) (d:=(kR bl)) (u:=(⟨false,(⟨false,0,0⟩:aF),(⟨false,0,0⟩:aF),(⟨false,0,0⟩:aF),g,g,g,IntKind.i64.wrap ((a1.Stack.length:Int)-X)⟩:aM)) pt158 u u u z158 tm tm) (s2 u u)<|.nil) (by kernel_rfl) (by kernel_rfl) (by kernel_rfl)<|pSeq<|wSeq<|sx (c1<|.nil) ?_
 obtain⟨S,h,e⟩:=bd h
 refine wK0 (.inr ()=S) ([(3,.d (sP (kR av) a1)),(4,.p 4 0),(5,.p 5 0),(7,.p 7 0)]) ([.box 7 158 [.d kB false,.d kB false,.d ki 0,.d ki 0,.d kB false,.d ki 0,.d ki 0,.d kB false,.d ki 0,.d ki 0,.d ki g,.d ki g,.d ki g,.d ki (IntKind.i64.wrap ((a1.Stack.length:Int)-X))],.box 5 73 (L73 b),.box 4 158 [.d kB false,.d kB false,.d ki 0,.d ki 0,.d kB false,.d ki 0,.d ki 0,.d kB false,.d ki 0,.d ki 0,.d ki 0,.d ki 0,.d ki 0,.d ki 0]]) ?_ ?_
 ·refine wBlock (wLoop ?_)
  refine lW (pc1 S (fun U=>[(3,.d (sP (kR av) a1)),(4,.p 4 0),(5,.p 5 0),(7,.p 7 0),(8,.d (ki.sig U))]) (fun U=>[.box 7 158 [.d kB false,.d kB false,.d ki 0,.d ki 0,.d kB false,.d ki 0,.d ki 0,.d kB false,.d ki 0,.d ki 0,.d ki g,.d ki g,.d ki g,.d ki (IntKind.i64.wrap ((a1.Stack.length:Int)-X))],.box 5 73 (L73 b),.box 4 158 [.d kB false,.d kB false,.d ki 0,.d ki 0,.d kB false,.d ki 0,.d ki 0,.d kB false,.d ki 0,.d ki 0,.d ki 0,.d ki 0,.d ki 0,.d ki 0]]) (bH.l0.partial_correctness a1 b) ?_ _ h) ⟨u,u,u,u,u,tv⟩ u
  clear h
  intro f' ih U h
  refine wSeq<|wSeq<|bx h fun qx qg h=>rx (c1<|lA 1 aH ⟨b.Op,b.N,b.L⟩ u ⟨u,u,u,tv⟩ t73 u<|cC (ci.ok qg)<|c1<|.nil)<|pSeq<|jx h (fun E h=>?_) fun E h=>?_
  ·refine wd E u<|wSkip<|pSeq<|wSeq<|wBlock<|wSeq<|bx h fun qy qh h=>rx (c2<|cC (fa.ok qh)<|c1<|.nil)<|pSeq<|jx h (fun F h=>?_) fun F h=>?_
   ·refine wb F u<|sx (cp (oBuild (fs:=bl) (u:=⟨false,(⟨false,0,0⟩:aF),(⟨false,0,0⟩:aF),(⟨false,0,0⟩:aF),0,0,0,0⟩) u ze158 pl158 po158 (gB zB (gS dV (gS dV (gS dV (gI zI_i64 (gI zI_i64 (gI zI_i64 (gI zI_i64 .nil))))))))) tv<|cwn (oStP (n:=2) (k:=0) (m:=14) (d:=(kR bl)) (u:=(⟨false,(⟨false,0,0⟩:aF),(⟨false,0,0⟩:aF),(⟨false,0,0⟩:aF),0,0,0,0⟩:aM)) pt158 u u u z158 tm tm) (s2 u u)<|.nil)<|wRet<|pBlkR<|pThenR<|pThenR<|pBlkR<|pThenR ?_
    obtain rfl:=so h
    replace h:=e
    refine pThenR ?_
    obtain rfl:=so h
    exact pR1 (.inl u) u (.boxP (n:=2) (d:=(kR bl)) (u:=(⟨false,⟨false,0,0⟩,⟨false,0,0⟩,⟨false,0,0⟩,0,0,0,0⟩:aM)) u u pt158 u t158<|.nil)
   ·exact wc F u<|wSkip<|pBlkN<|pSeq<|rx (c3<|.nil)<|pLoop (lW (ih _ h) ⟨u,u,u,u,u,tv⟩ u)
  ·exact we E u<|wExit<|pThenX<|pThenX<|pBlkX<|pJ0 (so h) (sb u) u
 ·rintro rfl
  replace h:=e
  refine pSeq<|wB h (fun W=>[(3,.d (sP (kR av) a1)),(4,.p 4 0),(5,.p 5 0),(7,.p 7 0)]) (fun W=>[.box 7 158 (L158 W),.box 5 73 (L73 b),.box 4 158 [.d kB false,.d kB false,.d ki 0,.d ki 0,.d kB false,.d ki 0,.d ki 0,.d kB false,.d ki 0,.d ki 0,.d ki 0,.d ki 0,.d ki 0,.d ki 0]]) (fun S h=>?_) fun W h=>?_
  ·refine wSeq<|bx h fun qz qi h=>rx (lA 1 aH ⟨b.Op,b.N,b.L⟩ u ⟨u,u,u,tv⟩ t73 u<|cC (ci.ok qi)<|c1<|.nil)<|pSeq<|jx h (fun G h=>?_) fun G h=>?_
   ·exact wd G u<|wSeq<|bx h fun qq qj h=>rx (c6<|iX u33 z88 qj u u<|c2<|cwn (oStP (n:=0) (k:=1) (m:=3) (d:=(kR aD)) (u:=qq) pt88 u u u z88 tm tm) (s2 u u)<|.nil)<|pSeq<|ej (c2<|lB 0 3 u u u t3 u<|c1<|cwn (oSt (n:=0) (k:=10) u u u u z3 tm tm) (s2 u u)<|.nil) (so h) (sb u) u
   ·exact we G u<|wSkip<|pJ1 _ (so h) (sb u) u
  ·refine wB h (fun a=>[(3,.d (sP (kR av) a1)),(4,.p 4 0),(5,.p 5 0),(7,.p 7 0)]) (fun a=>[.box 7 158 (L158 a),.box 5 73 (L73 b),.box 4 158 [.d kB false,.d kB false,.d ki 0,.d ki 0,.d kB false,.d ki 0,.d ki 0,.d kB false,.d ki 0,.d ki 0,.d ki 0,.d ki 0,.d ki 0,.d ki 0]]) (fun S h=>?_) fun a h=>?_
   ·refine wSeq<|bx h fun re qk h=>rx (lA 1 aH ⟨b.Op,b.N,b.L⟩ u ⟨u,u,u,tv⟩ t73 u<|cC (ci.ok qk)<|c1<|.nil)<|pSeq<|jx h (fun H h=>?_) fun H h=>?_
    ·exact wd H u<|wSeq<|bx h fun qr ql h=>rx (c6<|iX u33 z88 ql u u<|c2<|cwn (oStP (n:=0) (k:=4) (m:=3) (d:=(kR aD)) (u:=qr) pt88 u u u z88 tm tm) (s2 u u)<|.nil)<|pSeq<|ej (c2<|lB 0 6 u u u t3 u<|c1<|cwn (oSt (n:=0) (k:=11) u u u u z3 tm tm) (s2 u u)<|.nil) (so h) (sb u) u
    ·exact we H u<|wSkip<|pJ1 _ (so h) (sb u) u
   ·refine sx (c1<|cwn (oSt (n:=0) (k:=0) u u u u z4 tm cB) (s1 u)<|.nil) ?_
    obtain⟨S,h,e⟩:=bd h
    refine wJ1 (fun c=>.inr c=S) (fun c=>[(4,.p 4 0),(7,.p 7 0)]) (fun c=>[.box 7 158 (L158 c),.box 5 73 (L73 b),.box 4 158 [.d kB false,.d kB false,.d ki 0,.d ki 0,.d kB false,.d ki 0,.d ki 0,.d kB false,.d ki 0,.d ki 0,.d ki 0,.d ki 0,.d ki 0,.d ki 0]]) ?_ ?_
    ·refine sx (c1<|lB 1 0 u u u t3 u<|.nil) ?_
     obtain⟨o2,h,D⟩:=bd h
     refine wK1 (fun i=>.inr i=o2) (fun i=>[(4,.p 4 0),(7,.p 7 0)]) (fun i=>[.box 7 158 (L158 i),.box 5 73 (L73 b),.box 4 158 [.d kB false,.d kB false,.d ki 0,.d ki 0,.d kB false,.d ki 0,.d ki 0,.d kB false,.d ki 0,.d ki 0,.d ki 0,.d ki 0,.d ki 0,.d ki 0]]) ?_ ?_
     ·refine wBlock<|sx (c2<|.nil)<|jx h (fun j h=>?_) fun j h=>?_
      ·exact wd j u<|rx (c1<|lB 1 2 u u u t3 u<|c1<|cwn (oSt (n:=0) (k:=10) u u u u z3 tm tm) (s2 u u)<|.nil)<|pBlkN<|pJ1 _ (so h) (sb u) u
      ·refine we j u<|wB h (fun I=>[(3,.d (sP (kR av) a1)),(4,.p 4 0),(5,.p 5 0),(7,.p 7 0),(75,.d (ki.sig b.Op)),(81,.d (kB.sig I))]) (fun I=>[.box 7 158 [.d kB true,.d kB a.A.Ret,.d ki a.A.V,.d ki a.A.L,.d kB a.B.Ret,.d ki a.B.V,.d ki a.B.L,.d kB a.R.Ret,.d ki a.R.V,.d ki a.R.L,.d ki a.One,.d ki a.Two,.d ki a.Three,.d ki a.Below],.box 5 73 (L73 b),.box 4 158 [.d kB false,.d kB false,.d ki 0,.d ki 0,.d kB false,.d ki 0,.d ki 0,.d kB false,.d ki 0,.d ki 0,.d ki 0,.d ki 0,.d ki 0,.d ki 0]]) (fun T h=>?_) fun I h=>?_
       ·refine sx (c2<|.nil)<|jx h (fun l h=>?_) fun l h=>?_
        ·exact wd l u<|wSkip<|pJ1 _ (so h) (sb u) u
        ·exact we l u<|ej (c2<|.nil) (so h) (sb u) u
       ·refine jx h (fun o h=>?_) fun o h=>?_
        ·refine wb o u<|wSeq<|wB h (fun J=>[(3,.d (sP (kR av) a1)),(4,.p 4 0),(5,.p 5 0),(7,.p 7 0),(96,.d (kB.sig J))]) (fun J=>[.box 7 158 [.d kB true,.d kB a.A.Ret,.d ki a.A.V,.d ki a.A.L,.d kB a.B.Ret,.d ki a.B.V,.d ki a.B.L,.d kB a.R.Ret,.d ki a.R.V,.d ki a.R.L,.d ki a.One,.d ki a.Two,.d ki a.Three,.d ki a.Below],.box 5 73 (L73 b),.box 4 158 [.d kB false,.d kB false,.d ki 0,.d ki 0,.d kB false,.d ki 0,.d ki 0,.d kB false,.d ki 0,.d ki 0,.d ki 0,.d ki 0,.d ki 0,.d ki 0]]) (fun T h=>?_) fun J h=>?_
         ·refine jx h (fun P h=>?_) fun P h=>?_
          ·exact ej (c2<|lB 0 2 u u u t3 u<|c8<|c2<|.nil) (so h) (sb u) u
          ·exact ej (c2<|lB 0 2 u u u t3 u<|c4<|crgB (dF P.1) u u (oLdB (n:=0) (k:=2) u u u t3 tm) (s1 u)<|c4<|c1<|.nil) (so h) (sb u) u
         ·refine jx h (fun q h=>?_) fun q h=>?_
          ·refine wb q u<|sx (cp (oBuild (fs:=bl) (u:=⟨false,(⟨false,0,0⟩:aF),(⟨false,0,0⟩:aF),(⟨false,0,0⟩:aF),0,0,0,0⟩) u ze158 pl158 po158 (gB zB (gS dV (gS dV (gS dV (gI zI_i64 (gI zI_i64 (gI zI_i64 (gI zI_i64 .nil))))))))) tv<|cwn (oStP (n:=2) (k:=0) (m:=14) (d:=(kR bl)) (u:=(⟨false,(⟨false,0,0⟩:aF),(⟨false,0,0⟩:aF),(⟨false,0,0⟩:aF),0,0,0,0⟩:aM)) pt158 u u u z158 tm tm) (s2 u u)<|.nil)<|wRet<|pThenR<|pBlkR<|pThenR ?_
           obtain rfl:=so h
           replace h:=D
           refine pThenR ?_
           obtain rfl:=so h
           replace h:=e
           obtain rfl:=so h
           exact pR1 (.inl u) u (.boxP (n:=2) (d:=(kR bl)) (u:=(⟨false,⟨false,0,0⟩,⟨false,0,0⟩,⟨false,0,0⟩,0,0,0,0⟩:aM)) u u pt158 u t158<|.nil)
          ·refine wc q u<|wSkip<|pSeq<|sx (c1<|lB 1 0 u u u t3 u<|c1<|.nil)<|jx h (fun s h=>?_) fun s h=>?_
           ·exact wd s u<|bx h fun qt Y h=>rx (c4<|lB 0 2 u u u t3 u<|iX u32 z30 Y u u<|c3<|cwn (oSt (n:=0) (k:=11) u u u u z3 tm tm) (s2 u u)<|.nil)<|pBlkN<|pJ1 _ (so h) (sb u) u
           ·exact we s u<|bx h fun qu Z h=>rx (c4<|lB 0 2 u u u t3 u<|iX u32 z30 Z u u<|c3<|cwn (oSt (n:=0) (k:=12) u u u u z3 tm tm) (s2 u u)<|.nil)<|pBlkN<|pJ1 _ (so h) (sb u) u
        ·refine wc o u<|wB h (fun K=>[(3,.d (sP (kR av) a1)),(4,.p 4 0),(5,.p 5 0),(7,.p 7 0),(75,.d (ki.sig b.Op)),(119,.d (kB.sig K))]) (fun K=>[.box 7 158 [.d kB true,.d kB a.A.Ret,.d ki a.A.V,.d ki a.A.L,.d kB a.B.Ret,.d ki a.B.V,.d ki a.B.L,.d kB a.R.Ret,.d ki a.R.V,.d ki a.R.L,.d ki a.One,.d ki a.Two,.d ki a.Three,.d ki a.Below],.box 5 73 (L73 b),.box 4 158 [.d kB false,.d kB false,.d ki 0,.d ki 0,.d kB false,.d ki 0,.d ki 0,.d kB false,.d ki 0,.d ki 0,.d ki 0,.d ki 0,.d ki 0,.d ki 0]]) (fun T h=>?_) fun K h=>?_
         ·refine sx (c2<|.nil)<|jx h (fun t h=>?_) fun t h=>?_
          ·exact wd t u<|wSkip<|pJ1 _ (so h) (sb u) u
          ·exact we t u<|ej (c2<|.nil) (so h) (sb u) u
         ·refine jx h (fun v h=>?_) fun v h=>?_
          ·refine wb v u<|wSeq<|wB h (fun M=>[(3,.d (sP (kR av) a1)),(4,.p 4 0),(5,.p 5 0),(7,.p 7 0),(131,.d (kB.sig M))]) (fun M=>[.box 7 158 [.d kB true,.d kB a.A.Ret,.d ki a.A.V,.d ki a.A.L,.d kB a.B.Ret,.d ki a.B.V,.d ki a.B.L,.d kB a.R.Ret,.d ki a.R.V,.d ki a.R.L,.d ki a.One,.d ki a.Two,.d ki a.Three,.d ki a.Below],.box 5 73 (L73 b),.box 4 158 [.d kB false,.d kB false,.d ki 0,.d ki 0,.d kB false,.d ki 0,.d ki 0,.d kB false,.d ki 0,.d ki 0,.d ki 0,.d ki 0,.d ki 0,.d ki 0]]) (fun T h=>?_) fun M h=>?_
           ·refine jx h (fun Q h=>?_) fun Q h=>?_
            ·exact ej (c2<|lB 0 2 u u u t3 u<|c6<|c1<|.nil) (so h) (sb u) u
            ·exact ej (c2<|lB 0 2 u u u t3 u<|c4<|crgB (dF Q.1) u u (oLdB (n:=0) (k:=2) u u u t3 tm) (s1 u)<|c2<|.nil) (so h) (sb u) u
           ·refine jx h (fun w h=>?_) fun w h=>?_
            ·refine wb w u<|sx (cp (oBuild (fs:=bl) (u:=⟨false,(⟨false,0,0⟩:aF),(⟨false,0,0⟩:aF),(⟨false,0,0⟩:aF),0,0,0,0⟩) u ze158 pl158 po158 (gB zB (gS dV (gS dV (gS dV (gI zI_i64 (gI zI_i64 (gI zI_i64 (gI zI_i64 .nil))))))))) tv<|cwn (oStP (n:=2) (k:=0) (m:=14) (d:=(kR bl)) (u:=(⟨false,(⟨false,0,0⟩:aF),(⟨false,0,0⟩:aF),(⟨false,0,0⟩:aF),0,0,0,0⟩:aM)) pt158 u u u z158 tm tm) (s2 u u)<|.nil)<|wRet<|pThenR<|pBlkR<|pThenR ?_
             obtain rfl:=so h
             replace h:=D
             refine pThenR ?_
             obtain rfl:=so h
             replace h:=e
             obtain rfl:=so h
             exact pR1 (.inl u) u (.boxP (n:=2) (d:=(kR bl)) (u:=(⟨false,⟨false,0,0⟩,⟨false,0,0⟩,⟨false,0,0⟩,0,0,0,0⟩:aM)) u u pt158 u t158<|.nil)
            ·refine wc w u<|wSkip<|pSeq<|sx (c1<|.nil) ?_
             obtain⟨T,h,qf⟩:=bd h
             refine wK0 (.inr ()=T) ([(4,.p 4 0),(7,.p 7 0)]) ([.box 7 158 [.d kB true,.d kB a.A.Ret,.d ki a.A.V,.d ki a.A.L,.d kB a.B.Ret,.d ki a.B.V,.d ki a.B.L,.d kB a.R.Ret,.d ki a.R.V,.d ki a.R.L,.d ki a.One,.d ki a.Two,.d ki a.Three,.d ki a.Below],.box 5 73 (L73 b),.box 4 158 [.d kB false,.d kB false,.d ki 0,.d ki 0,.d kB false,.d ki 0,.d ki 0,.d kB false,.d ki 0,.d ki 0,.d ki 0,.d ki 0,.d ki 0,.d ki 0]]) ?_ ?_
             ·refine wBlock (wLoop ?_)
              refine lW (pc1 T (fun O=>[(3,.d (sP (kR av) a1)),(4,.p 4 0),(5,.p 5 0),(7,.p 7 0),(9,.d (ki.sig O))]) (fun O=>[.box 7 158 [.d kB true,.d kB a.A.Ret,.d ki a.A.V,.d ki a.A.L,.d kB a.B.Ret,.d ki a.B.V,.d ki a.B.L,.d kB a.R.Ret,.d ki a.R.V,.d ki a.R.L,.d ki a.One,.d ki a.Two,.d ki a.Three,.d ki a.Below],.box 5 73 (L73 b),.box 4 158 [.d kB false,.d kB false,.d ki 0,.d ki 0,.d kB false,.d ki 0,.d ki 0,.d kB false,.d ki 0,.d ki 0,.d ki 0,.d ki 0,.d ki 0,.d ki 0]]) (bH.l4.partial_correctness a1 b) ?_ _ h) ⟨u,u,u,u,u,tv⟩ u
              clear h
              intro f' ih O h
              refine wSeq<|sx (c2<|lB 1 1 u u u t3 u<|c1<|.nil)<|jx h (fun x h=>?_) fun x h=>?_
              ·refine wd x u<|wSkip<|pSeq<|wSeq<|wBlock<|wSeq<|bx h fun qv qc h=>rx (c3<|cC (fa.ok qc)<|c1<|.nil)<|pSeq<|jx h (fun y h=>?_) fun y h=>?_
               ·refine wb y u<|sx (cp (oBuild (fs:=bl) (u:=⟨false,(⟨false,0,0⟩:aF),(⟨false,0,0⟩:aF),(⟨false,0,0⟩:aF),0,0,0,0⟩) u ze158 pl158 po158 (gB zB (gS dV (gS dV (gS dV (gI zI_i64 (gI zI_i64 (gI zI_i64 (gI zI_i64 .nil))))))))) tv<|cwn (oStP (n:=2) (k:=0) (m:=14) (d:=(kR bl)) (u:=(⟨false,(⟨false,0,0⟩:aF),(⟨false,0,0⟩:aF),(⟨false,0,0⟩:aF),0,0,0,0⟩:aM)) pt158 u u u z158 tm tm) (s2 u u)<|.nil)<|wRet<|pBlkR<|pThenR<|pThenR<|pBlkR<|pThenR ?_
                obtain rfl:=so h
                replace h:=qf
                refine pBlkR<|pThenR ?_
                obtain rfl:=so h
                replace h:=D
                refine pThenR ?_
                obtain rfl:=so h
                replace h:=e
                obtain rfl:=so h
                exact pR1 (.inl u) u (.boxP (n:=2) (d:=(kR bl)) (u:=(⟨false,⟨false,0,0⟩,⟨false,0,0⟩,⟨false,0,0⟩,0,0,0,0⟩:aM)) u u pt158 u t158<|.nil)
               ·exact wc y u<|wSkip<|pBlkN<|pSeq<|rx (c3<|.nil)<|pLoop (lW (ih _ h) ⟨u,u,u,u,u,tv⟩ u)
              ·exact we x u<|wExit<|pThenX<|pThenX<|pBlkX<|pJ0 (so h) (sb u) u
             ·rintro rfl
              replace h:=qf
              exact pBlkN<|pJ1 _ (so h) (sb u) u
          ·refine wc v u<|sx (c2<|.nil)<|jx h (fun z h=>?_) fun z h=>?_
           ·refine wd z u<|wSeq<|bx h fun qw qd h=>rx (c2<|lB 0 13 u u u t3 u<|cC (di.ok qd)<|c1<|.nil)<|pSeq<|wSeq<|sx (c2<|.nil)<|jx h (fun C h=>?_) fun C h=>?_
            ·refine wd C u<|sx (cp (oBuild (fs:=bl) (u:=⟨false,(⟨false,0,0⟩:aF),(⟨false,0,0⟩:aF),(⟨false,0,0⟩:aF),0,0,0,0⟩) u ze158 pl158 po158 (gB zB (gS dV (gS dV (gS dV (gI zI_i64 (gI zI_i64 (gI zI_i64 (gI zI_i64 .nil))))))))) tv<|cwn (oStP (n:=2) (k:=0) (m:=14) (d:=(kR bl)) (u:=(⟨false,(⟨false,0,0⟩:aF),(⟨false,0,0⟩:aF),(⟨false,0,0⟩:aF),0,0,0,0⟩:aM)) pt158 u u u z158 tm tm) (s2 u u)<|.nil)<|wRet<|pThenR<|pBlkR<|pThenR ?_
             obtain rfl:=so h
             replace h:=D
             refine pThenR ?_
             obtain rfl:=so h
             replace h:=e
             obtain rfl:=so h
             exact pR1 (.inl u) u (.boxP (n:=2) (d:=(kR bl)) (u:=(⟨false,⟨false,0,0⟩,⟨false,0,0⟩,⟨false,0,0⟩,0,0,0,0⟩:aM)) u u pt158 u t158<|.nil)
            ·exact we C u<|wSkip<|pSeq<|wSeq<|bx h fun qm qe h=>rx (c3<|iX u33 z88 qe u u<|c2<|cwn (oStP (n:=0) (k:=7) (m:=3) (d:=(kR aD)) (u:=qm) pt88 u u u z88 tm tm) (s2 u u)<|.nil)<|pSeq<|sx (c2<|lB 0 9 u u u t3 u<|c1<|cwn (oSt (n:=0) (k:=11) u u u u z3 tm tm) (s2 u u)<|.nil)<|rx (c2<|cwn (oSt (n:=0) (k:=13) u u u u z3 tm tm) (s2 u u)<|.nil)<|pBlkN<|pJ1 _ (so h) (sb u) u
           ·exact we z u<|wSkip<|pBlkN<|pJ1 _ (so h) (sb u) u
     ·rintro i rfl
      replace h:=D
      exact pJ1 _ (so h) (sb u) u
    ·rintro c rfl
     replace h:=e
     refine sx (lP 0 0 14 (kR bl) c pt158 u u u t158 u<|cwn (oStP (n:=2) (k:=0) (m:=14) (d:=(kR bl)) (u:=c) pt158 u u u z158 tm tm) (s2 u u)<|.nil)<|wRet ?_
     obtain rfl:=so h
     exact pR1 (.inl u) u (.boxP (n:=2) (d:=(kR bl)) (u:=c) u u pt158 u t158<|.nil)
theorem dA.ok(h:dA.f b=some r):FnA PP 161 [(kR aC).sig b] (ki.sig r):=by
 refine fJ Tryz.func161 u fun H0 w0=>?_
 unfold dA.f at h
 refine sx (c2<|.nil)<|sx (c1<|.nil)<|wSeq<|sx (c4<|.nil)<|kX h (fun c=>[(3,.d (ki.sig c))]) (fun c=>[]) (fun j h=>?_) fun c h=>?_
 ·refine wBlock (wLoop ?_)
  refine lW (pc2 j (fun e g=>[(1,.d (sP (kR aC) b)),(3,.d (ki.sig e)),(7,.d (ki.sig (b.Up.length:Int))),(8,.d (ki.sig g))]) (fun e g=>[]) (dA.l0.partial_correctness b) ?_ _ _ h) ⟨u,u,u,u,tv⟩ u
  clear h
  intro f' ih e g h
  refine sx (c1<|.nil)<|wSeq<|jx h (fun a h=>?_) fun a h=>?_
  ·exact wd a u<|wSkip<|pSeq<|wSeq<|wBlock<|sx (c2<|.nil)<|bx h fun k i h=>rx (c3<|cC (bA.ok i)<|c1<|.nil)<|pBlkN<|pSeq<|rx (c2<|.nil)<|pLoop (lW (ih _ _ h) ⟨u,u,u,u,tv⟩ u)
  ·exact we a u<|wExit<|pThenX<|pThenX<|pBlkX<|pJ1 _ (so h) (sb u) u
 ·refine pSeq<|sx (c2<|.nil)<|wRet ?_
  obtain rfl:=so h
  exact pT u u
theorem bO.okB{rc:az->(List Int)->(List Int)->Int->Option dj}(hrc:∀{m:az} {a1:List Int} {a2:List Int} {a3:Int} {r:dj},rc m a1 a2 a3=some r->FnA PP 132 [(kR aC).sig m,(kL ki).sig a1,(kL ki).sig a2,ki.sig a3] ((kR bI).sig r)){m:az} {a1:List Int} {a2:List Int} {a3:Int} {r:dj}(h:bO.B rc m a1 a2 a3=some r):FnA PP 132 [(kR aC).sig m,(kL ki).sig a1,(kL ki).sig a2,ki.sig a3] ((kR bI).sig r):=by
 refine fJ Tryz.func132 u fun H0 w0=>?_
 unfold bO.B at h
 refine sx (c1<|aL 8 Z161 ze161 zl161<|.nil)<|wSeq<|bx h fun A J h=>rx (c2<|iX u56 z3 J u u<|c2<|.nil)<|pSeq<|wSeq<|sx (c2<|.nil)<|jx h (fun o h=>?_) fun o h=>?_
 ·refine wd o u<|sx (c3<|cp (oBuild (fs:=bI) (u:=⟨decide (A=1),0,a3⟩) u ze161 pl161 po161 (.op (zc:=[(.bool false)]) tm u (gI zI_i64 (qI tm u .nil)))) (s2 u u)<|sA 0 bI u u z161 u u<|.nil)<|wRet<|pThenR ?_
  obtain rfl:=so h
  exact pR1 (.inl u) u (.box (n:=0) (fs:=bI) (u:=⟨decide (A=1),0,a3⟩) u u ⟨u,u,u,tv⟩ t161<|.nil)
 ·refine we o u<|wSkip<|pSeq<|wSeq<|sx (c2<|.nil)<|jx h (fun q h=>?_) fun q h=>?_
  ·refine wd q u<|wSeq<|bx h fun K L h=>rx (c1<|cC (bU.ok L)<|c1<|cp (oBuild (fs:=bI) (u:=⟨false,K,a3⟩) u ze161 pl161 po161 (gB zB (qI tm u (qI tm u .nil)))) (s2 u u)<|sA 0 bI u u z161 u u<|.nil)<|pSeq<|wRet<|pThenR ?_
   obtain rfl:=so h
   exact pR1 (.inl u) u (.box (n:=0) (fs:=bI) (u:=⟨false,K,a3⟩) u u ⟨u,u,u,tv⟩ t161<|.nil)
  ·refine we q u<|wSkip<|pSeq<|wSeq<|sx (c2<|.nil)<|jx h (fun s h=>?_) fun s h=>?_
   ·refine wd s u<|wSeq<|bx h fun M N h=>rx (c1<|cC (dA.ok N)<|c1<|cp (oBuild (fs:=bI) (u:=⟨false,M,a3⟩) u ze161 pl161 po161 (gB zB (qI tm u (qI tm u .nil)))) (s2 u u)<|sA 0 bI u u z161 u u<|.nil)<|pSeq<|wRet<|pThenR ?_
    obtain rfl:=so h
    exact pR1 (.inl u) u (.box (n:=0) (fs:=bI) (u:=⟨false,M,a3⟩) u u ⟨u,u,u,tv⟩ t161<|.nil)
   ·refine we s u<|wSkip<|pSeq<|wSeq<|wB h (fun C=>[(1,.d ((kL ki).sig a1)),(2,.d ((kL ki).sig a2)),(3,.d (ki.sig a3)),(4,.d (sP (kR aC) m)),(8,.p 8 0),(9,.d (ki.sig A)),(40,.d (kB.sig C))]) (fun C=>[.box 8 161 [.d kB false,.d ki 0,.d ki 0]]) (fun O h=>?_) fun C h=>?_
    ·refine jx h (fun P h=>?_) fun P h=>?_
     ·exact ej (c6<|.nil) (so h) (sb u) u
     ·exact ej (c6<|.nil) (so h) (sb u) u
    ·refine jx h (fun e h=>?_) fun e h=>?_
     ·refine wb e u<|wSeq<|bx h fun z D h=>rx (c3<|iX u56 z3 D u u<|c2<|cp (oBuild (fs:=bI) (u:=⟨false,z,a3⟩) u ze161 pl161 po161 (gB zB (qI tm u (qI tm u .nil)))) (s2 u u)<|sA 0 bI u u z161 u u<|.nil)<|pSeq<|wRet<|pThenR ?_
      obtain rfl:=so h
      exact pR1 (.inl u) u (.box (n:=0) (fs:=bI) (u:=⟨false,z,a3⟩) u u ⟨u,u,u,tv⟩ t161<|.nil)
     ·refine wc e u<|wSkip<|pSeq<|wSeq<|bx h fun t E h=>rx (c4<|c1<|cC (hrc E)<|aL 10 Z161 ze161 zl161<|sA 0 bI u u z161 u u<|.nil)<|pSeq<|wSeq<|bx h fun a F h=>rx (c4<|lB 0 2 u u u t3 u<|c1<|cC (hrc F)<|aL 11 Z161 ze161 zl161<|sA 0 bI u u z161 u u<|.nil)<|pSeq<|sx (c1<|lB 0 2 u u u t3 u<|cp (oBuild (fs:=bI) (u:=⟨false,0,a.From⟩) u ze161 pl161 po161 (gB zB (gI zI_i64 (qI tm u .nil)))) (s1 u)<|aL 12 Z161 ze161 zl161<|sA 0 bI u u z161 u u<|.nil)<|wSeq<|sx (c1<|.nil) ?_
      obtain⟨O,h,Q⟩:=bd h
      refine wK2 (fun b c=>(b,c)=O) (fun b c=>[(8,.p 8 0),(12,.p 12 0)]) (fun b c=>[.box 12 161 [.d kB b,.d ki c,.d ki a.From],.box 11 161 (L161 a),.box 10 161 (L161 t),.box 8 161 [.d kB false,.d ki 0,.d ki 0]]) ?_ ?_
      ·refine wBlock<|sx (c2<|.nil)<|jx h (fun f h=>?_) fun f h=>?_
       ·refine wd f u<|kX h (fun v=>[(8,.p 8 0),(12,.p 12 0)]) (fun v=>[.box 12 161 [.d kB v,.d ki 0,.d ki a.From],.box 11 161 (L161 a),.box 10 161 (L161 t),.box 8 161 [.d kB false,.d ki 0,.d ki 0]]) (fun R h=>?_) fun v h=>?_
        ·refine jx h (fun w h=>?_) fun w h=>?_
         ·exact ej (c1<|lB 1 0 u u u t4 u<|c2<|crgB w.1 u u (oLdB (n:=2) (k:=0) u u u t4 tm) (s1 u)<|c2<|cwn (oSt (n:=0) (k:=0) u u u u z4 tm tm) (s2 u u)<|.nil) (so h) (sb u) u
         ·exact ej (c1<|lB 1 0 u u u t4 u<|c4<|c1<|cwn (oSt (n:=0) (k:=0) u u u u z4 tm tm) (s2 u u)<|.nil) (so h) (sb u) u
        ·exact pBlkN<|pJ2 _ _ (so h) (sb u) u
       ·refine we f u<|sx (c2<|.nil)<|jx h (fun g h=>?_) fun g h=>?_
        ·refine wd g u<|kX h (fun x=>[(8,.p 8 0),(12,.p 12 0)]) (fun x=>[.box 12 161 [.d kB x,.d ki 0,.d ki a.From],.box 11 161 (L161 a),.box 10 161 (L161 t),.box 8 161 [.d kB false,.d ki 0,.d ki 0]]) (fun R h=>?_) fun x h=>?_
         ·refine jx h (fun y h=>?_) fun y h=>?_
          ·exact ej (c1<|lB 1 0 u u u t4 u<|c4<|c1<|cwn (oSt (n:=0) (k:=0) u u u u z4 tm tm) (s2 u u)<|.nil) (so h) (sb u) u
          ·exact ej (c1<|lB 1 0 u u u t4 u<|c2<|crgB (nb y.1) u u (oLdB (n:=2) (k:=0) u u u t4 tm) (s1 u)<|c2<|cwn (oSt (n:=0) (k:=0) u u u u z4 tm tm) (s2 u u)<|.nil) (so h) (sb u) u
         ·exact pBlkN<|pJ2 _ _ (so h) (sb u) u
        ·refine we g u<|sx (c2<|.nil)<|jx h (fun i h=>?_) fun i h=>?_
         ·exact wd i u<|bx h fun S G h=>rx (c2<|lB 1 1 u u u t3 u<|c1<|lB 2 1 u u u t3 u<|cC (aP.ok G)<|c1<|cwn (oSt (n:=0) (k:=0) u u u u z4 tm tm) (s2 u u)<|.nil)<|pBlkN<|pJ2 _ _ (so h) (sb u) u
         ·refine we i u<|sx (c2<|.nil)<|jx h (fun j h=>?_) fun j h=>?_
          ·exact wd j u<|bx h fun T H h=>rx (c2<|lB 1 1 u u u t3 u<|c1<|lB 2 1 u u u t3 u<|cC (bA.ok H)<|c1<|cwn (oSt (n:=0) (k:=1) u u u u z3 tm tm) (s2 u u)<|.nil)<|pBlkN<|pJ2 _ _ (so h) (sb u) u
          ·refine we j u<|sx (c2<|.nil)<|jx h (fun l h=>?_) fun l h=>?_
           ·exact wd l u<|bx h fun U I h=>rx (c2<|lB 1 1 u u u t3 u<|c1<|lB 2 1 u u u t3 u<|cC (bC.ok I)<|c1<|cwn (oSt (n:=0) (k:=1) u u u u z3 tm tm) (s2 u u)<|.nil)<|pBlkN<|pJ2 _ _ (so h) (sb u) u
           ·exact we l u<|wSkip<|pBlkN<|pJ2 _ _ (so h) (sb u) u
      ·rintro b c rfl
       replace h:=Q
       refine pSeq<|sx (lA 0 bI ⟨b,c,a.From⟩ u ⟨u,u,u,tv⟩ t161 u<|sA 3 bI u u z161 u u<|.nil)<|wRet ?_
       obtain rfl:=so h
       exact pR1 (.inl u) u (.box (n:=3) (fs:=bI) (u:=⟨b,c,a.From⟩) u u ⟨u,u,u,tv⟩ t161<|.nil)
theorem bO.okF:∀(k:Nat) {a:az} {a1:List Int} {a2:List Int} {a3:Int} {r:dj},bO.F k a a1 a2 a3=some r->FnA PP 132 [(kR aC).sig a,(kL ki).sig a1,(kL ki).sig a2,ki.sig a3] ((kR bI).sig r)
 |0,_,_,_,_,_,h=>by cases h
 |k+1,_,_,_,_,_,h=>bO.okB (fun h=>bO.okF k h) h
theorem bO.ok(h:bO.f a a1 a2 a3=some r):FnA PP 132 [(kR aC).sig a,(kL ki).sig a1,(kL ki).sig a2,ki.sig a3] ((kR bI).sig r):=bO.okF 1000 h
theorem cu.ok(h:cu.f c a1 a2=some r):FnA PP 103 [(kR aC).sig c,(kL ki).sig a1,(kL ki).sig a2] ((kR bI).sig r):=by
 refine fJ Tryz.func103 u fun H0 w0=>?_
 unfold cu.f at h
 refine sx (c1<|aL 6 Z161 ze161 zl161<|.nil)<|wSeq<|bx h fun a b h=>rx (c6<|cC (bO.ok b)<|sA 0 bI u u z161 u u<|.nil)<|pSeq<|wRet ?_
 obtain rfl:=so h
 exact pR1 (.inl u) u (.box (n:=0) (fs:=bI) (u:=⟨a.Is,a.A,a.From⟩) u u ⟨u,u,u,tv⟩ t161<|.nil)
theorem dl.ok(h:dl.f a a1 a2=some r):FnA PP 104 [(kR av).sig a,(kR bl).sig a1,ki.sig a2] ((kL (kR aB)).sig r):=by
 refine fJ Tryz.func104 u fun H0 w0=>?_
 unfold dl.f at h
 refine sx (c2<|cp (oAs cV) tv<|.nil)<|sx (cw (oLitR (id:=10) (d:=(kR aB)) el32 (by decide) u u u e0) tv<|c1<|.nil)<|wSeq<|sx (c4<|.nil)<|wWeak (Γ':=[(2,.d (ki.sig a2)),(3,.d (sP (kR av) a)),(4,.d (sP (kR bl) a1)),(7,.v 10),(12,.d ((kL (kR aB)).sig a.Mem)),(13,.d (ki.sig (a.Mem.length:Int))),(14,.d (ki.sig 0))]) (sb u)<|wRen 10 1007 u<|kX h (fun j=>[(7,.v 1007)]) (fun j=>[.row 1007 30 (kR aB) j]) (fun w h=>?_) fun j h=>?_
 ·refine wBlock (wLoop ?_)
  refine lW (pc2 w (fun g b=>[(2,.d (ki.sig a2)),(3,.d (sP (kR av) a)),(4,.d (sP (kR bl) a1)),(7,.v 1007),(12,.d ((kL (kR aB)).sig a.Mem)),(13,.d (ki.sig (a.Mem.length:Int))),(14,.d (ki.sig b))]) (fun g b=>[.row 1007 30 (kR aB) g]) (dl.l0.partial_correctness a a1 a2) ?_ _ _ h) ⟨u,u,u,u,u,u,u,tv⟩ u
  clear h
  intro f' ih g b h
  refine sx (c1<|.nil)<|wSeq<|jx h (fun c h=>?_) fun c h=>?_
  ·refine wd c u<|wSkip<|pSeq<|wB h (fun k=>[(2,.d (ki.sig a2)),(3,.d (sP (kR av) a)),(4,.d (sP (kR bl) a1)),(7,.v 1007),(12,.d ((kL (kR aB)).sig a.Mem)),(13,.d (ki.sig (a.Mem.length:Int))),(14,.d (ki.sig b))]) (fun k=>[.row 1007 30 (kR aB) k]) (fun y h=>?_) fun k h=>?_
   ·refine wBlock<|wSeq<|bx h fun i o h=>rx (c1<|iX u32 z30 o u u<|c1<|aL 9 Z30 ze30 zl30<|c1<|sA 0 aB u u z30 u u<|.nil)<|pSeq<|wSeq<|wB h (fun l=>[(2,.d (ki.sig a2)),(3,.d (sP (kR av) a)),(4,.d (sP (kR bl) a1)),(7,.v 1007),(9,.p 9 0),(12,.d ((kL (kR aB)).sig a.Mem)),(13,.d (ki.sig (a.Mem.length:Int))),(14,.d (ki.sig b)),(34,.d (kB.sig l))]) (fun l=>[.box 9 30 [.d ki i.V,.d ki i.L],.row 1007 30 (kR aB) g]) (fun z h=>?_) fun l h=>?_
    ·refine bx h fun x m h=>jx h (fun q h=>?_) fun q h=>?_
     ·exact ej (c4<|c1<|iX u31 z73 m u u<|c8<|c2<|.nil) (so h) (sb u) u
     ·exact ej (c4<|c1<|iX u31 z73 m u u<|c8<|c2<|.nil) (so h) (sb u) u
    ·refine jx h (fun e h=>?_) fun e h=>?_
     ·exact wb e u<|rx (c4<|cp (oBuild (fs:=aB) (u:=⟨a1.B.V,a2⟩) u ze30 pl30 po30 (qI tm u (qI tm u .nil))) (s2 u u)<|sA 0 aB u u z30 u u<|.nil)<|pSeq<|ix h fun s h=>rx (c1<|lA 0 aB ⟨a1.B.V,a2⟩ u ⟨u,u,tv⟩ t30 u<|cp (oLit (d:=(kR aB)) el32 (by decide) u u u (e1 tm e0)) (s1 u)<|cw (oApp (n:=1) (id':=43) el32 (by decide) u (by decide) s tm tm) (s2 u u)<|c1<|.nil)<|pBlkN<|pDrop (.cons _ (.cons_cons _ .slnil))<|pSub (Γ':=[(2,.d (ki.sig a2)),(3,.d (sP (kR av) a)),(4,.d (sP (kR bl) a1)),(7,.v 43),(12,.d ((kL (kR aB)).sig a.Mem)),(13,.d (ki.sig (a.Mem.length:Int))),(14,.d (ki.sig b))]) (sb u)<|pRen 43 1007 u<|pJ1 _ (so h) (sb u) u
     ·exact wc e u<|wSkip<|pSeq<|ix h fun t h=>rx (c1<|lA 0 aB ⟨i.V,i.L⟩ u ⟨u,u,tv⟩ t30 u<|cp (oLit (d:=(kR aB)) el32 (by decide) u u u (e1 tm e0)) (s1 u)<|cw (oApp (n:=1) (id':=43) el32 (by decide) u (by decide) t tm tm) (s2 u u)<|c1<|.nil)<|pBlkN<|pDrop (.cons _ (.cons_cons _ .slnil))<|pSub (Γ':=[(2,.d (ki.sig a2)),(3,.d (sP (kR av) a)),(4,.d (sP (kR bl) a1)),(7,.v 43),(12,.d ((kL (kR aB)).sig a.Mem)),(13,.d (ki.sig (a.Mem.length:Int))),(14,.d (ki.sig b))]) (sb u)<|pRen 43 1007 u<|pJ1 _ (so h) (sb u) u
   ·exact rx (c2<|.nil)<|pLoop (lW (ih _ _ h) ⟨u,u,u,u,u,u,u,tv⟩ u)
  ·exact we c u<|wExit<|pThenX<|pThenX<|pBlkX<|pJ1 _ (so h) (sb u) u
 ·refine pSeq<|sx (c2<|.nil)<|wFrzR (n:=0) (id:=1007) [6] u u ⟨u,tv⟩<|wRet ?_
  obtain rfl:=so h
  exact pT u u
theorem dd.ok(h:dd.f c a1=some r):FnA PP 133 [(kL (kR aD)).sig c,(kR aD).sig a1] ((kL (kR aD)).sig r):=by
 refine fJ Tryz.func133 u fun H0 w0=>?_
 unfold dd.f at h
 refine sx (c1<|cp (oAs cV) tv<|.nil)<|sx (cw (oLitR (id:=6) (d:=(kR aD)) el33 (by decide) u u u e0) tv<|c1<|.nil)<|wSeq<|ix h fun a h=>rx (c2<|cw (oApp (n:=0) (id':=9) el33 (by decide) u (by decide) a tm tm) (s2 u u)<|c1<|.nil)<|pSeq<|wSeq<|ix h fun b h=>rx (c2<|cp (oLit (d:=(kR aD)) el33 (by decide) u u u (e1 tm e0)) (s1 u)<|cw (oApp (n:=0) (id':=13) el33 (by decide) u (by decide) b tm tm) (s2 u u)<|c1<|.nil)<|pSeq<|sx (c2<|.nil)<|wFrzR (n:=0) (id:=13) [4] u u ⟨u,tv⟩<|wRet ?_
 obtain rfl:=so h
 exact pT u u
theorem fd.ok(h:fd.f c a1=some r):FnS PP 133 [.d ((kL (kR aD)).sig c),.d ((kR aD).sig a1)] [] [] (.v 80000) [.row 80000 88 (kR aD) r]:=by
 refine fnIntroS Tryz.func133 u (by kernel_rfl) fun X H0 w0 pv=>?_
 unfold fd.f at h
 refine sx (c1<|cp (oAs cV) tv<|.nil)<|sx (cw (oLitR (id:=6) (d:=(kR aD)) el33 (by decide) u u u e0) tv<|c1<|.nil)<|wSeq<|ix h fun a h=>rx (c2<|cw (oApp (n:=0) (id':=9) el33 (by decide) u (by decide) a tm tm) (s2 u u)<|c1<|.nil)<|pSeq<|wSeq<|ix h fun b h=>rx (c2<|cp (oLit (d:=(kR aD)) el33 (by decide) u u u (e1 tm e0)) (s1 u)<|cw (oApp (n:=0) (id':=13) el33 (by decide) u (by decide) b tm tm) (s2 u u)<|c1<|.nil)<|pSeq<|sx (c2<|.nil)<|wRet ?_
 obtain rfl:=so h
 exact pSub (Γ':=[(4,.v 13)]) (sb u)<|pRen 13 80000 u<|pSv [0] u u (.inl u) u u
theorem eU.ok(h:eU.f o a1 a2=some r):FnA PP 105 [(kR av).sig o,(kR bl).sig a1,ki.sig a2] ((kL (kR aD)).sig r):=by
 refine fJ Tryz.func105 u fun H0 w0=>?_
 unfold eU.f at h
 refine sx (c2<|cp (oAs cV) tv<|.nil)<|wSeq<|bx h fun p E h=>rx (c4<|c1<|iX u31 z73 E u u<|c1<|aL 7 Z73 ze73 zl73<|sA 0 aH u u z73 u u<|.nil)<|pSeq<|wSeq<|ix h fun q h=>rx (c4<|cp (oCutHi u33 z88 q.1 q.2 tm tm) (s2 u u)<|c1<|.nil)<|pSeq<|wSeq<|sx (c1<|lB 0 0 u u u t3 u<|.nil) ?_
 obtain⟨H,h,a⟩:=bd h
 refine wK0 (.inr ()=H) ([(8,.d ((kL (kR aD)).sig (lCut o.Stack 0 a1.Below)))]) ([.box 7 73 (L73 p)]) ?_ ?_
 ·refine wBlock<|sx (c2<|.nil)<|jx h (fun b h=>?_) fun b h=>?_
  ·refine wd b u<|wSeq<|bx h fun I s h=>rx (c2<|lB 0 1 u u u t3 u<|c1<|cp (oBuild (fs:=aD) (u:=⟨false,p.N,a2⟩) u ze88 pl88 po88 (gB zB (qI tm u (qI tm u .nil)))) (s2 u u)<|cC (dd.ok s)<|c1<|.nil)<|pSeq<|wRet<|pBlkR<|pThenR ?_
   obtain rfl:=so h
   replace h:=a
   refine pThenR ?_
   obtain rfl:=so h
   exact pT u u
  ·refine we b u<|sx (c2<|.nil)<|jx h (fun c h=>?_) fun c h=>?_
   ·refine wd c u<|wSeq<|bx h fun J t h=>rx (c8<|c1<|cp (oBuild (fs:=aD) (u:=⟨false,IntKind.i64.wrap (a1.B.V+a1.A.V),a2⟩) u ze88 pl88 po88 (gB zB (qI tm u (qI tm u .nil)))) (s2 u u)<|cC (dd.ok t)<|c1<|.nil)<|pSeq<|wRet<|pBlkR<|pThenR ?_
    obtain rfl:=so h
    replace h:=a
    refine pThenR ?_
    obtain rfl:=so h
    exact pT u u
   ·refine we c u<|sx (c2<|.nil)<|jx h (fun e h=>?_) fun e h=>?_
    ·refine wd e u<|wSeq<|bx h fun K w h=>rx (c8<|c1<|cp (oBuild (fs:=aD) (u:=⟨false,IntKind.i64.wrap (a1.B.V-a1.A.V),a2⟩) u ze88 pl88 po88 (gB zB (qI tm u (qI tm u .nil)))) (s2 u u)<|cC (dd.ok w)<|c1<|.nil)<|pSeq<|wRet<|pBlkR<|pThenR ?_
     obtain rfl:=so h
     replace h:=a
     refine pThenR ?_
     obtain rfl:=so h
     exact pT u u
    ·refine we e u<|sx (c2<|.nil)<|jx h (fun g h=>?_) fun g h=>?_
     ·refine wd g u<|wSeq<|bx h fun F x h=>bx h fun M y h=>rx (c6<|iX u32 z30 x u u<|c3<|cp (oBuild (fs:=aD) (u:=⟨false,F.V,a2⟩) u ze88 pl88 po88 (gB zB (qI tm u (qI tm u .nil)))) (s2 u u)<|cC (dd.ok y)<|c1<|.nil)<|pSeq<|wRet<|pBlkR<|pThenR ?_
      obtain rfl:=so h
      replace h:=a
      refine pThenR ?_
      obtain rfl:=so h
      exact pT u u
     ·refine we g u<|sx (c2<|.nil)<|jx h (fun i h=>?_) fun i h=>?_
      ·refine wd i u<|wSeq<|ix h fun l h=>bx h fun G z h=>rdx hm (c4<|lB 0 1 u u u t3 u<|c1<|cp (oCutHi u33 z88 l.1 l.2 tm tm) (s2 u u)<|c6<|c1<|cp (oBuild (fs:=aD) (u:=⟨true,IntKind.i64.wrap (o.Pc.V+1),o.Pc.L⟩) u ze88 pl88 po88 (.op (zc:=[(.bool false)]) cB u (qI tm u (qI tm u .nil)))) (s2 u u)<|cm (oCallS (rest:=[.box 7 73 (L73 p)]) (R':=[.row 430600 88 (kR aD) G,.box 7 73 (L73 p)]) (out':=.v 430600) [] [(80000,430600)] [] [0] [0,1] u (fd.ok z) b133 (oE1 tm (oE1 tm oE0)) u u u u u u u u) (s2 u u)<|c1<|.nil)<|pSeq<|wSeq<|ix h fun m h=>ix h fun C h=>rx (c4<|c1<|lB 1 1 u u u t3 u<|c1<|cp (oCutLo u33 z88 m.1 m.2 tm tm) (s2 u u)<|cw (oApp (n:=0) (id':=98) el33 (by decide) u (by decide) C tm tm) (s2 u u)<|c1<|.nil)<|pSeq<|sx (c2<|.nil)<|wFrzR (n:=0) (id:=98) [6] u u ⟨u,tv⟩<|wRet<|pBlkR<|pThenR ?_
       obtain rfl:=so h
       replace h:=a
       refine pThenR ?_
       obtain rfl:=so h
       exact pT u u
      ·refine we i u<|sx (c2<|.nil)<|jx h (fun j h=>?_) fun j h=>?_
       ·refine wd j u<|sx (c1<|lB 0 1 u u u t3 u<|c1<|.nil)<|jx h (fun k h=>?_) fun k h=>?_
        ·refine wd k u<|wSeq<|bx h fun O D h=>rx (c4<|c1<|cp (oBuild (fs:=aD) (u:=⟨false,a1.A.V,a2⟩) u ze88 pl88 po88 (gB zB (qI tm u (qI tm u .nil)))) (s2 u u)<|cC (dd.ok D)<|c1<|.nil)<|pSeq<|wRet<|pBlkR<|pThenR ?_
         obtain rfl:=so h
         replace h:=a
         refine pThenR ?_
         obtain rfl:=so h
         exact pT u u
        ·exact we k u<|wSkip<|pBlkN<|pJ0 (so h) (sb u) u
       ·exact we j u<|wSkip<|pBlkN<|pJ0 (so h) (sb u) u
 ·rintro rfl
  replace h:=a
  refine pSeq<|sx (c2<|.nil)<|wRet ?_
  obtain rfl:=so h
  exact pT u u
theorem fq.ok(h:fq.f g a1=some r):FnA PP 106 [(kR av).sig g,(kR bl).sig a1] (ki.sig r):=by
 refine fJ Tryz.func106 u fun H0 w0=>?_
 unfold fq.f at h
 refine sx (c3<|.nil)<|wSeq<|bx h fun l m h=>rx (c4<|c1<|iX u31 z73 m u u<|c1<|aL 5 Z73 ze73 zl73<|sA 0 aH u u z73 u u<|.nil)<|pSeq<|wSeq<|wB h (fun i=>[(2,.d (sP (kR av) g)),(3,.d (sP (kR bl) a1)),(5,.p 5 0),(20,.d (kB.sig i))]) (fun i=>[.box 5 73 (L73 l)]) (fun q h=>?_) fun i h=>?_
 ·refine jx h (fun e h=>?_) fun e h=>?_
  ·exact ej (c1<|lB 0 0 u u u t3 u<|c6<|.nil) (so h) (sb u) u
  ·exact ej (c1<|lB 0 0 u u u t3 u<|c3<|crgB (dF e.1) u u (oLdB (n:=0) (k:=0) u u u t3 tm) (s1 u)<|c2<|.nil) (so h) (sb u) u
 ·refine jx h (fun b h=>?_) fun b h=>?_
  ·refine wb b u<|sx (c4<|.nil)<|wRet<|pThenR ?_
   obtain rfl:=so h
   exact pT u u
  ·refine wc b u<|wSkip<|pSeq<|wSeq<|sx (c1<|lB 0 0 u u u t3 u<|c1<|.nil)<|jx h (fun c h=>?_) fun c h=>?_
   ·refine wd c u<|sx (c4<|.nil)<|wRet<|pThenR ?_
    obtain rfl:=so h
    exact pT u u
   ·refine we c u<|wSkip<|pSeq<|wSeq<|wB h (fun j=>[(2,.d (sP (kR av) g)),(5,.p 5 0),(38,.d (kB.sig j))]) (fun j=>[.box 5 73 (L73 l)]) (fun q h=>?_) fun j h=>?_
    ·refine jx h (fun o h=>?_) fun o h=>?_
     ·exact ej (c1<|lB 0 0 u u u t3 u<|c6<|c1<|.nil) (so h) (sb u) u
     ·exact ej (c1<|lB 0 0 u u u t3 u<|c6<|c1<|.nil) (so h) (sb u) u
    ·refine jx h (fun a h=>?_) fun a h=>?_
     ·refine wb a u<|sx (c1<|lB 0 1 u u u t3 u<|c1<|.nil)<|wRet<|pThenR ?_
      obtain rfl:=so h
      exact pT u u
     ·refine wc a u<|wSkip<|pSeq<|sx (c4<|c1<|.nil)<|wRet ?_
      obtain rfl:=so h
      exact pT u u
theorem dD.ok(h:dD.f J a1 a2=some r):FnA PP 63 [(kR aC).sig J,(kR bn).sig a1,(kR av).sig a2] ((kR bG).sig r):=by
 refine fJ Tryz.func63 u fun H0 w0=>?_
 unfold dD.f at h
 refine sx (c3<|aL 6 Z127 ze127 zl127<|.nil)<|wSeq<|sx (c6<|c1<|.nil)<|jx h (fun p h=>?_) fun p h=>?_
 ·refine wd p u<|sx (c1<|cp (oBuild (fs:=bG) (u:=⟨a2,3⟩) u ze127 pl127 po127 (qT tm u (qI (cI (by decide)) u .nil))) (s1 u)<|cwn (oStP (n:=0) (k:=0) (m:=7) (d:=(kR bG)) (u:=(⟨a2,3⟩:bB)) pt127 u u u z127 tm tm) (s2 u u)<|.nil)<|wRet<|pThenR ?_
  obtain rfl:=so h
  exact pR1 (.inl u) u (.boxP (n:=0) (d:=(kR bG)) (u:=(⟨a2,3⟩:bB)) u u pt127 u t127<|.nil)
 ·refine we p u<|wSkip<|pSeq<|wSeq<|bx h fun g E h=>rx (c2<|cC (bH.ok E)<|aL 7 Z158 ze158 zl158<|cwn (oStP (n:=0) (k:=0) (m:=14) (d:=(kR bl)) (u:=g) pt158 u u u z158 tm tm) (s2 u u)<|.nil)<|pSeq<|wSeq<|bx h fun M F h=>rx (c4<|c1<|iX u31 z73 F u u<|c1<|aL 8 Z73 ze73 zl73<|sA 0 aH u u z73 u u<|.nil)<|pSeq<|wSeq<|sx (c1<|lB 1 0 u u u t4 u<|c1<|.nil)<|jx h (fun q h=>?_) fun q h=>?_
  ·refine wb q u<|sx (c1<|cp (oBuild (fs:=bG) (u:=⟨a2,3⟩) u ze127 pl127 po127 (qT tm u (qI (cI (by decide)) u .nil))) (s1 u)<|cwn (oStP (n:=2) (k:=0) (m:=7) (d:=(kR bG)) (u:=(⟨a2,3⟩:bB)) pt127 u u u z127 tm tm) (s2 u u)<|.nil)<|wRet<|pThenR ?_
   obtain rfl:=so h
   exact pR1 (.inl u) u (.boxP (n:=2) (d:=(kR bG)) (u:=(⟨a2,3⟩:bB)) u u pt127 u t127<|.nil)
  ·refine wc q u<|wSkip<|pSeq<|wSeq<|sx (c1<|lB 0 0 u u u t3 u<|c1<|.nil)<|jx h (fun s h=>?_) fun s h=>?_
   ·refine wd s u<|sx (c1<|cp (oBuild (fs:=bG) (u:=⟨a2,1⟩) u ze127 pl127 po127 (qT tm u (qI (cI (by decide)) u .nil))) (s1 u)<|cwn (oStP (n:=2) (k:=0) (m:=7) (d:=(kR bG)) (u:=(⟨a2,1⟩:bB)) pt127 u u u z127 tm tm) (s2 u u)<|.nil)<|wRet<|pThenR ?_
    obtain rfl:=so h
    exact pR1 (.inl u) u (.boxP (n:=2) (d:=(kR bG)) (u:=(⟨a2,1⟩:bB)) u u pt127 u t127<|.nil)
   ·refine we s u<|wSkip<|pSeq<|sx (c4<|lB 1 10 u u u t3 u<|c1<|lB 1 11 u u u t3 u<|c1<|lB 1 12 u u u t3 u<|cp (oLit (d:=ki) el56 (by decide) u u u (e1 tm (e1 tm (e1 tm (e1 tm e0))))) ⟨u,u,u,u,tv⟩<|c1<|.nil)<|wSeq<|bx h fun N G h=>rx (c3<|lB 0 0 u u u t3 u<|iX u26 z58 G u u<|c1<|aL 10 Z58 ze58 zl58<|sA 0 bj u u z58 u u<|.nil)<|pSeq<|wSeq<|wSeq<|bx h fun O H h=>rx (c2<|lB 0 0 u u u t56 u<|c1<|cC (cu.ok H)<|cp (oField (fs:=bI) (k:=0) u ff161_0 t4 tm) (s1 u)<|c1<|.nil)<|pSeq<|jx h (fun t h=>?_) fun t h=>?_
    ·refine wb t u<|sx (c1<|cp (oBuild (fs:=bG) (u:=⟨a2,2⟩) u ze127 pl127 po127 (qT tm u (qI (cI (by decide)) u .nil))) (s1 u)<|cwn (oStP (n:=3) (k:=0) (m:=7) (d:=(kR bG)) (u:=(⟨a2,2⟩:bB)) pt127 u u u z127 tm tm) (s2 u u)<|.nil)<|wRet<|pThenR ?_
     obtain rfl:=so h
     exact pR1 (.inl u) u (.boxP (n:=3) (d:=(kR bG)) (u:=(⟨a2,2⟩:bB)) u u pt127 u t127<|.nil)
    ·refine wc t u<|wSkip<|pSeq<|wSeq<|bx h fun o I h=>rx (c2<|lB 0 1 u u u t56 u<|c1<|cC (cu.ok I)<|cp (oField (fs:=bI) (k:=1) u ff161_1 t3 tm) (s1 u)<|c1<|.nil)<|pSeq<|wSeq<|bx h fun a v h=>bx h fun b w h=>rgL hm (c3<|cl [] u (oLdP (n:=2) (k:=0) (m:=14) (d:=(kR bl)) (u:=g) pt158 u u u t158 tm) (s1 u)<|c1<|cC (dl.ok v)<|c1<|cl [] u (oLdP (n:=2) (k:=0) (m:=14) (d:=(kR bl)) (u:=g) pt158 u u u t158 tm) (s1 u)<|c1<|cC (eU.ok w)<|c2<|cp (oBuild (fs:=av) (u:=⟨(⟨0,0⟩:aG),a2.Code,a,b,a2.Out⟩) u ze35 pl35 po35 (.ze (zc:=[(.int .i64 0),(.int .i64 0)]) gx (qL tm u (qL tm u (qL tm u (qL tm u .nil)))))) ⟨u,u,u,u,tv⟩<|cn (oAlloc (id:=12) (ls:=Z35) ze35 zl35) tv<|cwn (oStP (n:=0) (k:=0) (m:=6) (d:=(kR av)) (u:=(⟨(⟨0,0⟩:aG),a2.Code,a,b,a2.Out⟩:al)) pt35 u u u z35 tm tm) (s2 u u)<|.nil) (by kernel_rfl) (by kernel_rfl) (by kernel_rfl)<|pSeq<|wSeq<|bx h fun c x h=>bx h fun e y h=>rdx hm (c1<|lP 3 0 14 (kR bl) g pt158 u u u t158 u<|cC (fq.ok x)<|c2<|lB 1 2 u u u t56 u<|c1<|cC (cu.ok y)<|cp (oField (fs:=bI) (k:=1) u ff161_1 t3 tm) (s1 u)<|cp (oBuild (fs:=aB) (u:=⟨c,e.A⟩) u ze30 pl30 po30 (qI tm u (qI tm u .nil))) (s2 u u)<|c1<|cwn (oStP (n:=0) (k:=0) (m:=2) (d:=(kR aB)) (u:=(⟨c,e.A⟩:aG)) pt30 u u u z30 tm tm) (s2 u u)<|.nil)<|pSeq<|wSeq<|sx (c1<|lB 2 0 u u u t3 u<|c1<|.nil)<|jx h (fun i h=>?_) fun i h=>?_
     ·refine wd i u<|sx (cw (oLitR (id:=101) (d:=(kR aB)) el32 (by decide) u u u e0) tv<|c1<|.nil)<|wSeq<|ix h fun z h=>rx (c3<|cw (oApp (n:=0) (id':=105) el32 (by decide) u (by decide) z tm tm) (s2 u u)<|c1<|.nil)<|pSeq<|wSeq<|ix h fun B h=>rx (c3<|lB 4 2 u u u t3 u<|c1<|cp (oBuild (fs:=aB) (u:=⟨g.A.V,o.A⟩) u ze30 pl30 po30 (qI tm u (qI tm u .nil))) (s2 u u)<|cp (oLit (d:=(kR aB)) el32 (by decide) u u u (e1 tm e0)) (s1 u)<|cw (oApp (n:=0) (id':=113) el32 (by decide) u (by decide) B tm tm) (s2 u u)<|c1<|.nil)<|pSeq<|rx (c2<|cwn (oStN (n:=1) (m:=0) (k:=5) u u u u z32 u tm tm) (s2 u u)<|.nil)<|pSeq<|wSeq<|wSeq<|wFrzR (n:=0) (id:=113) [13,113,114] u u ⟨u,u,u,tv⟩<|bx h fun K C h=>rx (c1<|lP 0 0 6 (kR av) (⟨⟨c,e.A⟩,a2.Code,a,b,(([]:List aG)++a2.Out)++([(⟨g.A.V,o.A⟩:aG)]:List aG)⟩:al) pt35 u u u t35 u<|cC (dg.ok C)<|c1<|.nil)<|pSeq<|jx h (fun j h=>?_) fun j h=>?_
      ·refine wb j u<|sx (c1<|cp (oBuild (fs:=bG) (u:=⟨a2,3⟩) u ze127 pl127 po127 (qT tm u (qI (cI (by decide)) u .nil))) (s1 u)<|cwn (oStP (n:=4) (k:=0) (m:=7) (d:=(kR bG)) (u:=(⟨a2,3⟩:bB)) pt127 u u u z127 tm tm) (s2 u u)<|.nil)<|wRet<|pThenR ?_
       obtain rfl:=so h
       exact pR1 (.inl u) u (.boxP (n:=4) (d:=(kR bG)) (u:=(⟨a2,3⟩:bB)) u u pt127 u t127<|.nil)
      ·refine wc j u<|wSkip<|pSeq<|sx (lP 0 0 6 (kR av) (⟨⟨c,e.A⟩,a2.Code,a,b,(([]:List aG)++a2.Out)++([(⟨g.A.V,o.A⟩:aG)]:List aG)⟩:al) pt35 u u u t35 u<|cp (oBuild (fs:=bG) (u:=⟨(⟨⟨c,e.A⟩,a2.Code,a,b,(([]:List aG)++a2.Out)++([(⟨g.A.V,o.A⟩:aG)]:List aG)⟩:al),0⟩) u ze127 pl127 po127 (qT tm u (gI zI_i64 .nil))) (s1 u)<|cwn (oStP (n:=4) (k:=0) (m:=7) (d:=(kR bG)) (u:=(⟨(⟨⟨c,e.A⟩,a2.Code,a,b,(([]:List aG)++a2.Out)++([(⟨g.A.V,o.A⟩:aG)]:List aG)⟩:al),0⟩:bB)) pt127 u u u z127 tm tm) (s2 u u)<|.nil)<|wRet ?_
       obtain rfl:=so h
       exact pR1 (.inl u) u (.boxP (n:=4) (d:=(kR bG)) (u:=(⟨⟨⟨c,e.A⟩,a2.Code,a,b,(([]:List aG)++a2.Out)++([(⟨g.A.V,o.A⟩:aG)]:List aG)⟩,0⟩:bB)) u u pt127 u t127<|.nil)
     ·refine we i u<|wSkip<|pSeq<|wSeq<|wSeq<|bx h fun L D h=>rx (c1<|lP 0 0 6 (kR av) (⟨⟨c,e.A⟩,a2.Code,a,b,a2.Out⟩:al) pt35 u u u t35 u<|cC (dg.ok D)<|c1<|.nil)<|pSeq<|jx h (fun l h=>?_) fun l h=>?_
      ·refine wb l u<|sx (c1<|cp (oBuild (fs:=bG) (u:=⟨a2,3⟩) u ze127 pl127 po127 (qT tm u (qI (cI (by decide)) u .nil))) (s1 u)<|cwn (oStP (n:=4) (k:=0) (m:=7) (d:=(kR bG)) (u:=(⟨a2,3⟩:bB)) pt127 u u u z127 tm tm) (s2 u u)<|.nil)<|wRet<|pThenR ?_
       obtain rfl:=so h
       exact pR1 (.inl u) u (.boxP (n:=4) (d:=(kR bG)) (u:=(⟨a2,3⟩:bB)) u u pt127 u t127<|.nil)
      ·refine wc l u<|wSkip<|pSeq<|sx (lP 0 0 6 (kR av) (⟨⟨c,e.A⟩,a2.Code,a,b,a2.Out⟩:al) pt35 u u u t35 u<|cp (oBuild (fs:=bG) (u:=⟨(⟨⟨c,e.A⟩,a2.Code,a,b,a2.Out⟩:al),0⟩) u ze127 pl127 po127 (qT tm u (gI zI_i64 .nil))) (s1 u)<|cwn (oStP (n:=4) (k:=0) (m:=7) (d:=(kR bG)) (u:=(⟨(⟨⟨c,e.A⟩,a2.Code,a,b,a2.Out⟩:al),0⟩:bB)) pt127 u u u z127 tm tm) (s2 u u)<|.nil)<|wRet ?_
       obtain rfl:=so h
       exact pR1 (.inl u) u (.boxP (n:=4) (d:=(kR bG)) (u:=(⟨⟨⟨c,e.A⟩,a2.Code,a,b,a2.Out⟩,0⟩:bB)) u u pt127 u t127<|.nil)
theorem cO.ok(h:cO.f s a1 a2 a3=some r):FnA PP 32 [(kR aC).sig s,(kR bn).sig a1,(kR av).sig a2,ki.sig a3] ((kR de).sig r):=by
 refine fJ Tryz.func32 u fun H0 w0=>?_
 unfold cO.f at h
 refine sx (c2<|cw (oBoxP (id:=6) (d:=(kR av)) (ls:=[.d ki a2.Pc.V,.d ki a2.Pc.L,.d (kL (kR aH)) a2.Code,.d (kL (kR aB)) a2.Mem,.d (kL (kR aD)) a2.Stack,.d (kL (kR aB)) a2.Out]) pt35 u tm) (s1 u)<|cw (oAlloc (id:=8) (ls:=[.d (kN al) [],.d ki 0]) ze82 (fun g=>⟨[(.slice none 0 0)],_,u,zN g.H,⟨[(.int .i64 0)],_,u,zI_i64 g.H,u⟩⟩)) tv<|.nil)<|sx (cp (oBuild (fs:=gg) (u:=⟨[],0⟩) u ze82 pl82 po82_0 (gL zN (gI zI_i64 .nil))) tv<|cw (oAlloc (id:=9) (ls:=[.d (kN al) [],.d ki 0]) ze82 (fun g=>⟨[(.slice none 0 0)],_,u,zN g.H,⟨[(.int .i64 0)],_,u,zI_i64 g.H,u⟩⟩)) tv<|sA 0 gg u u z82 u u<|.nil)<|wSeq<|wNilL (kR av) 35 5450 (n:=0) (k:=0) u u u<|ix h fun z h=>rx (c1<|lN 1 0 u u u t49 u<|lP 3 0 6 (kR av) a2 pt35 u u u t35 u<|cp (oLit (d:=(kR av)) el49 (by decide) u u u (e1 tm e0)) (s1 u)<|cw (oApp (n:=0) (id':=17) el49 (by decide) u (by decide) z tm tm) (s2 u u)<|c1<|cwn (oStN (n:=1) (m:=0) (k:=0) u u u u z49 u tm tm) (s2 u u)<|.nil)<|pSeq<|wSeq<|sx (c1<|.nil)<|wWeak (Γ':=[(3,.d (ki.sig a3)),(4,.d (sP (kR aC) s)),(5,.d (sP (kR bn) a1)),(6,.p 6 0),(8,.p 8 0),(9,.p 9 0),(10,.d (ki.sig 0))]) (sb u)<|wRen 17 5450 u ?_
 obtain⟨A,h,w⟩:=bd h
 refine wK3 (fun e a b=>.inr (e,a,b)=A) (fun e a b=>[(8,.p 8 0),(9,.p 9 0)]) (fun e a b=>[.row 5450 35 (kR av) b,.box 9 82 [.v 5450,.d ki a],.box 8 82 [.d (kN al) [],.d ki 0],.box 6 35 (L35 e)]) ?_ ?_
 ·refine wBlock (wLoop ?_)
  refine lW (pc4 A (fun o t i q=>[(3,.d (ki.sig a3)),(4,.d (sP (kR aC) s)),(5,.d (sP (kR bn) a1)),(6,.p 6 0),(8,.p 8 0),(9,.p 9 0),(10,.d (ki.sig q))]) (fun o t i q=>[.row 5450 35 (kR av) i,.box 9 82 [.v 5450,.d ki t],.box 8 82 [.d (kN al) [],.d ki 0],.box 6 35 (L35 o)]) (cO.l0.partial_correctness s a1 a3) ?_ _ _ _ _ h) ⟨u,u,u,u,u,u,u,tv⟩ u
  clear h
  intro f' ih o t i q h
  refine wSeq<|sx (c3<|.nil)<|jx h (fun j h=>?_) fun j h=>?_
  ·refine wd j u<|wSkip<|pSeq<|wSeq<|wBlock<|wSeq<|bx h fun c x h=>rx (c2<|lP 3 0 6 (kR av) o pt35 u u u t35 u<|cC (dD.ok x)<|aL 11 Z127 ze127 zl127<|cwn (oStP (n:=0) (k:=0) (m:=7) (d:=(kR bG)) (u:=c) pt127 u u u z127 tm tm) (s2 u u)<|.nil)<|pSeq<|sx (c1<|lB 0 6 u u u t3 u<|c1<|cwn (oSt (n:=2) (k:=1) u u u u z3 tm tm) (s2 u u)<|.nil)<|wSeq<|sx (c1<|lB 0 6 u u u t3 u<|c1<|.nil)<|jx h (fun l h=>?_) fun l h=>?_
   ·exact wh l u<|wSkip<|pSeq<|sx (c1<|lP 0 0 6 (kR av) c.S pt35 u u u t35 u<|cwn (oStP (n:=4) (k:=0) (m:=6) (d:=(kR av)) (u:=c.S) pt35 u u u z35 tm tm) (s2 u u)<|.nil)<|ix h fun y h=>rx (c1<|lN 2 0 u u u t49 u<|lP 4 0 6 (kR av) c.S pt35 u u u t35 u<|cp (oLit (d:=(kR av)) el49 (by decide) u u u (e1 tm e0)) (s1 u)<|cw (oApp (n:=1) (id':=41) el49 (by decide) u (by decide) y tm tm) (s2 u u)<|c1<|cwn (oStN (n:=2) (m:=1) (k:=0) u u u u z49 u tm tm) (s2 u u)<|.nil)<|pBlkN<|pSeq<|rx (c3<|.nil)<|pDrop (.cons _ (.cons_cons _ (.cons_cons _ (.cons_cons _ (.cons_cons _ .slnil)))))<|pSub (Γ':=[(3,.d (ki.sig a3)),(4,.d (sP (kR aC) s)),(5,.d (sP (kR bn) a1)),(6,.p 6 0),(8,.p 8 0),(9,.p 9 0),(10,.d (ki.sig (IntKind.i64.wrap (q+1))))]) (sb u)<|pRen 41 5450 u<|pLoop (lW (ih _ _ _ _ h) ⟨u,u,u,u,u,u,u,tv⟩ u)
   ·refine wg l u<|wSeq<|wFrzR (n:=1) (id:=5450) [] u u tv<|rx (lA 1 de ⟨i,c.What⟩ u ⟨u,u,tv⟩ t82 u<|sA 2 de u u z82 u u<|.nil)<|pSeq<|wRet<|pThenR<|pBlkR<|pThenR<|pThenR<|pBlkR<|pThenR ?_
    obtain rfl:=so h
    replace h:=w
    refine pThenR ?_
    obtain rfl:=so h
    exact pR1 (.inl u) u (.box (n:=2) (fs:=de) (u:=⟨i,c.What⟩) u u ⟨u,u,tv⟩ t82<|.nil)
  ·exact we j u<|wExit<|pThenX<|pThenX<|pBlkX<|pJ3 _ _ _ (so h) (sb u) u
 ·rintro e a b rfl
  replace h:=w
  refine pSeq<|wSeq<|wFrzR (n:=0) (id:=5450) [] u u tv<|rx (lA 0 de ⟨b,a⟩ u ⟨u,u,tv⟩ t82 u<|sA 1 de u u z82 u u<|.nil)<|pSeq<|wRet ?_
  obtain rfl:=so h
  exact pR1 (.inl u) u (.box (n:=1) (fs:=de) (u:=⟨b,a⟩) u u ⟨u,u,tv⟩ t82<|.nil)
theorem dn.ok(h:dn.f c=some r):FnA PP 61 [(kR de).sig c] ((kR av).sig r):=by
 refine fJ Tryz.func61 u fun H0 w0=>?_
 unfold dn.f at h
 refine sx (c1<|aL 2 Z35 ze35 zl35<|.nil)<|wSeq<|bx h fun a b h=>rx (c6<|iX u49 z35 b u u<|c1<|cwn (oStP (n:=0) (k:=0) (m:=6) (d:=(kR av)) (u:=a) pt35 u u u z35 tm tm) (s2 u u)<|.nil)<|pSeq<|wRet ?_
 obtain rfl:=so h
 exact pR1 (.inl u) u (.boxP (n:=0) (d:=(kR av)) (u:=a) u u pt35 u t35<|.nil)
theorem cj.ok(h:cj.f b a1=some r):FnA PP 33 [(kR bM).sig b,(kR av).sig a1] (kB.sig r):=by
 refine fJ Tryz.func33 u fun H0 w0=>?_
 unfold cj.f at h
 refine sx (c3<|.nil)<|wSeq<|bx h fun c a h=>rx (c6<|c1<|cC (bP.ok a)<|c1<|.nil)<|pSeq<|wRet ?_
 obtain rfl:=so h
 exact pT u u
theorem cL.ok(h:cL.f c a1 a2=some r):FnA PP 62 [(kR bM).sig c,(kR av).sig a1,(kR av).sig a2] (ki.sig r):=by
 refine fJ Tryz.func62 u fun H0 w0=>?_
 unfold cL.f at h
 refine sx (c4<|.nil)<|wSeq<|wSeq<|bx h fun d b h=>rx (c6<|cC (eI.ok b)<|.nil)<|pSeq<|jx h (fun a h=>?_) fun a h=>?_
 ·refine wb a u<|sx (c1<|.nil)<|wRet<|pThenR ?_
  obtain rfl:=so h
  exact pT u u
 ·refine wc a u<|wSkip<|pSeq<|sx (c1<|.nil)<|wRet ?_
  obtain rfl:=so h
  exact pT u u
theorem fT.ok(h:fT.f w a1 a2=some r):FnA PP 23 [(kR bM).sig w,(kR av).sig a1,(kR av).sig a2] (ki.sig r):=by
 refine fJ Tryz.func23 u fun H0 w0=>?_
 unfold fT.f at h
 refine sx (c4<|.nil)<|wSeq<|bx h fun e x h=>rx (c6<|c1<|cC (cO.ok x)<|aL 7 Z82 ze82 zl82<|sA 0 de u u z82 u u<|.nil)<|pSeq<|wSeq<|bx h fun i y h=>rx (c6<|c1<|cC (cO.ok y)<|aL 8 Z82 ze82 zl82<|sA 0 de u u z82 u u<|.nil)<|pSeq<|wSeq<|wB h (fun j=>[(3,.d (sP (kR bM) w)),(7,.p 7 0),(8,.p 8 0),(46,.d (kB.sig j))]) (fun j=>[.box 8 82 [.d (kL (kR av)) i.L,.d ki i.What],.box 7 82 [.d (kL (kR av)) e.L,.d ki e.What]]) (fun G h=>?_) fun j h=>?_
 ·refine jx h (fun b h=>?_) fun b h=>?_
  ·refine jx h (fun a h=>?_) fun a h=>?_
   ·refine bx h fun z l h=>bx h fun A m h=>jx h (fun c h=>?_) fun c h=>?_
    ·exact rdx hm (c1<|lB 1 1 u u u t3 u<|c3<|crgB (nf b.1) u u (oLdB (n:=0) (k:=1) u u u t3 tm) (s1 u)<|c4<|crgB (nf a.1) u u (oLdA (n:=1) (fs:=de) (u:=⟨e.L,e.What⟩) u ⟨u,u,tv⟩ t82 tm) (s1 u)<|cgB (nf a.1) u u (oCall u (dn.ok l) b61 (oc tm o0)) (s1 u)<|cgB (nf a.1) u u (oCall u (cj.ok m) b33 (oc tm (oc tm o0))) (s2 u u)<|c8<|c1<|.nil)<|pJ1 _ (so h) (sb u) u
    ·exact bx h fun B o h=>bx h fun C q h=>rdx hm (c1<|lB 1 1 u u u t3 u<|c3<|crgB (nf b.1) u u (oLdB (n:=0) (k:=1) u u u t3 tm) (s1 u)<|c4<|crgB (nf a.1) u u (oLdA (n:=1) (fs:=de) (u:=⟨e.L,e.What⟩) u ⟨u,u,tv⟩ t82 tm) (s1 u)<|cgB (nf a.1) u u (oCall u (dn.ok l) b61 (oc tm o0)) (s1 u)<|cgB (nf a.1) u u (oCall u (cj.ok m) b33 (oc tm (oc tm o0))) (s2 u u)<|c4<|crgB (nb c.1) u u (oLdA (n:=0) (fs:=de) (u:=⟨i.L,i.What⟩) u ⟨u,u,tv⟩ t82 tm) (s1 u)<|cgB (nb c.1) u u (oCall u (dn.ok o) b61 (oc tm o0)) (s1 u)<|cgB (nb c.1) u u (oCall u (cj.ok q) b33 (oc tm (oc tm o0))) (s2 u u)<|c2<|.nil)<|pJ1 _ (so h) (sb u) u
   ·exact rdx hm (c1<|lB 1 1 u u u t3 u<|c3<|crgB (nf b.1) u u (oLdB (n:=0) (k:=1) u u u t3 tm) (s1 u)<|c12<|c4<|.nil)<|pJ1 _ (so h) (sb u) u
  ·exact rdx hm (c1<|lB 1 1 u u u t3 u<|c12<|c8<|.nil)<|pJ1 _ (so h) (sb u) u
 ·refine jx h (fun g h=>?_) fun g h=>?_
  ·refine wb g u<|sx (c1<|.nil)<|wRet<|pThenR ?_
   obtain rfl:=so h
   exact pT u u
  ·refine wc g u<|wSkip<|pSeq<|wSeq<|bx h fun D s h=>bx h fun E t h=>bx h fun F v h=>rdx hm (c1<|lA 1 de ⟨e.L,e.What⟩ u ⟨u,u,tv⟩ t82 u<|cC (dn.ok s)<|lA 0 de ⟨i.L,i.What⟩ u ⟨u,u,tv⟩ t82 u<|cC (dn.ok t)<|cC (cL.ok v)<|c1<|.nil)<|pSeq<|wRet ?_
   obtain rfl:=so h
   exact pT u u
theorem cx.ok(h:cx.f g a1=some r):FnA PP 16 [(kR bM).sig g,(kR av).sig a1] ((kL (kR av)).sig r):=by
 refine fJ Tryz.func16 u fun H0 w0=>?_
 unfold cx.f at h
 refine sx (c2<|cp (oAs cV) tv<|.nil)<|sx (cw (oLitR (id:=8) (d:=(kR av)) el49 (by decide) u u u e0) tv<|c1<|.nil)<|wSeq<|wSeq<|bx h fun a t h=>rx (c6<|c1<|cC (cO.ok t)<|cp (oField (fs:=de) (k:=0) u ff82_0 t49 tm) (s1 u)<|c2<|.nil)<|pSeq<|wWeak (Γ':=[(2,.d (sP (kR bM) g)),(5,.v 8),(17,.d ((kL (kR av)).sig a.L)),(18,.d (ki.sig (a.L.length:Int))),(19,.d (ki.sig 0))]) (sb u)<|wRen 8 1005 u<|kX h (fun i=>[(5,.v 1005)]) (fun i=>[.row 1005 35 (kR av) i]) (fun w h=>?_) fun i h=>?_
 ·refine wBlock (wLoop ?_)
  refine lW (pc2 w (fun j b=>[(2,.d (sP (kR bM) g)),(5,.v 1005),(17,.d ((kL (kR av)).sig a.L)),(18,.d (ki.sig (a.L.length:Int))),(19,.d (ki.sig b))]) (fun j b=>[.row 1005 35 (kR av) j]) (cx.l0.partial_correctness g a) ?_ _ _ h) ⟨u,u,u,u,u,tv⟩ u
  clear h
  intro f' ih j b h
  refine sx (c1<|.nil)<|wSeq<|jx h (fun c h=>?_) fun c h=>?_
  ·refine wd c u<|wSkip<|pSeq<|wB h (fun l=>[(2,.d (sP (kR bM) g)),(5,.v 1005),(17,.d ((kL (kR av)).sig a.L)),(18,.d (ki.sig (a.L.length:Int))),(19,.d (ki.sig b))]) (fun l=>[.row 1005 35 (kR av) l]) (fun y h=>?_) fun l h=>?_
   ·refine wBlock<|wSeq<|bx h fun o p h=>rx (iX u49 z35 p u u<|c1<|aL 7 Z35 ze35 zl35<|cwn (oStP (n:=0) (k:=0) (m:=6) (d:=(kR av)) (u:=o) pt35 u u u z35 tm tm) (s2 u u)<|.nil)<|pSeq<|wSeq<|bx h fun x q h=>rx (c1<|lP 0 0 6 (kR av) o pt35 u u u t35 u<|cC (cj.ok q)<|.nil)<|pSeq<|jx h (fun e h=>?_) fun e h=>?_
    ·exact wb e u<|ix h fun s h=>rx (c1<|lP 0 0 6 (kR av) o pt35 u u u t35 u<|cp (oLit (d:=(kR av)) el49 (by decide) u u u (e1 tm e0)) (s1 u)<|cw (oApp (n:=1) (id':=29) el49 (by decide) u (by decide) s tm tm) (s2 u u)<|c1<|.nil)<|pBlkN<|pDrop (.cons _ (.cons_cons _ .slnil))<|pSub (Γ':=[(2,.d (sP (kR bM) g)),(5,.v 29),(17,.d ((kL (kR av)).sig a.L)),(18,.d (ki.sig (a.L.length:Int))),(19,.d (ki.sig b))]) (sb u)<|pRen 29 1005 u<|pJ1 _ (so h) (sb u) u
    ·exact wc e u<|wSkip<|pBlkN<|pDrop (.cons _ (.cons_cons _ .slnil))<|pJ1 _ (so h) (sb u) u
   ·exact rx (c2<|.nil)<|pLoop (lW (ih _ _ h) ⟨u,u,u,u,u,tv⟩ u)
  ·exact we c u<|wExit<|pThenX<|pThenX<|pBlkX<|pJ1 _ (so h) (sb u) u
 ·refine pSeq<|sx (c2<|.nil)<|wFrzR (n:=0) (id:=1005) [4] u u ⟨u,tv⟩<|wRet ?_
  obtain rfl:=so h
  exact pT u u
theorem dp.ok(h:dp.f g a1 a2=some r):FnA PP 24 [(kR bM).sig g,(kR av).sig a1,(kR av).sig a2] (ki.sig r):=by
 refine fJ Tryz.func24 u fun H0 w0=>?_
 unfold dp.f at h
 refine sx (c4<|.nil)<|wSeq<|bx h fun j p h=>rx (c2<|cC (cx.ok p)<|c1<|.nil)<|pSeq<|wSeq<|bx h fun k q h=>rx (c2<|cC (cx.ok q)<|c1<|.nil)<|pSeq<|wSeq<|sx (c1<|.nil) ?_
 obtain⟨s,h,i⟩:=bd h
 refine wK0 (.inr ()=s) ([]) ([]) ?_ ?_
 ·refine wBlock (wLoop ?_)
  refine lW (pc1 s (fun c=>[(3,.d (sP (kR bM) g)),(7,.d ((kL (kR av)).sig j)),(8,.d ((kL (kR av)).sig k)),(9,.d (ki.sig c))]) (fun c=>[]) (dp.l0.partial_correctness g j k) ?_ _ h) ⟨u,u,u,u,tv⟩ u
  clear h
  intro f' ih c h
  refine wSeq<|wB h (fun e=>[(3,.d (sP (kR bM) g)),(7,.d ((kL (kR av)).sig j)),(8,.d ((kL (kR av)).sig k)),(9,.d (ki.sig c)),(25,.d (kB.sig e))]) (fun e=>[]) (fun x h=>?_) fun e h=>?_
  ·refine jx h (fun l h=>?_) fun l h=>?_
   ·exact ej (c8<|c2<|.nil) (so h) (sb u) u
   ·exact ej (c8<|c2<|.nil) (so h) (sb u) u
  ·refine jx h (fun a h=>?_) fun a h=>?_
   ·refine wb a u<|wSkip<|pSeq<|wSeq<|wBlock<|wSeq<|bx h fun t m h=>bx h fun v n h=>bx h fun w o h=>rdx hm (c3<|iX u49 z35 m u u<|c3<|iX u49 z35 n u u<|c1<|cC (cL.ok o)<|c1<|.nil)<|pSeq<|jx h (fun b h=>?_) fun b h=>?_
    ·refine wd b u<|sx (c1<|.nil)<|wRet<|pBlkR<|pThenR<|pThenR<|pBlkR<|pThenR ?_
     obtain rfl:=so h
     replace h:=i
     refine pThenR ?_
     obtain rfl:=so h
     exact pT u u
    ·exact we b u<|wSkip<|pBlkN<|pSeq<|rx (c3<|.nil)<|pLoop (lW (ih _ h) ⟨u,u,u,u,tv⟩ u)
   ·exact wc a u<|wExit<|pThenX<|pThenX<|pBlkX<|pJ0 (so h) tv u
 ·rintro rfl
  replace h:=i
  refine pSeq<|sx (c1<|.nil)<|wRet ?_
  obtain rfl:=so h
  exact pT u u
theorem fH.ok(h:fH.f v a1 a2=some r):FnA PP 25 [(kR bM).sig v,(kR av).sig a1,(kR av).sig a2] (ki.sig r):=by
 refine fJ Tryz.func25 u fun H0 w0=>?_
 unfold fH.f at h
 refine sx (c4<|.nil)<|wSeq<|bx h fun c w h=>rx (c4<|c1<|cC (dD.ok w)<|aL 7 Z127 ze127 zl127<|cwn (oStP (n:=0) (k:=0) (m:=7) (d:=(kR bG)) (u:=c) pt127 u u u z127 tm tm) (s2 u u)<|.nil)<|pSeq<|wSeq<|bx h fun e x h=>rx (c4<|c1<|cC (dD.ok x)<|aL 8 Z127 ze127 zl127<|cwn (oStP (n:=0) (k:=0) (m:=7) (d:=(kR bG)) (u:=e) pt127 u u u z127 tm tm) (s2 u u)<|.nil)<|pSeq<|wSeq<|sx (c1<|lB 1 6 u u u t3 u<|c1<|.nil)<|jx h (fun g h=>?_) fun g h=>?_
 ·refine wh g u<|wSkip<|pSeq<|wSeq<|wSeq<|bx h fun E y h=>rx (c2<|cC (cj.ok y)<|.nil)<|pSeq<|jx h (fun i h=>?_) fun i h=>?_
  ·refine wb i u<|wSeq<|sx (c1<|lB 0 6 u u u t3 u<|c1<|.nil)<|jx h (fun j h=>?_) fun j h=>?_
   ·refine wh j u<|wSkip<|pSeq<|wSeq<|bx h fun F z h=>rx (c2<|lP 1 0 6 (kR av) c.S pt35 u u u t35 u<|c1<|lP 0 0 6 (kR av) e.S pt35 u u u t35 u<|cC (cL.ok z)<|c1<|.nil)<|pSeq<|wRet<|pThenR ?_
    obtain rfl:=so h
    exact pT u u
   ·refine wg j u<|sx (c1<|.nil)<|wRet<|pThenR<|pThenR ?_
    obtain rfl:=so h
    exact pT u u
  ·refine wc i u<|wSkip<|pSeq<|wSeq<|wSeq<|bx h fun G A h=>rx (c2<|lP 1 0 6 (kR av) c.S pt35 u u u t35 u<|cC (cj.ok A)<|c1<|.nil)<|pSeq<|jx h (fun l h=>?_) fun l h=>?_
   ·refine wb l u<|wSeq<|bx h fun B q h=>rx (c3<|lP 1 0 6 (kR av) c.S pt35 u u u t35 u<|cC (cL.ok q)<|c1<|.nil)<|pSeq<|wRet<|pThenR ?_
    obtain rfl:=so h
    exact pT u u
   ·refine wc l u<|wSkip<|pSeq<|wSeq<|wB h (fun o=>[(3,.d (sP (kR bM) v)),(7,.p 7 0),(8,.p 8 0),(55,.d (kB.sig o))]) (fun o=>[.box 8 127 (L127 e),.box 7 127 (L127 c)]) (fun H h=>?_) fun o h=>?_
    ·refine jx h (fun a h=>?_) fun a h=>?_
     ·exact bx h fun C s h=>ej (c1<|lB 0 6 u u u t3 u<|c4<|crgB (nf a.1) u u (oLdP (n:=0) (k:=0) (m:=6) (d:=(kR av)) (u:=e.S) pt35 u u u t35 tm) (s1 u)<|cgB (nf a.1) u u (oCall u (cj.ok s) b33 (oc tm (oc tm o0))) (s2 u u)<|c2<|.nil) (so h) (sb u) u
     ·exact ej (c1<|lB 0 6 u u u t3 u<|c8<|.nil) (so h) (sb u) u
    ·refine jx h (fun b h=>?_) fun b h=>?_
     ·refine wb b u<|sx (c1<|.nil)<|wRet<|pThenR ?_
      obtain rfl:=so h
      exact pT u u
     ·refine wc b u<|wSkip<|pSeq<|wSeq<|bx h fun D t h=>rx (c2<|lP 1 0 6 (kR av) c.S pt35 u u u t35 u<|c1<|lP 0 0 6 (kR av) e.S pt35 u u u t35 u<|cC (cL.ok t)<|c1<|.nil)<|pSeq<|wRet ?_
      obtain rfl:=so h
      exact pT u u
 ·refine wg g u<|sx (c1<|.nil)<|wRet<|pThenR ?_
  obtain rfl:=so h
  exact pT u u
theorem fL.ok(h:fL.f g a1 a2 a3=some r):FnA PP 12 [(kR bM).sig g,ki.sig a1,(kR av).sig a2,(kR av).sig a3] (ki.sig r):=by
 refine fJ Tryz.func12 u fun H0 w0=>?_
 unfold fL.f at h
 refine sx (c4<|.nil)<|wSeq<|sx (c2<|.nil)<|jx h (fun a h=>?_) fun a h=>?_
 ·refine wd a u<|wSeq<|bx h fun i c h=>rx (c3<|cC (fT.ok c)<|c1<|.nil)<|pSeq<|wRet<|pThenR ?_
  obtain rfl:=so h
  exact pT u u
 ·refine we a u<|wSkip<|pSeq<|wSeq<|sx (c2<|.nil)<|jx h (fun b h=>?_) fun b h=>?_
  ·refine wd b u<|wSeq<|bx h fun j d h=>rx (c3<|cC (dp.ok d)<|c1<|.nil)<|pSeq<|wRet<|pThenR ?_
   obtain rfl:=so h
   exact pT u u
  ·refine we b u<|wSkip<|pSeq<|wSeq<|bx h fun k e h=>rx (c3<|cC (fH.ok e)<|c1<|.nil)<|pSeq<|wRet ?_
   obtain rfl:=so h
   exact pT u u
theorem eW.ok(h:eW.f t a1 a2 a3 a4 e g=some r):FnA PP 3 [(kR aC).sig t,(kR bn).sig a1,ki.sig a2,ki.sig a3,ki.sig a4,(kR av).sig e,(kR av).sig g] (kB.sig r):=by
 refine fJ Tryz.func3 u fun H0 w0=>?_
 unfold eW.f at h
 refine sx (cw (oBoxS (id:=7) (fs:=aC) tm) (s1 u)<|cw (oBoxS (id:=8) (fs:=bn) tm) (s1 u)<|cw (oBoxP (id:=12) (d:=(kR av)) (ls:=[.d ki e.Pc.V,.d ki e.Pc.L,.d (kL (kR aH)) e.Code,.d (kL (kR aB)) e.Mem,.d (kL (kR aD)) e.Stack,.d (kL (kR aB)) e.Out]) pt35 u tm) (s1 u)<|cw (oBoxP (id:=13) (d:=(kR av)) (ls:=[.d ki g.Pc.V,.d ki g.Pc.L,.d (kL (kR aH)) g.Code,.d (kL (kR aB)) g.Mem,.d (kL (kR aD)) g.Stack,.d (kL (kR aB)) g.Out]) pt35 u tm) (s1 u)<|c1<|.nil)<|wSeq<|bx h fun a z h=>bx h fun c A h=>bx h fun l B h=>bx h fun o C h=>rdx hm (lA 3 aC ⟨t.Names,t.Up⟩ u ⟨u,u,tv⟩ t25 u<|cC (dS.ok z)<|lA 2 bn ⟨a1.Rows⟩ u ⟨u,tv⟩ t28 u<|cC (dE.ok A)<|lP 1 0 6 (kR av) e pt35 u u u t35 u<|cC (fk.ok B)<|lP 0 0 6 (kR av) g pt35 u u u t35 u<|cC (fk.ok C)<|sA 3 aC u u z25 u u<|sA 2 bn u u z28 u u<|cwn (oStP (n:=1) (k:=0) (m:=6) (d:=(kR av)) (u:=l) pt35 u u u z35 tm tm) (s2 u u)<|cwn (oStP (n:=0) (k:=0) (m:=6) (d:=(kR av)) (u:=o) pt35 u u u z35 tm tm) (s2 u u)<|.nil)<|pSeq<|wSeq<|bx h fun J D h=>rx (lA 3 aC ⟨a.Names,a.Up⟩ u ⟨u,u,tv⟩ t25 u<|lA 2 bn ⟨c.Rows⟩ u ⟨u,tv⟩ t28 u<|c3<|lP 1 0 6 (kR av) l pt35 u u u t35 u<|lP 0 0 6 (kR av) o pt35 u u u t35 u<|cC (dC.ok D)<|c4<|c1<|.nil)<|pSeq<|sx (lA 3 aC ⟨a.Names,a.Up⟩ u ⟨u,u,tv⟩ t25 u<|lA 2 bn ⟨c.Rows⟩ u ⟨u,tv⟩ t28 u<|c2<|cp (oBuild (fs:=bM) (u:=⟨a,c,a3,a4⟩) u ze43 pl43 po43 (.op (zc:=[(.slice none 0 0),(.slice none 0 0)]) tm u (qL tm u (qI tm u (qI tm u .nil))))) ⟨u,u,u,u,tv⟩<|aL 17 Z43 ze43 zl43<|cwn (oStP (n:=0) (k:=0) (m:=5) (d:=(kR bM)) (u:=(⟨a,c,a3,a4⟩:cd)) pt43 u u u z43 tm tm) (s2 u u)<|.nil)<|wSeq<|wSeq<|bx h fun K E h=>rx (lP 0 0 5 (kR bM) (⟨a,c,a3,a4⟩:cd) pt43 u u u t43 u<|c1<|lP 2 0 6 (kR av) l pt35 u u u t35 u<|lP 1 0 6 (kR av) o pt35 u u u t35 u<|cC (fj.ok E)<|c1<|.nil)<|pSeq<|sx (c2<|.nil)<|jx h (fun p h=>?_) fun p h=>?_
 ·refine wh p u<|wSkip<|pSeq<|wB h (fun q=>[(14,.d (kB.sig q))]) (fun q=>[.box 17 43 [.d (kL kS) a.Names,.d (kL (kI .u32)) a.Up,.d (kL (kR bj)) c.Rows,.d ki a3,.d ki a4],.box 13 35 (L35 o),.box 12 35 (L35 l),.box 8 28 [.d (kL (kR bj)) c.Rows],.box 7 25 [.d (kL kS) a.Names,.d (kL (kI .u32)) a.Up]]) (fun F h=>?_) fun q h=>?_
  ·refine bx h fun G i h=>jx h (fun v h=>?_) fun v h=>?_
   ·refine jx h (fun b h=>?_) fun b h=>?_
    ·exact bx h fun H w h=>ej (cC (reticentlaw20_alive.ok i)<|c6<|crgB (dT b.1) u u (oLdP (n:=0) (k:=0) (m:=5) (d:=(kR bM)) (u:=(⟨a,c,a3,a4⟩:cd)) pt43 u u u t43 tm) (s1 u)<|c1<|crgB (dT b.1) u u (oLdP (n:=2) (k:=0) (m:=6) (d:=(kR av)) (u:=l) pt35 u u u t35 tm) (s1 u)<|crgB (dT b.1) u u (oLdP (n:=1) (k:=0) (m:=6) (d:=(kR av)) (u:=o) pt35 u u u t35 tm) (s1 u)<|cgB (dT b.1) u u (oCall u (fL.ok w) b12 (oc tm (oc tm (oc tm (oc tm o0))))) ⟨u,u,u,u,tv⟩<|c3<|.nil) (so h) (sb u) u
    ·exact ej (cC (reticentlaw20_alive.ok i)<|c12<|c2<|.nil) (so h) (sb u) u
   ·exact ej (cC (reticentlaw20_alive.ok i)<|c12<|c2<|.nil) (so h) (sb u) u
  ·refine wRet ?_
   obtain rfl:=so h
   exact pT u u
 ·refine wg p u<|wB h (fun s=>[(14,.d (kB.sig s))]) (fun s=>[.box 17 43 [.d (kL kS) a.Names,.d (kL (kI .u32)) a.Up,.d (kL (kR bj)) c.Rows,.d ki a3,.d ki a4],.box 13 35 (L35 o),.box 12 35 (L35 l),.box 8 28 [.d (kL (kR bj)) c.Rows],.box 7 25 [.d (kL kS) a.Names,.d (kL (kI .u32)) a.Up]]) (fun F h=>?_) fun s h=>?_
  ·refine bx h fun I j h=>jx h (fun x h=>?_) fun x h=>?_
   ·refine jx h (fun y h=>?_) fun y h=>?_
    ·exact ej (cC (reticentlaw20_alive.ok j)<|c8<|c2<|.nil) (so h) (sb u) u
    ·exact ej (cC (reticentlaw20_alive.ok j)<|c8<|c2<|.nil) (so h) (sb u) u
   ·exact ej (cC (reticentlaw20_alive.ok j)<|c8<|c2<|.nil) (so h) (sb u) u
  ·refine wRet<|pThenR ?_
   obtain rfl:=so h
   exact pT u u
end Go.Proofs.YtmjcpkmongafnaaGreatDoor.TT
