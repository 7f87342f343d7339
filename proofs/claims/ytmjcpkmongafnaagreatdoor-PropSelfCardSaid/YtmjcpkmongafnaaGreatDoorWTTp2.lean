import Derived.Test.YtmjcpkmongafnaaGreatDoorCln
import Derived.Test.YtmjcpkmongafnaaGreatDoorWTTp1
import Derived.Test.YtmjcpkmongafnaaGreatDoorProg
set_option linter.unusedVariables false
set_option maxRecDepth 10000
set_option maxHeartbeats 2000000
set_option synthInstance.maxHeartbeats 200000
set_option synthInstance.maxSize 2000
namespace Go.Proofs.YtmjcpkmongafnaaGreatDoor.TT
open Go Go.Proofs.YtmjcpkmongafnaaGreatDoor.Ab
theorem bJ.ok{J:al} {z:Pn⊕al}(h:bJ.f J=some z):FnZ PP 157 [.p 70000 0] [.box 70000 204 (L204 J)] [70000] 199 (fun(r:al)=>.d (tup [])) (fun(r:al)=>[.box 70000 204 (L204 r)]) z:=by
 refine fnIntroZ Tryz.func157 u (by kernel_rfl) fun X H0 w0 pv=>?_
 unfold bJ.f at h
 refine wSeq<|rx (c4<|c1<|cr (oLdK (n:=0) (k:=6) u u (by kernel_rfl) t33 tm) (s1 u)<|c3<|cwn (oStK (n:=0) (k:=20) u u u (by kernel_rfl) z3 tm tm) (s2 u u)<|.nil)<|pSeq<|wPtr (n:=0) 0 u u (fun a=>?_)
 refine wT0<|wTk 0 47 (cw (oMkMap (id:=11) (dk:=ki) (dv:=kV)) tv<|c1<|cp (oMkBV tm) (s1 u)<|cwn (oInsert (n:=0) (dk:=ki) (dv:=kV) u u216 mk3 u u tm (cI (by decide)) tm) (s2 u u)<|c1<|cp (oMkBV tm) (s1 u)<|cwn (oInsert (n:=0) (dk:=ki) (dv:=kV) u u216 mk3 u u tm (cI (by decide)) tm) (s2 u u)<|c1<|cp (oMkBV tm) (s1 u)<|cwn (oInsert (n:=0) (dk:=ki) (dv:=kV) u u216 mk3 u u tm (cI (by decide)) tm) (s2 u u)<|c1<|cp (oMkBV tm) (s1 u)<|cwn (oInsert (n:=0) (dk:=ki) (dv:=kV) u u216 mk3 u u tm (cI (by decide)) tm) (s2 u u)<|c1<|cp (oMkBV tm) (s1 u)<|cwn (oInsert (n:=0) (dk:=ki) (dv:=kV) u u216 mk3 u u tm (cI (by decide)) tm) (s2 u u)<|c1<|cp (oMkBV tm) (s1 u)<|cwn (oInsert (n:=0) (dk:=ki) (dv:=kV) u u216 mk3 u u tm (cI (by decide)) tm) (s2 u u)<|c1<|cp (oMkBV tm) (s1 u)<|cwn (oInsert (n:=0) (dk:=ki) (dv:=kV) u u216 mk3 u u tm (cI (by decide)) tm) (s2 u u)<|c1<|cp (oMkBV tm) (s1 u)<|cwn (oInsert (n:=0) (dk:=ki) (dv:=kV) u u216 mk3 u u tm (cI (by decide)) tm) (s2 u u)<|c1<|cp (oMkBV tm) (s1 u)<|cwn (oInsert (n:=0) (dk:=ki) (dv:=kV) u u216 mk3 u u tm (cI (by decide)) tm) (s2 u u)<|c1<|cp (oMkBV tm) (s1 u)<|cwn (oInsert (n:=0) (dk:=ki) (dv:=kV) u u216 mk3 u u tm (cI (by decide)) tm) (s2 u u)<|c1<|cp (oMkBV tm) (s1 u)<|cwn (oInsert (n:=0) (dk:=ki) (dv:=kV) u u216 mk3 u u tm (cI (by decide)) tm) (s2 u u)<|c1<|cp (oMkBV tm) (s1 u)<|cwn (oInsert (n:=0) (dk:=ki) (dv:=kV) u u216 mk3 u u tm (cI (by decide)) tm) (s2 u u)<|c1<|cp (oMkBV tm) (s1 u)<|cwn (oInsert (n:=0) (dk:=ki) (dv:=kV) u u216 mk3 u u tm (cI (by decide)) tm) (s2 u u)<|c2<|cp (oNilP tmP) (s1 u)<|c2<|cr (oLdK (n:=1) (k:=8) u u (by kernel_rfl) t3 tm) (s1 u)<|cr (oLookR (n:=0) u u216 mk3 zv1 (fun H=>⟨u,u⟩) u tm tm) (s2 u u)<|.nil) (by kernel_rfl) u ?_
 obtain⟨E,h⟩|⟨E,h⟩:=ik h
 ·obtain⟨y2,K,h⟩:=bd h
  refine wTe 47 (cm (oCallBV (kn:=70000) (rest:=[.abs 11 (aMap ki kV) [(0,bmV 173 a),(12,bmV 173 a),(1,bmV 174 a),(2,bmV 175 a),(11,bmV 175 a),(3,bmV 176 a),(4,bmV 176 a),(5,bmV 177 a),(6,bmV 178 a),(7,bmV 179 a),(8,bmV 175 a),(9,bmV 180 a),(10,bmV 181 a)]]) (R':=[.abs 11 (aMap ki kV) [(0,bmV 173 a),(12,bmV 173 a),(1,bmV 174 a),(2,bmV 175 a),(11,bmV 175 a),(3,bmV 176 a),(4,bmV 176 a),(5,bmV 177 a),(6,bmV 178 a),(7,bmV 179 a),(8,bmV 175 a),(9,bmV 180 a),(10,bmV 181 a)],.box 70000 204 (L204 y2)]) (out':=.d (tup [])) [(70000,70000)] [] [1] [0] [1,0] (by rw[E.1];rfl) tm (tm (t:=0)) (dy.ok K) u b173 u u u u u u u u) (s2 u u)<|.nil) (by kernel_rfl) ?_
  obtain rfl:=so h
  exact pZ<|pSn [1] u u (.inr u) u u (.nil)
 ·obtain⟨F,h⟩|⟨F,h⟩:=ik h
  ·obtain⟨y4,L,h⟩:=bd h
   refine wTe 47 (cm (oCallBV (kn:=70000) (rest:=[.abs 11 (aMap ki kV) [(0,bmV 173 a),(12,bmV 173 a),(1,bmV 174 a),(2,bmV 175 a),(11,bmV 175 a),(3,bmV 176 a),(4,bmV 176 a),(5,bmV 177 a),(6,bmV 178 a),(7,bmV 179 a),(8,bmV 175 a),(9,bmV 180 a),(10,bmV 181 a)]]) (R':=[.abs 11 (aMap ki kV) [(0,bmV 173 a),(12,bmV 173 a),(1,bmV 174 a),(2,bmV 175 a),(11,bmV 175 a),(3,bmV 176 a),(4,bmV 176 a),(5,bmV 177 a),(6,bmV 178 a),(7,bmV 179 a),(8,bmV 175 a),(9,bmV 180 a),(10,bmV 181 a)],.box 70000 204 (L204 y4)]) (out':=.d (tup [])) [(70000,70000)] [] [1] [0] [1,0] (by rw[F.1];rfl) tm (tm (t:=0)) (dy.ok L) u b173 u u u u u u u u) (s2 u u)<|.nil) (by kernel_rfl) ?_
   obtain rfl:=so h
   exact pZ<|pSn [1] u u (.inr u) u u (.nil)
  ·obtain⟨G,h⟩|⟨G,h⟩:=ik h
   ·obtain⟨y6,M,h⟩:=bd h
    refine wTe 47 (cm (oCallBV (kn:=70000) (rest:=[.abs 11 (aMap ki kV) [(0,bmV 173 a),(12,bmV 173 a),(1,bmV 174 a),(2,bmV 175 a),(11,bmV 175 a),(3,bmV 176 a),(4,bmV 176 a),(5,bmV 177 a),(6,bmV 178 a),(7,bmV 179 a),(8,bmV 175 a),(9,bmV 180 a),(10,bmV 181 a)]]) (R':=[.abs 11 (aMap ki kV) [(0,bmV 173 a),(12,bmV 173 a),(1,bmV 174 a),(2,bmV 175 a),(11,bmV 175 a),(3,bmV 176 a),(4,bmV 176 a),(5,bmV 177 a),(6,bmV 178 a),(7,bmV 179 a),(8,bmV 175 a),(9,bmV 180 a),(10,bmV 181 a)],.box 70000 204 (L204 y6)]) (out':=.d (tup [])) [(70000,70000)] [] [1] [0] [1,0] (by rw[G.1];rfl) tm (tm (t:=0)) (ew.ok M) u b174 u u u u u u u u) (s2 u u)<|.nil) (by kernel_rfl) ?_
    obtain rfl:=so h
    exact pZ<|pSn [1] u u (.inr u) u u (.nil)
   ·obtain⟨q,h⟩|⟨q,h⟩:=ik h
    ·obtain⟨z8,I,h⟩:=bd h
     rcases z8 with p9|N
     ·refine wTx (Γp:=[]) 47 u (oCallBX (kn:=70000) (rest:=[.abs 11 (aMap ki kV) [(0,bmV 173 a),(12,bmV 173 a),(1,bmV 174 a),(2,bmV 175 a),(11,bmV 175 a),(3,bmV 176 a),(4,bmV 176 a),(5,bmV 177 a),(6,bmV 178 a),(7,bmV 179 a),(8,bmV 175 a),(9,bmV 180 a),(10,bmV 181 a)]]) [(70000,70000)] [1] [0] (by rw[q.1];rfl) tm (tm (t:=0)) (bh.okP I) u b175 u u) u u (s2 u u) tv ?_
      obtain rfl:=so h
      exact pX
     ·refine wTe 47 (cm (oCallBV (kn:=70000) (rest:=[.abs 11 (aMap ki kV) [(0,bmV 173 a),(12,bmV 173 a),(1,bmV 174 a),(2,bmV 175 a),(11,bmV 175 a),(3,bmV 176 a),(4,bmV 176 a),(5,bmV 177 a),(6,bmV 178 a),(7,bmV 179 a),(8,bmV 175 a),(9,bmV 180 a),(10,bmV 181 a)]]) (R':=[.abs 11 (aMap ki kV) [(0,bmV 173 a),(12,bmV 173 a),(1,bmV 174 a),(2,bmV 175 a),(11,bmV 175 a),(3,bmV 176 a),(4,bmV 176 a),(5,bmV 177 a),(6,bmV 178 a),(7,bmV 179 a),(8,bmV 175 a),(9,bmV 180 a),(10,bmV 181 a)],.box 70000 204 (L204 N)]) (out':=.d (tup [])) [(70000,70000)] [] [1] [0] [1,0] (by rw[q.1];rfl) tm (tm (t:=0)) (bh.okR I) u b175 u u u u u u u u) (s2 u u)<|.nil) (by kernel_rfl) ?_
      obtain rfl:=so h
      exact pZ<|pSn [1] u u (.inr u) u u (.nil)
    ·obtain⟨b,h⟩|⟨b,h⟩:=ik h
     ·obtain⟨O,s,h⟩:=bd h
      rcases O with ni|y14
      ·refine wTx (Γp:=[]) 47 u (oCallBX (kn:=70000) (rest:=[.abs 11 (aMap ki kV) [(0,bmV 173 a),(12,bmV 173 a),(1,bmV 174 a),(2,bmV 175 a),(11,bmV 175 a),(3,bmV 176 a),(4,bmV 176 a),(5,bmV 177 a),(6,bmV 178 a),(7,bmV 179 a),(8,bmV 175 a),(9,bmV 180 a),(10,bmV 181 a)]]) [(70000,70000)] [1] [0] (by rw[b.1];rfl) tm (tm (t:=0)) (bh.okP s) u b175 u u) u u (s2 u u) tv ?_
       obtain rfl:=so h
       exact pX
      ·refine wTe 47 (cm (oCallBV (kn:=70000) (rest:=[.abs 11 (aMap ki kV) [(0,bmV 173 a),(12,bmV 173 a),(1,bmV 174 a),(2,bmV 175 a),(11,bmV 175 a),(3,bmV 176 a),(4,bmV 176 a),(5,bmV 177 a),(6,bmV 178 a),(7,bmV 179 a),(8,bmV 175 a),(9,bmV 180 a),(10,bmV 181 a)]]) (R':=[.abs 11 (aMap ki kV) [(0,bmV 173 a),(12,bmV 173 a),(1,bmV 174 a),(2,bmV 175 a),(11,bmV 175 a),(3,bmV 176 a),(4,bmV 176 a),(5,bmV 177 a),(6,bmV 178 a),(7,bmV 179 a),(8,bmV 175 a),(9,bmV 180 a),(10,bmV 181 a)],.box 70000 204 (L204 y14)]) (out':=.d (tup [])) [(70000,70000)] [] [1] [0] [1,0] (by rw[b.1];rfl) tm (tm (t:=0)) (bh.okR s) u b175 u u u u u u u u) (s2 u u)<|.nil) (by kernel_rfl) ?_
       obtain rfl:=so h
       exact pZ<|pSn [1] u u (.inr u) u u (.nil)
     ·obtain⟨c,h⟩|⟨c,h⟩:=ik h
      ·obtain⟨P,v,h⟩:=bd h
       rcases P with nj|Q
       ·refine wTx (Γp:=[]) 47 u (oCallBX (kn:=70000) (rest:=[.abs 11 (aMap ki kV) [(0,bmV 173 a),(12,bmV 173 a),(1,bmV 174 a),(2,bmV 175 a),(11,bmV 175 a),(3,bmV 176 a),(4,bmV 176 a),(5,bmV 177 a),(6,bmV 178 a),(7,bmV 179 a),(8,bmV 175 a),(9,bmV 180 a),(10,bmV 181 a)]]) [(70000,70000)] [1] [0] (by rw[c.1];rfl) tm (tm (t:=0)) (bH.okP v) u b176 u u) u u (s2 u u) tv ?_
        obtain rfl:=so h
        exact pX
       ·refine wTe 47 (cm (oCallBV (kn:=70000) (rest:=[.abs 11 (aMap ki kV) [(0,bmV 173 a),(12,bmV 173 a),(1,bmV 174 a),(2,bmV 175 a),(11,bmV 175 a),(3,bmV 176 a),(4,bmV 176 a),(5,bmV 177 a),(6,bmV 178 a),(7,bmV 179 a),(8,bmV 175 a),(9,bmV 180 a),(10,bmV 181 a)]]) (R':=[.abs 11 (aMap ki kV) [(0,bmV 173 a),(12,bmV 173 a),(1,bmV 174 a),(2,bmV 175 a),(11,bmV 175 a),(3,bmV 176 a),(4,bmV 176 a),(5,bmV 177 a),(6,bmV 178 a),(7,bmV 179 a),(8,bmV 175 a),(9,bmV 180 a),(10,bmV 181 a)],.box 70000 204 (L204 Q)]) (out':=.d (tup [])) [(70000,70000)] [] [1] [0] [1,0] (by rw[c.1];rfl) tm (tm (t:=0)) (bH.okR v) u b176 u u u u u u u u) (s2 u u)<|.nil) (by kernel_rfl) ?_
        obtain rfl:=so h
        exact pZ<|pSn [1] u u (.inr u) u u (.nil)
      ·obtain⟨e,h⟩|⟨e,h⟩:=ik h
       ·obtain⟨R,w,h⟩:=bd h
        rcases R with nk|S
        ·refine wTx (Γp:=[]) 47 u (oCallBX (kn:=70000) (rest:=[.abs 11 (aMap ki kV) [(0,bmV 173 a),(12,bmV 173 a),(1,bmV 174 a),(2,bmV 175 a),(11,bmV 175 a),(3,bmV 176 a),(4,bmV 176 a),(5,bmV 177 a),(6,bmV 178 a),(7,bmV 179 a),(8,bmV 175 a),(9,bmV 180 a),(10,bmV 181 a)]]) [(70000,70000)] [1] [0] (by rw[e.1];rfl) tm (tm (t:=0)) (bH.okP w) u b176 u u) u u (s2 u u) tv ?_
         obtain rfl:=so h
         exact pX
        ·refine wTe 47 (cm (oCallBV (kn:=70000) (rest:=[.abs 11 (aMap ki kV) [(0,bmV 173 a),(12,bmV 173 a),(1,bmV 174 a),(2,bmV 175 a),(11,bmV 175 a),(3,bmV 176 a),(4,bmV 176 a),(5,bmV 177 a),(6,bmV 178 a),(7,bmV 179 a),(8,bmV 175 a),(9,bmV 180 a),(10,bmV 181 a)]]) (R':=[.abs 11 (aMap ki kV) [(0,bmV 173 a),(12,bmV 173 a),(1,bmV 174 a),(2,bmV 175 a),(11,bmV 175 a),(3,bmV 176 a),(4,bmV 176 a),(5,bmV 177 a),(6,bmV 178 a),(7,bmV 179 a),(8,bmV 175 a),(9,bmV 180 a),(10,bmV 181 a)],.box 70000 204 (L204 S)]) (out':=.d (tup [])) [(70000,70000)] [] [1] [0] [1,0] (by rw[e.1];rfl) tm (tm (t:=0)) (bH.okR w) u b176 u u u u u u u u) (s2 u u)<|.nil) (by kernel_rfl) ?_
         obtain rfl:=so h
         exact pZ<|pSn [1] u u (.inr u) u u (.nil)
       ·obtain⟨g,h⟩|⟨g,h⟩:=ik h
        ·obtain⟨T,x,h⟩:=bd h
         rcases T with np|U
         ·refine wTx (Γp:=[]) 47 u (oCallBX (kn:=70000) (rest:=[.abs 11 (aMap ki kV) [(0,bmV 173 a),(12,bmV 173 a),(1,bmV 174 a),(2,bmV 175 a),(11,bmV 175 a),(3,bmV 176 a),(4,bmV 176 a),(5,bmV 177 a),(6,bmV 178 a),(7,bmV 179 a),(8,bmV 175 a),(9,bmV 180 a),(10,bmV 181 a)]]) [(70000,70000)] [1] [0] (by rw[g.1];rfl) tm (tm (t:=0)) (cc.okP x) u b177 u u) u u (s2 u u) tv ?_
          obtain rfl:=so h
          exact pX
         ·refine wTe 47 (cm (oCallBV (kn:=70000) (rest:=[.abs 11 (aMap ki kV) [(0,bmV 173 a),(12,bmV 173 a),(1,bmV 174 a),(2,bmV 175 a),(11,bmV 175 a),(3,bmV 176 a),(4,bmV 176 a),(5,bmV 177 a),(6,bmV 178 a),(7,bmV 179 a),(8,bmV 175 a),(9,bmV 180 a),(10,bmV 181 a)]]) (R':=[.abs 11 (aMap ki kV) [(0,bmV 173 a),(12,bmV 173 a),(1,bmV 174 a),(2,bmV 175 a),(11,bmV 175 a),(3,bmV 176 a),(4,bmV 176 a),(5,bmV 177 a),(6,bmV 178 a),(7,bmV 179 a),(8,bmV 175 a),(9,bmV 180 a),(10,bmV 181 a)],.box 70000 204 (L204 U)]) (out':=.d (tup [])) [(70000,70000)] [] [1] [0] [1,0] (by rw[g.1];rfl) tm (tm (t:=0)) (cc.okR x) u b177 u u u u u u u u) (s2 u u)<|.nil) (by kernel_rfl) ?_
          obtain rfl:=so h
          exact pZ<|pSn [1] u u (.inr u) u u (.nil)
        ·obtain⟨i,h⟩|⟨i,h⟩:=ik h
         ·obtain⟨z28,y,h⟩:=bd h
          rcases z28 with nq|V
          ·refine wTx (Γp:=[]) 47 u (oCallBX (kn:=70000) (rest:=[.abs 11 (aMap ki kV) [(0,bmV 173 a),(12,bmV 173 a),(1,bmV 174 a),(2,bmV 175 a),(11,bmV 175 a),(3,bmV 176 a),(4,bmV 176 a),(5,bmV 177 a),(6,bmV 178 a),(7,bmV 179 a),(8,bmV 175 a),(9,bmV 180 a),(10,bmV 181 a)]]) [(70000,70000)] [1] [0] (by rw[i.1];rfl) tm (tm (t:=0)) (bU.okP y) u b178 u u) u u (s2 u u) tv ?_
           obtain rfl:=so h
           exact pX
          ·refine wTe 47 (cm (oCallBV (kn:=70000) (rest:=[.abs 11 (aMap ki kV) [(0,bmV 173 a),(12,bmV 173 a),(1,bmV 174 a),(2,bmV 175 a),(11,bmV 175 a),(3,bmV 176 a),(4,bmV 176 a),(5,bmV 177 a),(6,bmV 178 a),(7,bmV 179 a),(8,bmV 175 a),(9,bmV 180 a),(10,bmV 181 a)]]) (R':=[.abs 11 (aMap ki kV) [(0,bmV 173 a),(12,bmV 173 a),(1,bmV 174 a),(2,bmV 175 a),(11,bmV 175 a),(3,bmV 176 a),(4,bmV 176 a),(5,bmV 177 a),(6,bmV 178 a),(7,bmV 179 a),(8,bmV 175 a),(9,bmV 180 a),(10,bmV 181 a)],.box 70000 204 (L204 V)]) (out':=.d (tup [])) [(70000,70000)] [] [1] [0] [1,0] (by rw[i.1];rfl) tm (tm (t:=0)) (bU.okR y) u b178 u u u u u u u u) (s2 u u)<|.nil) (by kernel_rfl) ?_
           obtain rfl:=so h
           exact pZ<|pSn [1] u u (.inr u) u u (.nil)
         ·obtain⟨j,h⟩|⟨j,h⟩:=ik h
          ·obtain⟨z32,A,h⟩:=bd h
           rcases z32 with nr|W
           ·refine wTx (Γp:=[]) 47 u (oCallBX (kn:=70000) (rest:=[.abs 11 (aMap ki kV) [(0,bmV 173 a),(12,bmV 173 a),(1,bmV 174 a),(2,bmV 175 a),(11,bmV 175 a),(3,bmV 176 a),(4,bmV 176 a),(5,bmV 177 a),(6,bmV 178 a),(7,bmV 179 a),(8,bmV 175 a),(9,bmV 180 a),(10,bmV 181 a)]]) [(70000,70000)] [1] [0] (by rw[j.1];rfl) tm (tm (t:=0)) (bS.okP A) u b179 u u) u u (s2 u u) tv ?_
            obtain rfl:=so h
            exact pX
           ·refine wTe 47 (cm (oCallBV (kn:=70000) (rest:=[.abs 11 (aMap ki kV) [(0,bmV 173 a),(12,bmV 173 a),(1,bmV 174 a),(2,bmV 175 a),(11,bmV 175 a),(3,bmV 176 a),(4,bmV 176 a),(5,bmV 177 a),(6,bmV 178 a),(7,bmV 179 a),(8,bmV 175 a),(9,bmV 180 a),(10,bmV 181 a)]]) (R':=[.abs 11 (aMap ki kV) [(0,bmV 173 a),(12,bmV 173 a),(1,bmV 174 a),(2,bmV 175 a),(11,bmV 175 a),(3,bmV 176 a),(4,bmV 176 a),(5,bmV 177 a),(6,bmV 178 a),(7,bmV 179 a),(8,bmV 175 a),(9,bmV 180 a),(10,bmV 181 a)],.box 70000 204 (L204 W)]) (out':=.d (tup [])) [(70000,70000)] [] [1] [0] [1,0] (by rw[j.1];rfl) tm (tm (t:=0)) (bS.okR A) u b179 u u u u u u u u) (s2 u u)<|.nil) (by kernel_rfl) ?_
            obtain rfl:=so h
            exact pZ<|pSn [1] u u (.inr u) u u (.nil)
          ·obtain⟨l,h⟩|⟨l,h⟩:=ik h
           ·obtain⟨Y,B,h⟩:=bd h
            rcases Y with nu|Z
            ·refine wTx (Γp:=[]) 47 u (oCallBX (kn:=70000) (rest:=[.abs 11 (aMap ki kV) [(0,bmV 173 a),(12,bmV 173 a),(1,bmV 174 a),(2,bmV 175 a),(11,bmV 175 a),(3,bmV 176 a),(4,bmV 176 a),(5,bmV 177 a),(6,bmV 178 a),(7,bmV 179 a),(8,bmV 175 a),(9,bmV 180 a),(10,bmV 181 a)]]) [(70000,70000)] [1] [0] (by rw[l.1];rfl) tm (tm (t:=0)) (bh.okP B) u b175 u u) u u (s2 u u) tv ?_
             obtain rfl:=so h
             exact pX
            ·refine wTe 47 (cm (oCallBV (kn:=70000) (rest:=[.abs 11 (aMap ki kV) [(0,bmV 173 a),(12,bmV 173 a),(1,bmV 174 a),(2,bmV 175 a),(11,bmV 175 a),(3,bmV 176 a),(4,bmV 176 a),(5,bmV 177 a),(6,bmV 178 a),(7,bmV 179 a),(8,bmV 175 a),(9,bmV 180 a),(10,bmV 181 a)]]) (R':=[.abs 11 (aMap ki kV) [(0,bmV 173 a),(12,bmV 173 a),(1,bmV 174 a),(2,bmV 175 a),(11,bmV 175 a),(3,bmV 176 a),(4,bmV 176 a),(5,bmV 177 a),(6,bmV 178 a),(7,bmV 179 a),(8,bmV 175 a),(9,bmV 180 a),(10,bmV 181 a)],.box 70000 204 (L204 Z)]) (out':=.d (tup [])) [(70000,70000)] [] [1] [0] [1,0] (by rw[l.1];rfl) tm (tm (t:=0)) (bh.okR B) u b175 u u u u u u u u) (s2 u u)<|.nil) (by kernel_rfl) ?_
             obtain rfl:=so h
             exact pZ<|pSn [1] u u (.inr u) u u (.nil)
           ·obtain⟨m,h⟩|⟨m,h⟩:=ik h
            ·obtain⟨nc,C,h⟩:=bd h
             rcases nc with nv|ne
             ·refine wTx (Γp:=[]) 47 u (oCallBX (kn:=70000) (rest:=[.abs 11 (aMap ki kV) [(0,bmV 173 a),(12,bmV 173 a),(1,bmV 174 a),(2,bmV 175 a),(11,bmV 175 a),(3,bmV 176 a),(4,bmV 176 a),(5,bmV 177 a),(6,bmV 178 a),(7,bmV 179 a),(8,bmV 175 a),(9,bmV 180 a),(10,bmV 181 a)]]) [(70000,70000)] [1] [0] (by rw[m.1];rfl) tm (tm (t:=0)) (bn.okP C) u b180 u u) u u (s2 u u) tv ?_
              obtain rfl:=so h
              exact pX
             ·refine wTe 47 (cm (oCallBV (kn:=70000) (rest:=[.abs 11 (aMap ki kV) [(0,bmV 173 a),(12,bmV 173 a),(1,bmV 174 a),(2,bmV 175 a),(11,bmV 175 a),(3,bmV 176 a),(4,bmV 176 a),(5,bmV 177 a),(6,bmV 178 a),(7,bmV 179 a),(8,bmV 175 a),(9,bmV 180 a),(10,bmV 181 a)]]) (R':=[.abs 11 (aMap ki kV) [(0,bmV 173 a),(12,bmV 173 a),(1,bmV 174 a),(2,bmV 175 a),(11,bmV 175 a),(3,bmV 176 a),(4,bmV 176 a),(5,bmV 177 a),(6,bmV 178 a),(7,bmV 179 a),(8,bmV 175 a),(9,bmV 180 a),(10,bmV 181 a)],.box 70000 204 (L204 ne)]) (out':=.d (tup [])) [(70000,70000)] [] [1] [0] [1,0] (by rw[m.1];rfl) tm (tm (t:=0)) (bn.okR C) u b180 u u u u u u u u) (s2 u u)<|.nil) (by kernel_rfl) ?_
              obtain rfl:=so h
              exact pZ<|pSn [1] u u (.inr u) u u (.nil)
            ·obtain⟨o,h⟩|⟨o,h⟩:=ik h
             ·obtain⟨ng,D,h⟩:=bd h
              rcases ng with nw|nh
              ·refine wTx (Γp:=[]) 47 u (oCallBX (kn:=70000) (rest:=[.abs 11 (aMap ki kV) [(0,bmV 173 a),(12,bmV 173 a),(1,bmV 174 a),(2,bmV 175 a),(11,bmV 175 a),(3,bmV 176 a),(4,bmV 176 a),(5,bmV 177 a),(6,bmV 178 a),(7,bmV 179 a),(8,bmV 175 a),(9,bmV 180 a),(10,bmV 181 a)]]) [(70000,70000)] [1] [0] (by rw[o.1];rfl) tm (tm (t:=0)) (aP.okP D) u b181 u u) u u (s2 u u) tv ?_
               obtain rfl:=so h
               exact pX
              ·refine wTe 47 (cm (oCallBV (kn:=70000) (rest:=[.abs 11 (aMap ki kV) [(0,bmV 173 a),(12,bmV 173 a),(1,bmV 174 a),(2,bmV 175 a),(11,bmV 175 a),(3,bmV 176 a),(4,bmV 176 a),(5,bmV 177 a),(6,bmV 178 a),(7,bmV 179 a),(8,bmV 175 a),(9,bmV 180 a),(10,bmV 181 a)]]) (R':=[.abs 11 (aMap ki kV) [(0,bmV 173 a),(12,bmV 173 a),(1,bmV 174 a),(2,bmV 175 a),(11,bmV 175 a),(3,bmV 176 a),(4,bmV 176 a),(5,bmV 177 a),(6,bmV 178 a),(7,bmV 179 a),(8,bmV 175 a),(9,bmV 180 a),(10,bmV 181 a)],.box 70000 204 (L204 nh)]) (out':=.d (tup [])) [(70000,70000)] [] [1] [0] [1,0] (by rw[o.1];rfl) tm (tm (t:=0)) (aP.okR D) u b181 u u u u u u u u) (s2 u u)<|.nil) (by kernel_rfl) ?_
               obtain rfl:=so h
               exact pZ<|pSn [1] u u (.inr u) u u (.nil)
             ·cases h
theorem bJ.okR{a:al} {r:al}(h:bJ.f a=some (.inr r)):FnS PP 157 [.p 70000 0] [.box 70000 204 (L204 a)] [70000] (.d (tup [])) [.box 70000 204 (L204 r)]:=bJ.ok h
theorem bJ.okP{a:al} {n:Pn}(h:bJ.f a=some (.inl n)):FnX PP 157 [.p 70000 0] [.box 70000 204 (L204 a)] (pvv 199 n):=bJ.ok h
theorem eD.ok{b:Int} {a1:aq} {r:Bool}(h:eD.f b a1=some r):FnA PP 194 [ki.sig b,sP (kR aA) a1] (kB.sig r):=by
 refine fnIntro Tryz.func194 u (by kernel_rfl) fun H0 w0=>?_
 unfold eD.f at h
 refine wSeq<|rx (c1<|.nil)<|pSeq ?_
 obtain⟨g,h,c⟩:=bd h
 refine wJ1 (fun a=>a=g) (fun a=>[(3,.d (kB.sig a))]) (fun a=>[]) ?_ ?_
 ·obtain⟨e,h⟩|⟨e,h⟩:=ik h
  ·exact rx (c8<|c2<|.nil)<|pJ1 _ (so h) (sb u) u
  ·exact rx (c8<|c2<|.nil)<|pJ1 _ (so h) (sb u) u
 ·rintro a rfl
  replace h:=c
  refine wRet ?_
  obtain rfl:=so h
  exact pR1 (.inl u) u (.tmp u<|.nil)
theorem ef.ok{i:aq} {a1:List Int} {a2:List Int} {a3:Bool} {r:Int}(h:ef.f i a1 a2 a3=some r):FnA PP 182 [(kR aA).sig i,(kL ki).sig a1,(kL ki).sig a2,kB.sig a3] (ki.sig r):=by
 refine fnIntro Tryz.func182 u (by kernel_rfl) fun H0 w0=>?_
 unfold ef.f at h
 refine wSeq<|rx (c2<|.nil)<|pSeq<|wSeq<|wSeq ?_
 obtain⟨p,j,h⟩:=bd h
 refine rx (c1<|cC (bE.ok j)<|c1<|.nil)<|pSeq<|wSeq<|rx (c2<|.nil)<|pSeq ?_
 obtain⟨b,h⟩|⟨b,h⟩:=ik h
 ·refine wNT b.1 tm (s1 u)<|wSkip<|pSeq<|wSeq<|rx (cp (oMkF (Rl:=rl1 ki kB (fun n=>eD.f n i)) u b194 (rl1e eD.ok) (oc tm o0)) (s1 u)<|c1<|.nil)<|pSeq<|wSeq<|wBlock<|wSeq ?_
  obtain⟨q,k,h⟩:=bd h
  refine rx (c2<|cC (db.ok k)<|c2<|.nil)<|pSeq ?_
  obtain⟨c,h⟩|⟨c,h⟩:=ik h
  ·refine wBT c.1 tm (s1 u)<|wSeq<|rx (c1<|.nil)<|pSeq<|wRet<|pBlkR<|pThenR ?_
   obtain rfl:=so h
   exact pR1 (.inl u) u (.tmp u<|.nil)
  ·refine wBF c.1 tm (s1 u) ?_
   obtain⟨o,h,l⟩:=bd h
   refine wJ1 (fun e=>e=o) (fun e=>[(22,.d (kB.sig e))]) (fun e=>[]) ?_ ?_
   ·obtain⟨g,h⟩|⟨g,h⟩:=ik h
    ·obtain⟨s,m,h⟩:=bd h
     exact rx (c6<|cgB (nf g.1) u u (oCall u (bB.ok m) b65 (oc tm (oc tm o0))) (s2 u u)<|c2<|.nil)<|pJ1 _ (so h) (sb u) u
    ·exact rx (c8<|c1<|.nil)<|pJ1 _ (so h) (sb u) u
   ·rintro e rfl
    replace h:=l
    obtain⟨a,h⟩|⟨a,h⟩:=ik h
    ·refine wBT a.1 tm (s1 u)<|wSeq<|rx (c1<|.nil)<|pSeq<|wRet<|pBlkR<|pThenR ?_
     obtain rfl:=so h
     exact pR1 (.inl u) u (.tmp u<|.nil)
    ·refine wBF a.1 tm (s1 u)<|wSkip<|pBlkN<|pSeq<|wSeq<|rx (c1<|.nil)<|pSeq<|wRet ?_
     obtain rfl:=so h
     exact pR1 (.inl u) u (.tmp u<|.nil)
 ·refine wNF b.1 tm (s1 u)<|wSeq<|rx (c2<|.nil)<|pSeq<|wRet<|pThenR ?_
  obtain rfl:=so h
  exact pR1 (.inl u) u (.tmp u<|.nil)
theorem bC.ok{a:bl} {a1:If221} {r:bl}(h:bC.f a a1=some r):FnS PP 195 [.p 70000 0,.d ((kF vIf221).sig a1)] [.box 70000 225 [.d (kL kS) a.l_.Names,.d (kL (kI .u32)) a.l_.Up,.d (kL ki) a.labels_,.v 70004],.row 70004 221 (kF vIf221) a.pile_] [70000] (.d (tup [])) [.box 70000 225 [.d (kL kS) r.l_.Names,.d (kL (kI .u32)) r.l_.Up,.d (kL ki) r.labels_,.v 70004],.row 70004 221 (kF vIf221) r.pile_]:=by
 refine fnIntroS Tryz.func195 u (by kernel_rfl) fun X H0 w0 pv=>?_
 unfold bC.f at h
 obtain⟨b,h⟩:=ib h
 refine rx (c4<|cr (oLdN (n:=0) (k:=3) u u u t223 tm) (s1 u)<|c1<|cp (oLit (d:=(kF vIf221)) el223 (by decide) u u u (e1 tm e0)) (s1 u)<|cw (oApp (n:=1) (id':=11) el223 (by decide) u (by decide) b tm tm) (s2 u u)<|c2<|cwn (oStN (n:=0) (m:=1) (k:=3) u u u u z223 u tm tm) (s2 u u)<|.nil) ?_
 obtain rfl:=so h
 exact pSub (Γ':=[]) tv<|pRen 11 70004 u<|pSn [0,1] u u (.inr u) u u (.nil)
theorem dM.ok{a:bl} {r:bl×If221×If221}(h:dM.f a=some r):FnS PP 196 [.p 70000 0] [.box 70000 225 [.d (kL kS) a.l_.Names,.d (kL (kI .u32)) a.l_.Up,.d (kL ki) a.labels_,.v 70004],.row 70004 221 (kF vIf221) a.pile_] [70000] (.d (tup [(kF vIf221).sig r.2.1,(kF vIf221).sig r.2.2])) [.box 70000 225 [.d (kL kS) r.1.l_.Names,.d (kL (kI .u32)) r.1.l_.Up,.d (kL ki) r.1.labels_,.v 70004],.row 70004 221 (kF vIf221) r.1.pile_]:=by
 refine fnIntroS Tryz.func196 u (by kernel_rfl) fun X H0 w0 pv=>?_
 unfold dM.f at h
 refine wSeq<|rx (cp (oAs (cNil (view:=vIf221) (x:=.nil) u)) tv<|cp (oAs (cNil (view:=vIf221) (x:=.nil) u)) tv<|.nil)<|pSeq<|wSeq<|rx (c3<|cr (oLdN (n:=0) (k:=3) u u u t223 tm) (s1 u)<|cr (oLenR (n:=1) u223 u tm) (s1 u)<|c2<|.nil)<|pSeq<|wSeq ?_
 obtain⟨g,b,h⟩:=bd h
 obtain⟨i,c,h⟩:=bd h
 refine rdx hm (c3<|cr (oLdN (n:=0) (k:=3) u u u t223 tm) (s1 u)<|c1<|cr (oIdxR (n:=1) u223 z221 u b tm tm) (s2 u u)<|cr (oLdE (n:=1) u b u t221 tm) (s1 u)<|c3<|cr (oLdN (n:=0) (k:=3) u u u t223 tm) (s1 u)<|c2<|cr (oIdxR (n:=1) u223 z221 u c tm tm) (s2 u u)<|cr (oLdE (n:=1) u c u t221 tm) (s1 u)<|c2<|.nil)<|pSeq<|wSeq ?_
 obtain⟨e,h⟩:=ib h
 refine rx (c4<|cr (oLdN (n:=0) (k:=3) u u u t223 tm) (s1 u)<|c1<|cw (oCutR (n:=1) (id':=34) u223 z221 u e.1 e.2 tm tm) (s2 u u)<|c2<|cwn (oStN (n:=0) (m:=1) (k:=3) u u u u z223 u tm tm) (s2 u u)<|.nil)<|pSeq<|wSeq<|rx (c4<|.nil)<|pSeq<|wRet ?_
 obtain rfl:=so h
 exact pSub (Γ':=[(2,.d ((kF vIf221).sig g)),(3,.d ((kF vIf221).sig i))]) (sb u)<|pRen 34 70004 u<|pSn [0,1] u u (.inl u) u u (.tmp u<|.tmp u<|.nil)
theorem cP.ok{b:aq} {a1:Int} {a2:Int} {r:Bool×Int}(h:cP.f b a1 a2=some r):FnA PP 96 [(kR aA).sig b,ki.sig a1,ki.sig a2] (tup [kB.sig r.1,ki.sig r.2]):=by
 refine fnIntro Tryz.func96 u (by kernel_rfl) fun H0 w0=>?_
 unfold cP.f at h
 refine wSeq<|rx (c3<|.nil)<|pSeq<|wSeq<|wSeq ?_
 obtain⟨g,c,h⟩:=bd h
 refine rx (c3<|cp (oLit (d:=ki) el56 (by decide) u u u (e1 tm (e1 tm e0))) (s2 u u)<|cC (cE.ok c)<|c1<|.nil)<|pSeq<|wSeq<|rx (c2<|.nil)<|pSeq ?_
 obtain⟨a,h⟩|⟨a,h⟩:=ik h
 ·refine wNT a.1 tm (s1 u)<|wSkip<|pSeq<|wSeq ?_
  obtain⟨i,e,h⟩:=bd h
  refine rx (c3<|cC (cF.ok e)<|c2<|.nil)<|pSeq<|wRet ?_
  obtain rfl:=so h
  exact pRn (.inl u) u u (.tmp u<|.tmp u<|.nil)
 ·refine wNF a.1 tm (s1 u)<|wSeq<|rx (c3<|.nil)<|pSeq<|wRet<|pThenR ?_
  obtain rfl:=so h
  exact pRn (.inl u) u u (.tmp u<|.tmp u<|.nil)
theorem dA.ok{b:aq} {a1:Int} {a2:Int} {r:Int×Int}(h:dA.f b a1 a2=some r):FnA PP 202 [(kR aA).sig b,ki.sig a1,ki.sig a2] (tup [ki.sig r.1,ki.sig r.2]):=by
 refine fnIntro Tryz.func202 u (by kernel_rfl) fun H0 w0=>?_
 unfold dA.f at h
 refine wSeq<|rx (c3<|.nil)<|pSeq<|wSeq<|wSeq ?_
 obtain⟨g,c,h⟩:=bd h
 refine rx (c3<|cp (oLit (d:=ki) el56 (by decide) u u u (e1 tm (e1 tm e0))) (s2 u u)<|cC (cE.ok c)<|c1<|.nil)<|pSeq<|wSeq<|rx (c2<|.nil)<|pSeq ?_
 obtain⟨a,h⟩|⟨a,h⟩:=ik h
 ·refine wNT a.1 tm (s1 u)<|wSkip<|pSeq<|wSeq ?_
  obtain⟨i,e,h⟩:=bd h
  refine rx (c3<|cC (dr.ok e)<|c2<|.nil)<|pSeq<|wRet ?_
  obtain rfl:=so h
  exact pRn (.inl u) u u (.tmp u<|.tmp u<|.nil)
 ·refine wNF a.1 tm (s1 u)<|wSeq<|rx (c3<|.nil)<|pSeq<|wRet<|pThenR ?_
  obtain rfl:=so h
  exact pRn (.inl u) u u (.tmp u<|.tmp u<|.nil)
theorem dB.ok{b:aq} {a1:Int} {a2:Int} {r:Int×Int}(h:dB.f b a1 a2=some r):FnA PP 203 [(kR aA).sig b,ki.sig a1,ki.sig a2] (tup [ki.sig r.1,ki.sig r.2]):=by
 refine fnIntro Tryz.func203 u (by kernel_rfl) fun H0 w0=>?_
 unfold dB.f at h
 refine wSeq<|rx (c3<|.nil)<|pSeq<|wSeq<|wSeq ?_
 obtain⟨g,c,h⟩:=bd h
 refine rx (c3<|cp (oLit (d:=ki) el56 (by decide) u u u (e1 tm (e1 tm e0))) (s2 u u)<|cC (cE.ok c)<|c1<|.nil)<|pSeq<|wSeq<|rx (c2<|.nil)<|pSeq ?_
 obtain⟨a,h⟩|⟨a,h⟩:=ik h
 ·refine wNT a.1 tm (s1 u)<|wSkip<|pSeq<|wSeq ?_
  obtain⟨i,e,h⟩:=bd h
  refine rx (c3<|cC (bN.ok e)<|c2<|.nil)<|pSeq<|wRet ?_
  obtain rfl:=so h
  exact pRn (.inl u) u u (.tmp u<|.tmp u<|.nil)
 ·refine wNF a.1 tm (s1 u)<|wSeq<|rx (c3<|.nil)<|pSeq<|wRet<|pThenR ?_
  obtain rfl:=so h
  exact pRn (.inl u) u u (.tmp u<|.tmp u<|.nil)
theorem cY.ok{a:bl} {a1:Int} {a2:If221} {a3:If221} {r:bl×If221}(h:cY.f a a1 a2 a3=some r):FnS PP 197 [.p 70000 0,.d (ki.sig a1),.d ((kF vIf221).sig a2),.d ((kF vIf221).sig a3)] [.box 70000 225 [.d (kL kS) a.l_.Names,.d (kL (kI .u32)) a.l_.Up,.d (kL ki) a.labels_,.v 70004],.row 70004 221 (kF vIf221) a.pile_] [70000] (.d ((kF vIf221).sig r.2)) [.box 70000 225 [.d (kL kS) r.1.l_.Names,.d (kL (kI .u32)) r.1.l_.Up,.d (kL ki) r.1.labels_,.v 70004],.row 70004 221 (kF vIf221) r.1.pile_]:=by
 refine fnIntroS Tryz.func197 u (by kernel_rfl) fun X H0 w0 pv=>?_
 unfold cY.f at h
 refine wSeq<|rx (cp (oAs (cNil (view:=vIf221) (x:=.nil) u)) tv<|.nil)<|pSeq<|wSeq<|wSeq<|rx (c1<|.nil)<|pSeq<|wBlock<|wSeq<|rx (cp (oTA gR cb218 zv218 zvB tm) (s1 u)<|c2<|.nil)<|pSeq ?_
 obtain⟨i,h⟩|⟨i,h⟩:=ik h
 ·refine wBT i.1 tm (s1 u)<|wSeq<|rx (c1<|.nil)<|pSeq<|wSeq<|rx (c1<|cp (oTA gR cb218 zv218 zvB tm) (s1 u)<|c4<|c1<|.nil)<|pSeq<|wSeq<|wSeq<|rx (c2<|.nil)<|pSeq ?_
  obtain⟨j,h⟩|⟨j,h⟩:=ik h
  ·refine wCT j.1 tm (s1 u)<|wWeak (Γ':=[(8,.d ((kF vIf221).sig If221.nil)),(9,.d (kB.sig ((dN a2).1))),(10,.d (kB.sig ((dN a3).1)))]) (sb u)<|wRen 70004 3505003 u ?_
   obtain⟨q,h,l⟩:=bd h
   refine wJ1 (fun e=>e=q) (fun e=>[(8,.d ((kF vIf221).sig e))]) (fun e=>[.box 70000 225 [.d (kL kS) a.l_.Names,.d (kL (kI .u32)) a.l_.Up,.d (kL ki) a.labels_,.v 3505003],.row 3505003 221 (kF vIf221) a.pile_]) ?_ ?_
   ·obtain⟨y,h⟩|⟨y,h⟩:=ik h
    ·exact rx (c4<|cp (oMkI (view:=vIf221) (x0:=If221.c218 ((dN a3).1)) u cb218 tm) (s1 u)<|c1<|.nil)<|pJ1 _ (so h) (sb u) u
    ·exact rx (c4<|cp (oMkI (view:=vIf221) (x0:=If221.c218 false) u cb218 tm) (s1 u)<|c1<|.nil)<|pJ1 _ (so h) (sb u) u
   ·rintro e rfl
    replace h:=l
    refine wRet<|pThenR<|pBlkR<|pThenR ?_
    obtain rfl:=so h
    exact pSub (Γ':=[(8,.d ((kF vIf221).sig e))]) (sb u)<|pRen 3505003 70004 u<|pS1 [0,1] u u (.inl u) u (.tmp u<|.nil)
  ·refine wCF j.1 tm (s1 u)<|wSkip<|pSeq<|wWeak (Γ':=[(8,.d ((kF vIf221).sig If221.nil)),(9,.d (kB.sig ((dN a2).1))),(10,.d (kB.sig ((dN a3).1)))]) (sb u)<|wRen 70004 3505003 u ?_
   obtain⟨q,h,l⟩:=bd h
   refine wJ1 (fun g=>g=q) (fun g=>[(8,.d ((kF vIf221).sig g))]) (fun g=>[.box 70000 225 [.d (kL kS) a.l_.Names,.d (kL (kI .u32)) a.l_.Up,.d (kL ki) a.labels_,.v 3505003],.row 3505003 221 (kF vIf221) a.pile_]) ?_ ?_
   ·obtain⟨z,h⟩|⟨z,h⟩:=ik h
    ·exact rx (c4<|cp (oMkI (view:=vIf221) (x0:=If221.c218 true) u cb218 tm) (s1 u)<|c1<|.nil)<|pJ1 _ (so h) (sb u) u
    ·exact rx (c4<|cp (oMkI (view:=vIf221) (x0:=If221.c218 ((dN a3).1)) u cb218 tm) (s1 u)<|c1<|.nil)<|pJ1 _ (so h) (sb u) u
   ·rintro g rfl
    replace h:=l
    refine wRet<|pBlkR<|pThenR ?_
    obtain rfl:=so h
    exact pSub (Γ':=[(8,.d ((kF vIf221).sig g))]) (sb u)<|pRen 3505003 70004 u<|pS1 [0,1] u u (.inl u) u (.tmp u<|.nil)
 ·refine wBF i.1 tm (s1 u)<|wSeq<|rx (cp (oTA gS cb227 zv227 (zvI (by decide)) tm) (s1 u)<|c2<|.nil)<|pSeq ?_
  obtain⟨o,h⟩|⟨o,h⟩:=ik h
  ·refine wBT o.1 tm (s1 u)<|wSeq<|rx (c1<|.nil)<|pSeq<|wSeq<|rx (c1<|cp (oTA gS cb227 zv227 (zvI (by decide)) tm) (s1 u)<|c4<|c1<|.nil)<|pSeq<|wSeq<|wSeq<|rx (c1<|.nil)<|pSeq<|wBlock<|wSeq<|rx (c2<|.nil)<|pSeq ?_
   obtain⟨b,h⟩|⟨b,h⟩:=ik h
   ·refine wCT b.1 tm (s1 u)<|wSeq ?_
    obtain⟨A,s,h⟩:=bd h
    refine rx (c3<|cr (oLdP (n:=0) (k:=0) (m:=2) (d:=(kR aA)) (u:=a.l_) pt25 u u u t25 tm) (s1 u)<|c2<|cC (cP.ok s)<|c4<|c1<|.nil)<|pSeq<|wSeq<|rx (c1<|cp (oMkI (view:=vIf221) (x0:=If221.c218 A.1) u cb218 tm) (s1 u)<|c1<|.nil)<|pSeq<|wRet<|pBlkR<|pThenR<|pBlkR<|pThenR ?_
    obtain rfl:=so h
    exact pS1 [0,1] u u (.inl u) u (.tmp u<|.nil)
   ·refine wCF b.1 tm (s1 u)<|wSeq<|rx (c2<|.nil)<|pSeq ?_
    obtain⟨c,h⟩|⟨c,h⟩:=ik h
    ·refine wCT c.1 tm (s1 u)<|wSeq ?_
     obtain⟨B,t,h⟩:=bd h
     refine rx (c3<|cr (oLdP (n:=0) (k:=0) (m:=2) (d:=(kR aA)) (u:=a.l_) pt25 u u u t25 tm) (s1 u)<|c2<|cC (dA.ok t)<|c4<|c1<|.nil)<|pSeq<|wSeq<|rx (c1<|cp (oMkI (view:=vIf221) (x0:=If221.c227 B.1) u cb227 tm) (s1 u)<|c1<|.nil)<|pSeq<|wRet<|pBlkR<|pThenR<|pBlkR<|pThenR ?_
     obtain rfl:=so h
     exact pS1 [0,1] u u (.inl u) u (.tmp u<|.nil)
    ·refine wCF c.1 tm (s1 u)<|wSkip<|pBlkN<|pSeq<|wSeq ?_
     obtain⟨y14,w,h⟩:=bd h
     refine rx (c3<|cr (oLdP (n:=0) (k:=0) (m:=2) (d:=(kR aA)) (u:=a.l_) pt25 u u u t25 tm) (s1 u)<|c2<|cC (dB.ok w)<|c4<|c1<|.nil)<|pSeq<|wSeq<|rx (c1<|cp (oMkI (view:=vIf221) (x0:=If221.c227 y14.1) u cb227 tm) (s1 u)<|c1<|.nil)<|pSeq<|wRet<|pBlkR<|pThenR ?_
     obtain rfl:=so h
     exact pS1 [0,1] u u (.inl u) u (.tmp u<|.nil)
  ·refine wBF o.1 tm (s1 u)<|wSkip<|pBlkN<|pSeq<|wSeq<|rx (c2<|.nil)<|pSeq<|wRet ?_
   obtain rfl:=so h
   exact pS1 [0,1] u u (.inl u) u (.tmp u<|.nil)
theorem bm.ok{Y:bl} {a1:List Int} {r:bl×If221}(h:bm.f Y a1=some r):FnS PP 183 [.p 70000 0,.d ((kL ki).sig a1)] [.box 70000 225 [.d (kL kS) Y.l_.Names,.d (kL (kI .u32)) Y.l_.Up,.d (kL ki) Y.labels_,.v 70004],.row 70004 221 (kF vIf221) Y.pile_] [70000] (.d ((kF vIf221).sig r.2)) [.box 70000 225 [.d (kL kS) r.1.l_.Names,.d (kL (kI .u32)) r.1.l_.Up,.d (kL ki) r.1.labels_,.v 70004],.row 70004 221 (kF vIf221) r.1.pile_]:=by
 refine fnIntroS Tryz.func183 u (by kernel_rfl) fun X H0 w0 pv=>?_
 unfold bm.f at h
 refine wSeq<|rx (cp (oAs (cNil (view:=vIf221) (x:=.nil) u)) tv<|.nil)<|pSeq<|wSeq<|wSeq<|rx (c3<|.nil)<|pSeq<|wWeak (Γ':=[(0,.p 70000 0),(13,.d ((kL ki).sig a1)),(14,.d (ki.sig (a1.length:Int))),(15,.d (ki.sig 0))]) (sb u)<|wRen 70004 3505003 u ?_
 obtain⟨o1,h,ot⟩:=bd h
 refine wK4 (fun j l o q=>(j,l,o,q)=o1) (fun j l o q=>[(0,.p 70000 0)]) (fun j l o q=>[.box 70000 225 [.d (kL kS) j,.d (kL (kI .u32)) l,.d (kL ki) o,.v 3505003],.row 3505003 221 (kF vIf221) q]) ?_ ?_
 ·refine wBlock (wLoop ?_)
  refine lW (pc5 o1 (fun s t U V a=>[(0,.p 70000 0),(13,.d ((kL ki).sig a1)),(14,.d (ki.sig (a1.length:Int))),(15,.d (ki.sig a))]) (fun s t U V a=>[.box 70000 225 [.d (kL kS) s,.d (kL (kI .u32)) t,.d (kL ki) U,.v 3505003],.row 3505003 221 (kF vIf221) V]) (bm.l0.partial_correctness a1) ?_ _ _ _ _ _ h) ⟨u,u,u,u,tv⟩ u
  clear h
  intro f' ih s t U V a h
  refine wSeq<|rx (c1<|.nil)<|pSeq<|wSeq ?_
  obtain⟨G,h⟩|⟨G,h⟩:=ik h
  ·refine wCT G.1 tm (s1 u)<|wSkip<|pSeq ?_
   obtain⟨o2,h,ou⟩:=bd h
   refine wJ4 (fun w y z A=>(w,y,z,A)=o2) (fun w y z A=>[(0,.p 70000 0),(13,.d ((kL ki).sig a1)),(14,.d (ki.sig (a1.length:Int))),(15,.d (ki.sig a))]) (fun w y z A=>[.box 70000 225 [.d (kL kS) w,.d (kL (kI .u32)) y,.d (kL ki) z,.v 3505003],.row 3505003 221 (kF vIf221) A]) ?_ ?_
   ·refine wBlock<|wSeq ?_
    obtain⟨Z,nc,h⟩:=bd h
    refine rx (cp (oIdx u56 z3 nc tm tm) (s2 u u)<|c2<|.nil)<|pSeq<|wSeq<|rx (c1<|.nil)<|pSeq ?_
    obtain⟨o3,h,ov⟩:=bd h
    refine wK4 (fun B C D E=>(B,C,D,E)=o3) (fun B C D E=>[(0,.p 70000 0),(13,.d ((kL ki).sig a1)),(14,.d (ki.sig (a1.length:Int))),(15,.d (ki.sig a))]) (fun B C D E=>[.box 70000 225 [.d (kL kS) B,.d (kL (kI .u32)) C,.d (kL ki) D,.v 3505003],.row 3505003 221 (kF vIf221) E]) ?_ ?_
    ·refine wBlock<|wSeq<|wSeq<|rx (c2<|.nil)<|pSeq ?_
     obtain⟨c,h⟩|⟨c,h⟩:=ik h
     ·refine wCT c.1 tm (s1 u)<|wSkip<|pSeq<|wCT c.1 tm (s1 u) ?_
      obtain⟨H,ne,h⟩:=bd h
      exact rx (c3<|cp (oMkI (view:=vIf221) (x0:=If221.c218 (decide (Z=1))) u cb218 tm) (s1 u)<|cm (oCallS (rest:=[]) (R':=[.box 70000 225 [.d (kL kS) H.l_.Names,.d (kL (kI .u32)) H.l_.Up,.d (kL ki) H.labels_,.v 390160],.row 390160 221 (kF vIf221) H.pile_]) (out':=.d (tup [])) [(70000,70000),(70004,3505003)] [(70004,390160)] [0,1] [] [0,1] u (bC.ok ne) b195 (oE1 tm (oE1 tm oE0)) u u u u u u u u) (s2 u u)<|.nil)<|pBlkN<|pSub (Γ':=[(0,.p 70000 0),(13,.d ((kL ki).sig a1)),(14,.d (ki.sig (a1.length:Int))),(15,.d (ki.sig a))]) (sb u)<|pRen 390160 3505003 u<|pJ4 _ _ _ _ (so h) (sb u) u
     ·refine wCF c.1 tm (s1 u)<|rx (c2<|.nil)<|pSeq ?_
      obtain⟨I,h⟩|⟨I,h⟩:=ik h
      ·refine wCT I.1 tm (s1 u) ?_
       obtain⟨J,ng,h⟩:=bd h
       exact rx (c3<|cp (oMkI (view:=vIf221) (x0:=If221.c218 (decide (Z=1))) u cb218 tm) (s1 u)<|cm (oCallS (rest:=[]) (R':=[.box 70000 225 [.d (kL kS) J.l_.Names,.d (kL (kI .u32)) J.l_.Up,.d (kL ki) J.labels_,.v 390160],.row 390160 221 (kF vIf221) J.pile_]) (out':=.d (tup [])) [(70000,70000),(70004,3505003)] [(70004,390160)] [0,1] [] [0,1] u (bC.ok ng) b195 (oE1 tm (oE1 tm oE0)) u u u u u u u u) (s2 u u)<|.nil)<|pBlkN<|pSub (Γ':=[(0,.p 70000 0),(13,.d ((kL ki).sig a1)),(14,.d (ki.sig (a1.length:Int))),(15,.d (ki.sig a))]) (sb u)<|pRen 390160 3505003 u<|pJ4 _ _ _ _ (so h) (sb u) u
      ·refine wCF I.1 tm (s1 u)<|wSeq<|rx (c2<|.nil)<|pSeq ?_
       obtain⟨K,h⟩|⟨K,h⟩:=ik h
       ·refine wCT K.1 tm (s1 u)<|wSeq ?_
        obtain⟨og,nh,h⟩:=bd h
        refine rx (c3<|cr (oLdP (n:=0) (k:=0) (m:=2) (d:=(kR aA)) (u:=(⟨s,t⟩:aq)) pt25 u u u t25 tm) (s1 u)<|cC (cx.ok nh)<|c4<|c1<|.nil)<|pSeq ?_
        obtain⟨L,ni,h⟩:=bd h
        exact rx (c2<|cp (oMkI (view:=vIf221) (x0:=If221.c227 og.1) u cb227 tm) (s1 u)<|cm (oCallS (rest:=[]) (R':=[.box 70000 225 [.d (kL kS) L.l_.Names,.d (kL (kI .u32)) L.l_.Up,.d (kL ki) L.labels_,.v 420120],.row 420120 221 (kF vIf221) L.pile_]) (out':=.d (tup [])) [(70000,70000),(70004,3505003)] [(70004,420120)] [0,1] [] [0,1] u (bC.ok ni) b195 (oE1 tm (oE1 tm oE0)) u u u u u u u u) (s2 u u)<|.nil)<|pBlkN<|pSub (Γ':=[(0,.p 70000 0),(13,.d ((kL ki).sig a1)),(14,.d (ki.sig (a1.length:Int))),(15,.d (ki.sig a))]) (sb u)<|pRen 420120 3505003 u<|pJ4 _ _ _ _ (so h) (sb u) u
       ·refine wCF K.1 tm (s1 u)<|wSeq<|rx (c2<|.nil)<|pSeq ?_
        obtain⟨M,h⟩|⟨M,h⟩:=ik h
        ·refine wCT M.1 tm (s1 u)<|wSeq ?_
         obtain⟨oh,nj,h⟩:=bd h
         refine rx (c3<|cr (oLdP (n:=0) (k:=0) (m:=2) (d:=(kR aA)) (u:=(⟨s,t⟩:aq)) pt25 u u u t25 tm) (s1 u)<|cC (dg.ok nj)<|c4<|c1<|.nil)<|pSeq ?_
         obtain⟨N,nk,h⟩:=bd h
         exact rx (c2<|cp (oMkI (view:=vIf221) (x0:=If221.c227 oh.1) u cb227 tm) (s1 u)<|cm (oCallS (rest:=[]) (R':=[.box 70000 225 [.d (kL kS) N.l_.Names,.d (kL (kI .u32)) N.l_.Up,.d (kL ki) N.labels_,.v 450120],.row 450120 221 (kF vIf221) N.pile_]) (out':=.d (tup [])) [(70000,70000),(70004,3505003)] [(70004,450120)] [0,1] [] [0,1] u (bC.ok nk) b195 (oE1 tm (oE1 tm oE0)) u u u u u u u u) (s2 u u)<|.nil)<|pBlkN<|pSub (Γ':=[(0,.p 70000 0),(13,.d ((kL ki).sig a1)),(14,.d (ki.sig (a1.length:Int))),(15,.d (ki.sig a))]) (sb u)<|pRen 450120 3505003 u<|pJ4 _ _ _ _ (so h) (sb u) u
        ·refine wCF M.1 tm (s1 u)<|wSeq<|wSeq<|rx (c2<|.nil)<|pSeq ?_
         obtain⟨e,h⟩|⟨e,h⟩:=ik h
         ·refine wCT e.1 tm (s1 u)<|wSkip<|pSeq<|wCT e.1 tm (s1 u) ?_
          obtain⟨oj,np,h⟩:=bd h
          obtain⟨O,nq,h⟩:=bd h
          exact rx (c4<|cr (oLdB (n:=0) (k:=2) u u u t56 tm) (s1 u)<|c2<|cp (oIdx u56 z3 np tm tm) (s2 u u)<|c1<|cp (oMkI (view:=vIf221) (x0:=If221.c227 oj) u cb227 tm) (s1 u)<|cm (oCallS (rest:=[]) (R':=[.box 70000 225 [.d (kL kS) O.l_.Names,.d (kL (kI .u32)) O.l_.Up,.d (kL ki) O.labels_,.v 500400],.row 500400 221 (kF vIf221) O.pile_]) (out':=.d (tup [])) [(70000,70000),(70004,3505003)] [(70004,500400)] [0,1] [] [0,1] u (bC.ok nq) b195 (oE1 tm (oE1 tm oE0)) u u u u u u u u) (s2 u u)<|.nil)<|pBlkN<|pSub (Γ':=[(0,.p 70000 0),(13,.d ((kL ki).sig a1)),(14,.d (ki.sig (a1.length:Int))),(15,.d (ki.sig a))]) (sb u)<|pRen 500400 3505003 u<|pJ4 _ _ _ _ (so h) (sb u) u
         ·refine wCF e.1 tm (s1 u)<|wSeq<|rx (c2<|.nil)<|pSeq ?_
          obtain⟨g,h⟩|⟨g,h⟩:=ik h
          ·refine wCT g.1 tm (s1 u)<|wSkip<|pSeq<|wCT g.1 tm (s1 u) ?_
           obtain⟨ol,nr,h⟩:=bd h
           obtain⟨P,nu,h⟩:=bd h
           exact rx (c4<|cr (oLdB (n:=0) (k:=2) u u u t56 tm) (s1 u)<|c2<|cp (oIdx u56 z3 nr tm tm) (s2 u u)<|c1<|cp (oMkI (view:=vIf221) (x0:=If221.c227 ol) u cb227 tm) (s1 u)<|cm (oCallS (rest:=[]) (R':=[.box 70000 225 [.d (kL kS) P.l_.Names,.d (kL (kI .u32)) P.l_.Up,.d (kL ki) P.labels_,.v 500400],.row 500400 221 (kF vIf221) P.pile_]) (out':=.d (tup [])) [(70000,70000),(70004,3505003)] [(70004,500400)] [0,1] [] [0,1] u (bC.ok nu) b195 (oE1 tm (oE1 tm oE0)) u u u u u u u u) (s2 u u)<|.nil)<|pBlkN<|pSub (Γ':=[(0,.p 70000 0),(13,.d ((kL ki).sig a1)),(14,.d (ki.sig (a1.length:Int))),(15,.d (ki.sig a))]) (sb u)<|pRen 500400 3505003 u<|pJ4 _ _ _ _ (so h) (sb u) u
          ·refine wCF g.1 tm (s1 u)<|wSeq<|rx (c2<|.nil)<|pSeq ?_
           obtain⟨i,h⟩|⟨i,h⟩:=ik h
           ·refine wCT i.1 tm (s1 u)<|wSkip<|pSeq<|wCT i.1 tm (s1 u) ?_
            obtain⟨om,nv,h⟩:=bd h
            obtain⟨Q,nw,h⟩:=bd h
            exact rx (c4<|cr (oLdB (n:=0) (k:=2) u u u t56 tm) (s1 u)<|c2<|cp (oIdx u56 z3 nv tm tm) (s2 u u)<|c1<|cp (oMkI (view:=vIf221) (x0:=If221.c227 om) u cb227 tm) (s1 u)<|cm (oCallS (rest:=[]) (R':=[.box 70000 225 [.d (kL kS) Q.l_.Names,.d (kL (kI .u32)) Q.l_.Up,.d (kL ki) Q.labels_,.v 500400],.row 500400 221 (kF vIf221) Q.pile_]) (out':=.d (tup [])) [(70000,70000),(70004,3505003)] [(70004,500400)] [0,1] [] [0,1] u (bC.ok nw) b195 (oE1 tm (oE1 tm oE0)) u u u u u u u u) (s2 u u)<|.nil)<|pBlkN<|pSub (Γ':=[(0,.p 70000 0),(13,.d ((kL ki).sig a1)),(14,.d (ki.sig (a1.length:Int))),(15,.d (ki.sig a))]) (sb u)<|pRen 500400 3505003 u<|pJ4 _ _ _ _ (so h) (sb u) u
           ·refine wCF i.1 tm (s1 u)<|rx (c2<|.nil)<|pSeq ?_
            obtain⟨R,h⟩|⟨R,h⟩:=ik h
            ·refine wCT R.1 tm (s1 u) ?_
             obtain⟨oo,nx,h⟩:=bd h
             obtain⟨S,ny,h⟩:=bd h
             exact rx (c4<|cr (oLdB (n:=0) (k:=2) u u u t56 tm) (s1 u)<|c2<|cp (oIdx u56 z3 nx tm tm) (s2 u u)<|c1<|cp (oMkI (view:=vIf221) (x0:=If221.c227 oo) u cb227 tm) (s1 u)<|cm (oCallS (rest:=[]) (R':=[.box 70000 225 [.d (kL kS) S.l_.Names,.d (kL (kI .u32)) S.l_.Up,.d (kL ki) S.labels_,.v 500400],.row 500400 221 (kF vIf221) S.pile_]) (out':=.d (tup [])) [(70000,70000),(70004,3505003)] [(70004,500400)] [0,1] [] [0,1] u (bC.ok ny) b195 (oE1 tm (oE1 tm oE0)) u u u u u u u u) (s2 u u)<|.nil)<|pBlkN<|pSub (Γ':=[(0,.p 70000 0),(13,.d ((kL ki).sig a1)),(14,.d (ki.sig (a1.length:Int))),(15,.d (ki.sig a))]) (sb u)<|pRen 500400 3505003 u<|pJ4 _ _ _ _ (so h) (sb u) u
            ·refine wCF R.1 tm (s1 u)<|wSeq ?_
             obtain⟨b,nz,h⟩:=bd h
             refine rx (c1<|cm (oCallS (rest:=[]) (R':=[.box 70000 225 [.d (kL kS) b.1.l_.Names,.d (kL (kI .u32)) b.1.l_.Up,.d (kL ki) b.1.labels_,.v 350040],.row 350040 221 (kF vIf221) b.1.pile_]) (out':=.d (tup [(kF vIf221).sig b.2.1,(kF vIf221).sig b.2.2])) [(70000,70000),(70004,3505003)] [(70004,350040)] [0,1] [] [0,1] u (dM.ok nz) b196 (oE1 tm oE0) u u u u u u u u) (s1 u)<|c4<|c1<|.nil)<|pSeq ?_
             obtain⟨F,oa,h⟩:=bd h
             obtain⟨T,od,h⟩:=bd h
             exact rx (c4<|c1<|cm (oCallS (rest:=[]) (R':=[.box 70000 225 [.d (kL kS) F.1.l_.Names,.d (kL (kI .u32)) F.1.l_.Up,.d (kL ki) F.1.labels_,.v 360200],.row 360200 221 (kF vIf221) F.1.pile_]) (out':=.d ((kF vIf221).sig F.2)) [(70000,70000),(70004,350040)] [(70004,360200)] [0,1] [] [0,1] u (cY.ok oa) b197 (oE1 tm (oE1 tm (oE1 tm (oE1 tm oE0)))) u u u u u u u u) ⟨u,u,u,u,tv⟩<|cm (oCallS (rest:=[]) (R':=[.box 70000 225 [.d (kL kS) T.l_.Names,.d (kL (kI .u32)) T.l_.Up,.d (kL ki) T.labels_,.v 360240],.row 360240 221 (kF vIf221) T.pile_]) (out':=.d (tup [])) [(70000,70000),(70004,360200)] [(70004,360240)] [0,1] [] [0,1] u (bC.ok od) b195 (oE1 tm (oE1 tm oE0)) u u u u u u u u) (s2 u u)<|.nil)<|pBlkN<|pSub (Γ':=[(0,.p 70000 0),(13,.d ((kL ki).sig a1)),(14,.d (ki.sig (a1.length:Int))),(15,.d (ki.sig a))]) (sb u)<|pRen 360240 3505003 u<|pJ4 _ _ _ _ (so h) (sb u) u
    ·rintro B C D E rfl
     replace h:=ov
     exact pBlkN<|pJ4 _ _ _ _ (so h) (sb u) u
   ·rintro w y z A rfl
    replace h:=ou
    exact rx (c2<|.nil)<|pLoop (lW (ih _ _ _ _ _ h) ⟨u,u,u,u,tv⟩ u)
  ·exact wCF G.1 tm (s1 u)<|wExit<|pThenX<|pThenX<|pBlkX<|pJ4 _ _ _ _ (so h) (sb u) u
 ·rintro j l o q rfl
  replace h:=ot
  refine pSeq<|wSeq ?_
  obtain⟨oq,W,h⟩:=bd h
  refine rx (c3<|cr (oLdN (n:=0) (k:=3) u u u t223 tm) (s1 u)<|cr (oIdxR (n:=1) u223 z221 u W tm (cI (by decide))) (s1 u)<|cr (oLdE (n:=1) u W u t221 tm) (s1 u)<|c1<|.nil)<|pSeq<|wRet ?_
  obtain rfl:=so h
  exact pSub (Γ':=[(4,.d ((kF vIf221).sig oq))]) (sb u)<|pRen 3505003 70004 u<|pS1 [0,1] u u (.inl u) u (.tmp u<|.nil)
theorem dG.ok{a:aq} {a1:List Int} {a2:List Int} {r:Bool×Int}(h:dG.f a a1 a2=some r):FnA PP 158 [(kR aA).sig a,(kL ki).sig a1,(kL ki).sig a2] (tup [kB.sig r.1,ki.sig r.2]):=by
 refine fnIntro Tryz.func158 u (by kernel_rfl) fun H0 w0=>?_
 unfold dG.f at h
 refine wSeq<|rx (c3<|.nil)<|pSeq<|wSeq<|wSeq ?_
 obtain⟨l,i,h⟩:=bd h
 refine rx (c3<|cC (ef.ok i)<|c1<|.nil)<|pSeq<|wSeq<|rx (c2<|.nil)<|pSeq ?_
 obtain⟨b,h⟩|⟨b,h⟩:=ik h
 ·refine wNT b.1 tm (s1 u)<|wSkip<|pSeq<|wSeq ?_
  obtain⟨g,j,h⟩:=bd h
  refine rx (c2<|cp (oBuild (fs:=dX) (u:=⟨a,a2,[]⟩) u ze225 pl225 po225_2 (.op (zc:=[(.slice none 0 0),(.slice none 0 0)]) tm u (.op (zc:=[(.slice none 0 0)]) tm u (.ze (zc:=[(.slice none 0 0)]) zN .nil)))) (s2 u u)<|cm (okNil (n:=0) (k:=3) (id:=6103) (kF vIf221) 221 ((Ok.toL (oBoxP (id:=22) (d:=(kR dX)) (ls:=[.d (kL kS) a.Names,.d (kL (kI .u32)) a.Up,.d (kL ki) a2,.d (kN If221) []]) (lfS (lfC (lfS (lfC lf1 (lfC lf1 lfN))) (lfC lf1 (lfC lf1 lfN)))) u tm) (fun c e=>by cases e))) u u u) (s1 u)<|c1<|cm (oCallS (rest:=[]) (R':=[.row 340200 221 (kF vIf221) g.1.pile_,.box 22 225 [.d (kL kS) g.1.l_.Names,.d (kL (kI .u32)) g.1.l_.Up,.d (kL ki) g.1.labels_,.v 340200]]) (out':=.d ((kF vIf221).sig g.2)) [(70000,22),(70004,6103)] [(70004,340200)] [1,0] [] [1,0] u (bm.ok j) b183 (oE1 tm (oE1 tm oE0)) u u u u u u u u) (s2 u u)<|cp (oTA gR cb218 zv218 zvB tm) (s1 u)<|c4<|c1<|.nil)<|pSeq<|wSeq<|rx (c3<|.nil)<|pSeq<|wRet ?_
  obtain rfl:=so h
  exact pRn (.inl u) u u (.tmp u<|.tmp u<|.nil)
 ·refine wNF b.1 tm (s1 u)<|wSeq<|rx (c3<|.nil)<|pSeq<|wRet<|pThenR ?_
  obtain rfl:=so h
  exact pRn (.inl u) u u (.tmp u<|.tmp u<|.nil)
theorem cX.ok{a:aq} {a1:List Int} {a2:List Int} {r:Int×Int}(h:cX.f a a1 a2=some r):FnA PP 159 [(kR aA).sig a,(kL ki).sig a1,(kL ki).sig a2] (tup [ki.sig r.1,ki.sig r.2]):=by
 refine fnIntro Tryz.func159 u (by kernel_rfl) fun H0 w0=>?_
 unfold cX.f at h
 refine wSeq<|rx (c3<|.nil)<|pSeq<|wSeq<|wSeq ?_
 obtain⟨l,i,h⟩:=bd h
 refine rx (c3<|cC (ef.ok i)<|c1<|.nil)<|pSeq<|wSeq<|rx (c2<|.nil)<|pSeq ?_
 obtain⟨b,h⟩|⟨b,h⟩:=ik h
 ·refine wNT b.1 tm (s1 u)<|wSkip<|pSeq<|wSeq ?_
  obtain⟨g,j,h⟩:=bd h
  refine rx (c2<|cp (oBuild (fs:=dX) (u:=⟨a,a2,[]⟩) u ze225 pl225 po225_2 (.op (zc:=[(.slice none 0 0),(.slice none 0 0)]) tm u (.op (zc:=[(.slice none 0 0)]) tm u (.ze (zc:=[(.slice none 0 0)]) zN .nil)))) (s2 u u)<|cm (okNil (n:=0) (k:=3) (id:=6103) (kF vIf221) 221 ((Ok.toL (oBoxP (id:=22) (d:=(kR dX)) (ls:=[.d (kL kS) a.Names,.d (kL (kI .u32)) a.Up,.d (kL ki) a2,.d (kN If221) []]) (lfS (lfC (lfS (lfC lf1 (lfC lf1 lfN))) (lfC lf1 (lfC lf1 lfN)))) u tm) (fun c e=>by cases e))) u u u) (s1 u)<|c1<|cm (oCallS (rest:=[]) (R':=[.row 340200 221 (kF vIf221) g.1.pile_,.box 22 225 [.d (kL kS) g.1.l_.Names,.d (kL (kI .u32)) g.1.l_.Up,.d (kL ki) g.1.labels_,.v 340200]]) (out':=.d ((kF vIf221).sig g.2)) [(70000,22),(70004,6103)] [(70004,340200)] [1,0] [] [1,0] u (bm.ok j) b183 (oE1 tm (oE1 tm oE0)) u u u u u u u u) (s2 u u)<|cp (oTA gS cb227 zv227 (zvI (by decide)) tm) (s1 u)<|c4<|c1<|.nil)<|pSeq<|wSeq<|rx (c3<|.nil)<|pSeq<|wRet ?_
  obtain rfl:=so h
  exact pRn (.inl u) u u (.tmp u<|.tmp u<|.nil)
 ·refine wNF b.1 tm (s1 u)<|wSeq<|rx (c3<|.nil)<|pSeq<|wRet<|pThenR ?_
  obtain rfl:=so h
  exact pRn (.inl u) u u (.tmp u<|.tmp u<|.nil)
theorem b9.ok{a:al} {a1:Int} {a2:Int} {r:al}(h:b9.f a a1 a2=some r):FnS PP 185 [.p 70000 0,.d (ki.sig a1),.d (ki.sig a2)] [.box 70000 204 [.d (kL kS) a.l_.Names,.d (kL (kI .u32)) a.l_.Up,.d ki a.s_.Pc.V,.d ki a.s_.Pc.L,.d (kL (kR aw)) a.s_.Code,.d (kL (kR am)) a.s_.Mem,.v 70007,.d (kL (kR am)) a.s_.Out,.d ki a.x_.Op,.d ki a.x_.N,.d ki a.x_.L,.d kB a.a_.Ret,.d ki a.a_.V,.d ki a.a_.L,.d kB a.b_.Ret,.d ki a.b_.V,.d ki a.b_.L,.d kB a.r_.Ret,.d ki a.r_.V,.d ki a.r_.L,.d ki a.below_,.d ki a.one_.x0_,.d ki a.one_.x1_,.d ki a.one_.x2_],.row 70007 88 (kR au) a.s_.Stack] [70000] (.d (tup [])) [.box 70000 204 [.d (kL kS) r.l_.Names,.d (kL (kI .u32)) r.l_.Up,.d ki r.s_.Pc.V,.d ki r.s_.Pc.L,.d (kL (kR aw)) r.s_.Code,.d (kL (kR am)) r.s_.Mem,.v 70007,.d (kL (kR am)) r.s_.Out,.d ki r.x_.Op,.d ki r.x_.N,.d ki r.x_.L,.d kB r.a_.Ret,.d ki r.a_.V,.d ki r.a_.L,.d kB r.b_.Ret,.d ki r.b_.V,.d ki r.b_.L,.d kB r.r_.Ret,.d ki r.r_.V,.d ki r.r_.L,.d ki r.below_,.d ki r.one_.x0_,.d ki r.one_.x1_,.d ki r.one_.x2_],.row 70007 88 (kR au) r.s_.Stack]:=by
 refine fnIntroS Tryz.func185 u (by kernel_rfl) fun X H0 w0 pv=>?_
 unfold b9.f at h
 obtain⟨b,h⟩:=ib h
 refine rx (c4<|c1<|cr (oLdN (n:=0) (k:=6) u u u t33 tm) (s1 u)<|c2<|cp (oBuild (fs:=au) (u:=⟨false,a1,a2⟩) u ze88 pl88 po88 (.ze (zc:=[(.bool false)]) zB (.op (zc:=[(.int .i64 0)]) tm u (.op (zc:=[(.int .i64 0)]) tm u .nil)))) (s2 u u)<|cp (oLit (d:=(kR au)) el33 (by decide) u u u (e1 tm e0)) (s1 u)<|cw (oApp (n:=1) (id':=16) el33 (by decide) u (by decide) b tm tm) (s2 u u)<|c3<|cwn (oStN (n:=0) (m:=1) (k:=6) u u u u z33 u tm tm) (s2 u u)<|.nil) ?_
 obtain rfl:=so h
 exact pSub (Γ':=[]) tv<|pRen 16 70007 u<|pSn [0,1] u u (.inr u) u u (.nil)
theorem ce.ok{a1:Int} {r:(List av)}(h:ce.f a1=some r):FnS PP 198 [.d (sV (.slice none 0 0)),.d (ki.sig a1)] [] [] (.v 80000) [.row 80000 88 (kR au) r]:=by
 refine fnIntroS Tryz.func198 u (by kernel_rfl) fun X H0 w0 pv=>?_
 unfold ce.f at h
 refine wSeq<|rx (cp (oAs cV) tv<|.nil)<|pSeq<|wSeq<|wSeq<|rx (c2<|.nil)<|pSeq ?_
 obtain⟨a,h⟩|⟨a,h⟩:=ik h
 ·refine wCT a.1 tm (s1 u) ?_
  cases h
 ·refine wCF a.1 tm (s1 u)<|wSkip<|pSeq<|wSeq<|wSeq<|rx (c2<|cp (oCapN u33 tm) (s1 u)<|c1<|cp (oLenL u33 (tmN (d:=(kR au)))) (s1 u)<|c3<|.nil)<|pSeq<|wSeq<|rx (c2<|.nil)<|pSeq ?_
  obtain⟨b,h⟩|⟨b,h⟩:=ik h
  ·refine wCT b.1 tm (s1 u) ?_
   obtain⟨c,h⟩:=ib h
   obtain⟨e,h⟩:=ib h
   refine rx (c2<|cp (oCapN u33 tm) (s1 u)<|cp (oCutN u33 z88 u tm tm) (s2 u u)<|c1<|cw (oAppZ (id:=22) (d:=(kR au)) el33 u3 (by decide) (by decide) ze88 fY c.1 c.2 tm tm) (s2 u u)<|c1<|cp (oLenL u33 (tmN (d:=(kR au)))) (s1 u)<|cw (oCutR (n:=0) (id':=25) u33 z88 u e.1 e.2 tm tm) (s2 u u)<|c1<|.nil)<|pSeq<|wSeq<|rx (c2<|.nil)<|pSeq<|wRet ?_
   obtain rfl:=so h
   exact pSub (Γ':=[(4,.v 25)]) (sb u)<|pRen 25 80000 u<|pSv [0] u u (.inl u) u u
  ·refine wCF b.1 tm (s1 u)<|wSkip<|pSeq<|wSeq<|rx (c2<|.nil)<|pSeq<|wNil (kR au) 88 9004 4 u u<|wRet ?_
   obtain rfl:=so h
   exact pSub (Γ':=[(4,.v 9004)]) (sb u)<|pRen 9004 80000 u<|pSv [0] u u (.inl u) u u
theorem aI.ok{a:List (List av)} {r:List av}(h:aI.f a=some r):FnA PP 186 [(kL (kL (kR au))).sig a] ((kL (kR au)).sig r):=by
 refine fnIntro Tryz.func186 u (by kernel_rfl) fun H0 w0=>?_
 unfold aI.f at h
 refine wSeq<|rx (cp (oAs cV) tv<|.nil)<|pSeq<|wSeq<|rx (c1<|.nil)<|pSeq<|wSeq<|wSeq<|rx (c3<|.nil)<|pSeq ?_
 obtain⟨m,h,o⟩:=bd h
 refine wK1 (fun b=>b=m) (fun b=>[(0,.d ((kL (kL (kR au))).sig a)),(3,.d (ki.sig b))]) (fun b=>[]) ?_ ?_
 ·refine wBlock (wLoop ?_)
  refine lW (pc2 m (fun k p=>[(0,.d ((kL (kL (kR au))).sig a)),(3,.d (ki.sig p)),(9,.d ((kL (kL (kR au))).sig a)),(10,.d (ki.sig (a.length:Int))),(11,.d (ki.sig k))]) (fun k p=>[]) (aI.l0.partial_correctness a) ?_ _ _ h) ⟨u,u,u,u,u,tv⟩ u
  clear h
  intro f' ih k p h
  refine wSeq<|rx (c1<|.nil)<|pSeq<|wSeq ?_
  obtain⟨g,h⟩|⟨g,h⟩:=ik h
  ·refine wCT g.1 tm (s1 u)<|wSkip<|pSeq ?_
   obtain⟨A,h,y⟩:=bd h
   refine wJ1 (fun c=>c=A) (fun c=>[(0,.d ((kL (kL (kR au))).sig a)),(3,.d (ki.sig c)),(9,.d ((kL (kL (kR au))).sig a)),(10,.d (ki.sig (a.length:Int))),(11,.d (ki.sig k))]) (fun c=>[]) ?_ ?_
   ·refine wBlock<|wSeq ?_
    obtain⟨B,s,h⟩:=bd h
    refine rx (cp (oIdx u147 z33 s tm tm) (s2 u u)<|c2<|.nil)<|pSeq<|wSeq<|rx (c4<|c1<|.nil)<|pSeq<|wSeq<|rx (c2<|.nil)<|pSeq ?_
    obtain⟨i,h⟩|⟨i,h⟩:=ik h
    ·refine wCT i.1 tm (s1 u) ?_
     cases h
    ·exact wCF i.1 tm (s1 u)<|wSkip<|pBlkN<|pJ1 _ (so h) (sb u) u
   ·rintro c rfl
    replace h:=y
    exact rx (c2<|.nil)<|pLoop (lW (ih _ _ h) ⟨u,u,u,u,u,tv⟩ u)
  ·exact wCF g.1 tm (s1 u)<|wExit<|pThenX<|pThenX<|pBlkX<|pJ1 _ (so h) (sb u) u
 ·rintro b rfl
  replace h:=o
  refine pSeq<|wSeq ?_
  obtain⟨z,t,h⟩:=bd h
  refine rx (c1<|cm (oCallS (rest:=[]) (R':=[.row 390040 88 (kR au) z]) (out':=.v 390040) [] [(80000,390040)] [] [] [0] u (ce.ok t) b198 (oE1 cV (oE1 tm oE0)) u u u u u u u u) (s1 u)<|c1<|.nil)<|pSeq<|wSeq<|wSeq<|rx (c3<|.nil)<|pSeq<|wWeak (Γ':=[(6,.v 390040),(25,.d ((kL (kL (kR au))).sig a)),(26,.d (ki.sig (a.length:Int))),(27,.d (ki.sig 0))]) (sb u)<|wRen 390040 1006 u ?_
  obtain⟨m,h,o⟩:=bd h
  refine wK1 (fun e=>e=m) (fun e=>[(6,.v 1006)]) (fun e=>[.row 1006 88 (kR au) e]) ?_ ?_
  ·refine wBlock (wLoop ?_)
   refine lW (pc2 m (fun q l=>[(6,.v 1006),(25,.d ((kL (kL (kR au))).sig a)),(26,.d (ki.sig (a.length:Int))),(27,.d (ki.sig l))]) (fun q l=>[.row 1006 88 (kR au) q]) (aI.l1.partial_correctness a) ?_ _ _ h) ⟨u,u,u,u,tv⟩ u
   clear h
   intro f' ih q l h
   refine wSeq<|rx (c1<|.nil)<|pSeq<|wSeq ?_
   obtain⟨j,h⟩|⟨j,h⟩:=ik h
   ·refine wCT j.1 tm (s1 u)<|wSkip<|pSeq<|wSeq<|wBlock<|wSeq ?_
    obtain⟨C,w,h⟩:=bd h
    refine rx (cp (oIdx u147 z33 w tm tm) (s2 u u)<|c2<|.nil)<|pSeq ?_
    obtain⟨x,h⟩:=ib h
    exact rx (c2<|cw (oApp (n:=0) (id':=33) el33 (by decide) u (by decide) x tm tm) (s2 u u)<|c1<|.nil)<|pBlkN<|pSeq<|rx (c2<|.nil)<|pSub (Γ':=[(6,.v 33),(25,.d ((kL (kL (kR au))).sig a)),(26,.d (ki.sig (a.length:Int))),(27,.d (ki.sig (IntKind.i64.wrap (l+1))))]) (sb u)<|pRen 33 1006 u<|pLoop (lW (ih _ _ h) ⟨u,u,u,u,tv⟩ u)
   ·exact wCF j.1 tm (s1 u)<|wExit<|pThenX<|pThenX<|pBlkX<|pJ1 _ (so h) (sb u) u
  ·rintro e rfl
   replace h:=o
   refine pSeq<|wSeq<|rx (c2<|.nil)<|pSeq<|wFrzR (n:=0) (id:=1006) [2] u u ⟨u,tv⟩<|wRet ?_
   obtain rfl:=so h
   exact pR1 (.inl u) u (.tmp u<|.nil)
theorem bD.okN{a:List av} {r:(List av)}(h:bD.f a=some r):FnS PP 184 [.d (sNN (kR au) a)] [] [] (.v 80000) [.row 80000 88 (kR au) r]:=by
 refine fnIntroS Tryz.func184 u (by kernel_rfl) fun X H0 w0 pv=>?_
 unfold bD.f at h
 refine wSeq<|rx (cp (oAs cV) tv<|.nil)<|pSeq<|wSeq<|wSeq<|rx (c1<|cp (oEqNF (d:=(kR au)) u33 tm cV) (s1 u)<|.nil)<|pSeq<|wCondF tm (s1 u)<|wSkip<|pSeq<|wSeq ?_
 obtain⟨b,h⟩:=ib h
 refine rx (cw (oLitR (id:=5) (d:=(kR au)) el33 (by decide) u u u e0) tv<|c1<|cw (oApp (n:=0) (id':=7) el33 (by decide) u (by decide) b tm tNN) (s2 u u)<|c1<|.nil)<|pSeq<|wRet ?_
 obtain rfl:=so h
 exact pSub (Γ':=[(2,.v 7)]) (sb u)<|pRen 7 80000 u<|pSv [0] u u (.inl u) u u
theorem bD.ok{a:List av} {r:(List av)}(h:bD.f a=some r):FnS PP 184 [.d ((kL (kR au)).sig a)] [] [] (.v 80000) [.row 80000 88 (kR au) r]:=
 libClone kY (by rintro rfl;have h':=h;unfold bD.f at h';split at h'<;>cases h';rfl) (bD.okN h)
theorem bi.okN{a:List az} {r:(List az)}(h:bi.f a=some r):FnS PP 95 [.d (sNN (kR am) a)] [] [] (.v 80000) [.row 80000 30 (kR am) r]:=by
 refine fnIntroS Tryz.func95 u (by kernel_rfl) fun X H0 w0 pv=>?_
 unfold bi.f at h
 refine wSeq<|rx (cp (oAs cV) tv<|.nil)<|pSeq<|wSeq<|wSeq<|rx (c1<|cp (oEqNF (d:=(kR am)) u32 tm cV) (s1 u)<|.nil)<|pSeq<|wCondF tm (s1 u)<|wSkip<|pSeq<|wSeq ?_
 obtain⟨b,h⟩:=ib h
 refine rx (cw (oLitR (id:=5) (d:=(kR am)) el32 (by decide) u u u e0) tv<|c1<|cw (oApp (n:=0) (id':=7) el32 (by decide) u (by decide) b tm tNN) (s2 u u)<|c1<|.nil)<|pSeq<|wRet ?_
 obtain rfl:=so h
 exact pSub (Γ':=[(2,.v 7)]) (sb u)<|pRen 7 80000 u<|pSv [0] u u (.inl u) u u
theorem bi.ok{a:List az} {r:(List az)}(h:bi.f a=some r):FnS PP 95 [.d ((kL (kR am)).sig a)] [] [] (.v 80000) [.row 80000 30 (kR am) r]:=
 libClone lT (by rintro rfl;have h':=h;unfold bi.f at h';split at h'<;>cases h';rfl) (bi.okN h)
theorem da.ok{a:al} {a1:Int} {r:al}(h:da.f a a1=some r):FnS PP 160 [.p 70000 0,.d (ki.sig a1)] [.box 70000 204 (L204 a)] [70000] (.d (tup [])) [.box 70000 204 (L204 r)]:=by
 refine fnIntroS Tryz.func160 u (by kernel_rfl) fun X H0 w0 pv=>?_
 unfold da.f at h
 refine wSeq<|rx (c4<|cr (oLdK (n:=0) (k:=6) u u (by kernel_rfl) t33 tm) (s1 u)<|c1<|.nil)<|pSeq<|wSeq ?_
 obtain⟨I,h⟩:=ib h
 obtain⟨F,Y,h⟩:=bd h
 refine rx (c4<|c1<|cr (oLdK (n:=0) (k:=20) u u (by kernel_rfl) t3 tm) (s1 u)<|cp (oCutHi u33 z88 I.1 I.2 tm tm) (s2 u u)<|cm (oCallS (rest:=[.box 70000 204 (L204 a)]) (R':=[.row 310280 88 (kR au) F,.box 70000 204 (L204 a)]) (out':=.v 310280) [] [(80000,310280)] [] [0] [0,1] u (bD.ok Y) b184 (oE1 tm oE0) u u u u u u u u) (s1 u)<|c3<|cwn (oStN (n:=1) (m:=0) (k:=6) u u u u z33 u tm tm) (s2 u u)<|.nil)<|pSeq<|wSeq<|rx (c4<|c1<|cr (oLdK (n:=1) (k:=2) u u (by kernel_rfl) t3 tm) (s1 u)<|c2<|.nil)<|pSeq<|wSeq<|wSeq<|rx (c4<|cr (oLdK (n:=1) (k:=8) u u (by kernel_rfl) t3 tm) (s1 u)<|.nil)<|pSeq<|wWeak (Γ':=[(0,.p 70000 0),(1,.d (ki.sig a1)),(4,.d ((kL (kR au)).sig a.s_.Stack)),(5,.d (ki.sig (IntKind.i64.wrap (a.s_.Pc.V+1)))),(34,.d (ki.sig a.x_.Op))]) (sb u)<|wRen 310280 3505006 u ?_
 obtain⟨o1,h,Z⟩:=bd h
 refine wK2 (fun j l=>(j,l)=o1) (fun j l=>[(0,.p 70000 0),(5,.d (ki.sig l))]) (fun j l=>[.box 70000 204 (L204 j)]) ?_ ?_
 ·refine wBlock<|wSeq<|rx (c2<|.nil)<|pSeq ?_
  obtain⟨o,h⟩|⟨o,h⟩:=ik h
  ·refine wCT o.1 tm (s1 u) ?_
   obtain⟨b,K,h⟩:=bd h
   exact rx (c4<|c1<|cr (oLdK (n:=1) (k:=9) u u (by kernel_rfl) t3 tm) (s1 u)<|c1<|cm (oCallS (rest:=[]) (R':=[.row 350280 88 (kR au) b.s_.Stack,.box 70000 204 [.d (kL kS) b.l_.Names,.d (kL (kI .u32)) b.l_.Up,.d ki b.s_.Pc.V,.d ki b.s_.Pc.L,.d (kL (kR aw)) b.s_.Code,.d (kL (kR am)) b.s_.Mem,.v 350280,.d (kL (kR am)) b.s_.Out,.d ki b.x_.Op,.d ki b.x_.N,.d ki b.x_.L,.d kB b.a_.Ret,.d ki b.a_.V,.d ki b.a_.L,.d kB b.b_.Ret,.d ki b.b_.V,.d ki b.b_.L,.d kB b.r_.Ret,.d ki b.r_.V,.d ki b.r_.L,.d ki b.below_,.d ki b.one_.x0_,.d ki b.one_.x1_,.d ki b.one_.x2_]]) (out':=.d (tup [])) [(70000,70000),(70007,3505006)] [(70007,350280)] [1,0] [] [1,0] u (b9.ok K) b185 (oE1 tm (oE1 tm (oE1 tm oE0))) u u u u u u u u) (s3 u u u)<|.nil)<|pBlkN<|pFrzR (n:=0) (id:=350280) [] u u tv<|pJ2 _ _ (so h) (sb u) u
  ·refine wCF o.1 tm (s1 u)<|wSeq<|rx (c2<|.nil)<|pSeq ?_
   obtain⟨q,h⟩|⟨q,h⟩:=ik h
   ·refine wCT q.1 tm (s1 u) ?_
    obtain⟨c,M,h⟩:=bd h
    exact rdx hm (c4<|c1<|cr (oLdK (n:=1) (k:=15) u u (by kernel_rfl) t3 tm) (s1 u)<|c4<|cr (oLdK (n:=1) (k:=12) u u (by kernel_rfl) t3 tm) (s1 u)<|c2<|cm (oCallS (rest:=[]) (R':=[.row 370520 88 (kR au) c.s_.Stack,.box 70000 204 [.d (kL kS) c.l_.Names,.d (kL (kI .u32)) c.l_.Up,.d ki c.s_.Pc.V,.d ki c.s_.Pc.L,.d (kL (kR aw)) c.s_.Code,.d (kL (kR am)) c.s_.Mem,.v 370520,.d (kL (kR am)) c.s_.Out,.d ki c.x_.Op,.d ki c.x_.N,.d ki c.x_.L,.d kB c.a_.Ret,.d ki c.a_.V,.d ki c.a_.L,.d kB c.b_.Ret,.d ki c.b_.V,.d ki c.b_.L,.d kB c.r_.Ret,.d ki c.r_.V,.d ki c.r_.L,.d ki c.below_,.d ki c.one_.x0_,.d ki c.one_.x1_,.d ki c.one_.x2_]]) (out':=.d (tup [])) [(70000,70000),(70007,3505006)] [(70007,370520)] [1,0] [] [1,0] u (b9.ok M) b185 (oE1 tm (oE1 tm (oE1 tm oE0))) u u u u u u u u) (s3 u u u)<|.nil)<|pBlkN<|pFrzR (n:=0) (id:=370520) [] u u tv<|pJ2 _ _ (so h) (sb u) u
   ·refine wCF q.1 tm (s1 u)<|wSeq<|rx (c2<|.nil)<|pSeq ?_
    obtain⟨s,h⟩|⟨s,h⟩:=ik h
    ·refine wCT s.1 tm (s1 u) ?_
     obtain⟨e,O,h⟩:=bd h
     exact rdx hm (c4<|c1<|cr (oLdK (n:=1) (k:=15) u u (by kernel_rfl) t3 tm) (s1 u)<|c4<|cr (oLdK (n:=1) (k:=12) u u (by kernel_rfl) t3 tm) (s1 u)<|c2<|cm (oCallS (rest:=[]) (R':=[.row 390520 88 (kR au) e.s_.Stack,.box 70000 204 [.d (kL kS) e.l_.Names,.d (kL (kI .u32)) e.l_.Up,.d ki e.s_.Pc.V,.d ki e.s_.Pc.L,.d (kL (kR aw)) e.s_.Code,.d (kL (kR am)) e.s_.Mem,.v 390520,.d (kL (kR am)) e.s_.Out,.d ki e.x_.Op,.d ki e.x_.N,.d ki e.x_.L,.d kB e.a_.Ret,.d ki e.a_.V,.d ki e.a_.L,.d kB e.b_.Ret,.d ki e.b_.V,.d ki e.b_.L,.d kB e.r_.Ret,.d ki e.r_.V,.d ki e.r_.L,.d ki e.below_,.d ki e.one_.x0_,.d ki e.one_.x1_,.d ki e.one_.x2_]]) (out':=.d (tup [])) [(70000,70000),(70007,3505006)] [(70007,390520)] [1,0] [] [1,0] u (b9.ok O) b185 (oE1 tm (oE1 tm (oE1 tm oE0))) u u u u u u u u) (s3 u u u)<|.nil)<|pBlkN<|pFrzR (n:=0) (id:=390520) [] u u tv<|pJ2 _ _ (so h) (sb u) u
    ·refine wCF s.1 tm (s1 u)<|wSeq<|rx (c2<|.nil)<|pSeq ?_
     obtain⟨t,h⟩|⟨t,h⟩:=ik h
     ·refine wCT t.1 tm (s1 u) ?_
      obtain⟨ne,P,h⟩:=bd h
      obtain⟨g,Q,h⟩:=bd h
      exact rdx hm (c4<|c1<|cr (oLdK (n:=1) (k:=5) u u (by kernel_rfl) t32 tm) (s1 u)<|c4<|cr (oLdK (n:=1) (k:=12) u u (by kernel_rfl) t3 tm) (s1 u)<|cp (oIdx u32 z30 P tm tm) (s2 u u)<|c3<|cm (oCallS (rest:=[]) (R':=[.row 410600 88 (kR au) g.s_.Stack,.box 70000 204 [.d (kL kS) g.l_.Names,.d (kL (kI .u32)) g.l_.Up,.d ki g.s_.Pc.V,.d ki g.s_.Pc.L,.d (kL (kR aw)) g.s_.Code,.d (kL (kR am)) g.s_.Mem,.v 410600,.d (kL (kR am)) g.s_.Out,.d ki g.x_.Op,.d ki g.x_.N,.d ki g.x_.L,.d kB g.a_.Ret,.d ki g.a_.V,.d ki g.a_.L,.d kB g.b_.Ret,.d ki g.b_.V,.d ki g.b_.L,.d kB g.r_.Ret,.d ki g.r_.V,.d ki g.r_.L,.d ki g.below_,.d ki g.one_.x0_,.d ki g.one_.x1_,.d ki g.one_.x2_]]) (out':=.d (tup [])) [(70000,70000),(70007,3505006)] [(70007,410600)] [1,0] [] [1,0] u (b9.ok Q) b185 (oE1 tm (oE1 tm (oE1 tm oE0))) u u u u u u u u) (s3 u u u)<|.nil)<|pBlkN<|pFrzR (n:=0) (id:=410600) [] u u tv<|pJ2 _ _ (so h) (sb u) u
     ·refine wCF t.1 tm (s1 u)<|wSeq<|rx (c2<|.nil)<|pSeq ?_
      obtain⟨w,h⟩|⟨w,h⟩:=ik h
      ·refine wCT w.1 tm (s1 u)<|wSeq ?_
       obtain⟨nc,R,h⟩:=bd h
       refine rx (c4<|c1<|cr (oLdK (n:=1) (k:=5) u u (by kernel_rfl) t32 tm) (s1 u)<|cm (oCallS (rest:=[.row 3505006 88 (kR au) F,.box 70000 204 [.d (kL kS) a.l_.Names,.d (kL (kI .u32)) a.l_.Up,.d ki a.s_.Pc.V,.d ki a.s_.Pc.L,.d (kL (kR aw)) a.s_.Code,.d (kL (kR am)) a.s_.Mem,.v 3505006,.d (kL (kR am)) a.s_.Out,.d ki a.x_.Op,.d ki a.x_.N,.d ki a.x_.L,.d kB a.a_.Ret,.d ki a.a_.V,.d ki a.a_.L,.d kB a.b_.Ret,.d ki a.b_.V,.d ki a.b_.L,.d kB a.r_.Ret,.d ki a.r_.V,.d ki a.r_.L,.d ki a.below_,.d ki a.one_.x0_,.d ki a.one_.x1_,.d ki a.one_.x2_]]) (R':=[.row 430240 30 (kR am) nc,.row 3505006 88 (kR au) F,.box 70000 204 [.d (kL kS) a.l_.Names,.d (kL (kI .u32)) a.l_.Up,.d ki a.s_.Pc.V,.d ki a.s_.Pc.L,.d (kL (kR aw)) a.s_.Code,.d (kL (kR am)) a.s_.Mem,.v 3505006,.d (kL (kR am)) a.s_.Out,.d ki a.x_.Op,.d ki a.x_.N,.d ki a.x_.L,.d kB a.a_.Ret,.d ki a.a_.V,.d ki a.a_.L,.d kB a.b_.Ret,.d ki a.b_.V,.d ki a.b_.L,.d kB a.r_.Ret,.d ki a.r_.V,.d ki a.r_.L,.d ki a.below_,.d ki a.one_.x0_,.d ki a.one_.x1_,.d ki a.one_.x2_]]) (out':=.v 430240) [] [(80000,430240)] [] [0,1] [0,1,2] u (bi.ok R) b95 (oE1 tm oE0) u u u u u u u u) (s1 u)<|c3<|cwn (oStN (n:=2) (m:=0) (k:=5) u u u u z32 u tm tm) (s2 u u)<|.nil)<|pSeq ?_
       obtain⟨ng,G,h⟩:=bd h
       exact rdx hm (c4<|cr (oLdN (n:=2) (k:=5) u u u t32 tm) (s1 u)<|c4<|cr (oLdK (n:=2) (k:=12) u u (by kernel_rfl) t3 tm) (s1 u)<|c4<|cr (oLdK (n:=2) (k:=15) u u (by kernel_rfl) t3 tm) (s1 u)<|c1<|cp (oBuild (fs:=am) (u:=⟨a.b_.V,a1⟩) u ze30 pl30 po30 (.op (zc:=[(.int .i64 0)]) tm u (.op (zc:=[(.int .i64 0)]) tm u .nil))) (s2 u u)<|cr (oIdxR (n:=0) u32 z30 u G tm tm) (s2 u u)<|cwn (oStE (n:=0) u G u z30 tm tm) (s2 u u)<|.nil)<|pBlkN<|pFrzR (n:=0) (id:=430240) [] u u tv<|pFrzR (n:=0) (id:=3505006) [] u u tv<|pJ2 _ _ (so h) (sb u) u
      ·refine wCF w.1 tm (s1 u)<|wSeq<|rx (c2<|.nil)<|pSeq ?_
       obtain⟨x,h⟩|⟨x,h⟩:=ik h
       ·refine wCT x.1 tm (s1 u) ?_
        obtain⟨J,S,h⟩:=bd h
        obtain⟨T,h⟩:=ib h
        exact rgL hm (c4<|c1<|cl [] u (oLdK (n:=1) (k:=7) u u (by kernel_rfl) t32 tm) (s1 u)<|cnm (oCallS (rest:=[.row 3505006 88 (kR au) F,.box 70000 204 [.d (kL kS) a.l_.Names,.d (kL (kI .u32)) a.l_.Up,.d ki a.s_.Pc.V,.d ki a.s_.Pc.L,.d (kL (kR aw)) a.s_.Code,.d (kL (kR am)) a.s_.Mem,.v 3505006,.d (kL (kR am)) a.s_.Out,.d ki a.x_.Op,.d ki a.x_.N,.d ki a.x_.L,.d kB a.a_.Ret,.d ki a.a_.V,.d ki a.a_.L,.d kB a.b_.Ret,.d ki a.b_.V,.d ki a.b_.L,.d kB a.r_.Ret,.d ki a.r_.V,.d ki a.r_.L,.d ki a.below_,.d ki a.one_.x0_,.d ki a.one_.x1_,.d ki a.one_.x2_]]) (R':=[.row 460240 30 (kR am) J,.row 3505006 88 (kR au) F,.box 70000 204 [.d (kL kS) a.l_.Names,.d (kL (kI .u32)) a.l_.Up,.d ki a.s_.Pc.V,.d ki a.s_.Pc.L,.d (kL (kR aw)) a.s_.Code,.d (kL (kR am)) a.s_.Mem,.v 3505006,.d (kL (kR am)) a.s_.Out,.d ki a.x_.Op,.d ki a.x_.N,.d ki a.x_.L,.d kB a.a_.Ret,.d ki a.a_.V,.d ki a.a_.L,.d kB a.b_.Ret,.d ki a.b_.V,.d ki a.b_.L,.d kB a.r_.Ret,.d ki a.r_.V,.d ki a.r_.L,.d ki a.below_,.d ki a.one_.x0_,.d ki a.one_.x1_,.d ki a.one_.x2_]]) (out':=.v 460240) [] [(80000,460240)] [] [0,1] [0,1,2] u (bi.ok S) b95 (oE1 tm oE0) u u u u u u u u) (s1 u)<|c4<|cl [.row 460240 30 (kR am) J] u (oLdK (n:=1) (k:=12) u u (by kernel_rfl) t3 tm) (s1 u)<|c1<|cp (oBuild (fs:=am) (u:=⟨a.a_.V,a1⟩) u ze30 pl30 po30 (.op (zc:=[(.int .i64 0)]) tm u (.op (zc:=[(.int .i64 0)]) tm u .nil))) (s2 u u)<|cp (oLit (d:=(kR am)) el32 (by decide) u u u (e1 tm e0)) (s1 u)<|cw (oApp (n:=0) (id':=142) el32 (by decide) u (by decide) T tm tm) (s2 u u)<|c3<|cwn (oStN (n:=2) (m:=0) (k:=7) u u u u z32 u tm tm) (s2 u u)<|.nil) (by kernel_rfl) (by kernel_rfl) (by kernel_rfl)<|pBlkN<|pFrzR (n:=1) (id:=3505006) [] u u tv<|pFrzR (n:=0) (id:=142) [] u u tv<|pJ2 _ _ (so h) (sb u) u
       ·refine wCF x.1 tm (s1 u)<|wSeq<|rx (c2<|.nil)<|pSeq ?_
        obtain⟨y,h⟩|⟨y,h⟩:=ik h
        ·exact wCT y.1 tm (s1 u)<|rx (c4<|cr (oLdK (n:=1) (k:=12) u u (by kernel_rfl) t3 tm) (s1 u)<|c1<|.nil)<|pBlkN<|pFrzR (n:=0) (id:=3505006) [] u u tv<|pJ2 _ _ (so h) (sb u) u
        ·refine wCF y.1 tm (s1 u)<|wSeq<|rx (c2<|.nil)<|pSeq ?_
         obtain⟨z,h⟩|⟨z,h⟩:=ik h
         ·refine wCT z.1 tm (s1 u)<|wSeq<|rx (c4<|cr (oLdK (n:=1) (k:=12) u u (by kernel_rfl) t3 tm) (s1 u)<|c1<|.nil)<|pSeq ?_
          obtain⟨A,h⟩|⟨A,h⟩:=ik h
          ·exact wNT A.1 tm (s1 u)<|wSkip<|pBlkN<|pFrzR (n:=0) (id:=3505006) [] u u tv<|pJ2 _ _ (so h) (sb u) u
          ·exact wNF A.1 tm (s1 u)<|rx (c4<|cr (oLdK (n:=1) (k:=9) u u (by kernel_rfl) t3 tm) (s1 u)<|c1<|.nil)<|pBlkN<|pFrzR (n:=0) (id:=3505006) [] u u tv<|pJ2 _ _ (so h) (sb u) u
         ·refine wCF z.1 tm (s1 u)<|wSeq<|rx (c2<|.nil)<|pSeq ?_
          obtain⟨B,h⟩|⟨B,h⟩:=ik h
          ·refine wCT B.1 tm (s1 u)<|wSeq ?_
           obtain⟨C,h⟩:=ib h
           refine rdx hm (c4<|cr (oLdK (n:=1) (k:=20) u u (by kernel_rfl) t3 tm) (s1 u)<|c4<|cr (oLdK (n:=1) (k:=9) u u (by kernel_rfl) t3 tm) (s1 u)<|c4<|cr (oLdK (n:=1) (k:=20) u u (by kernel_rfl) t3 tm) (s1 u)<|cp (oCut u33 z88 C.1 C.2.1 C.2.2 tm tm tm) (s3 u u u)<|c1<|.nil)<|pSeq<|wSeq ?_
           obtain⟨H,h⟩:=ib h
           obtain⟨nh,U,h⟩:=bd h
           exact rdx hm (c4<|c1<|cr (oLdK (n:=1) (k:=20) u u (by kernel_rfl) t3 tm) (s1 u)<|c4<|cr (oLdK (n:=1) (k:=9) u u (by kernel_rfl) t3 tm) (s1 u)<|c1<|cp (oCutHi u33 z88 H.1 H.2 tm tm) (s2 u u)<|c6<|cr (oLdK (n:=1) (k:=3) u u (by kernel_rfl) t3 tm) (s1 u)<|cp (oBuild (fs:=au) (u:=⟨true,IntKind.i64.wrap (a.s_.Pc.V+1),a.s_.Pc.L⟩) u ze88 pl88 po88 (.op (zc:=[(.bool false)]) cB u (.op (zc:=[(.int .i64 0)]) tm u (.op (zc:=[(.int .i64 0)]) tm u .nil)))) (s2 u u)<|cp (oLit (d:=(kR au)) el33 (by decide) u u u (e1 tm e0)) (s1 u)<|c1<|cp (oLit (d:=(kL (kR au))) el147 (by decide) u u u (e1 tm (e1 tm (e1 tm e0)))) (s3 u u u)<|cC (aI.ok U)<|c3<|cwn (oStK (n:=1) (k:=6) u u u (by kernel_rfl) z33 tm tm) (s2 u u)<|.nil)<|pSeq<|rx (c4<|cr (oLdK (n:=1) (k:=12) u u (by kernel_rfl) t3 tm) (s1 u)<|c1<|.nil)<|pBlkN<|pDrop (.cons _ (.cons_cons _ .slnil))<|pJ2 _ _ (so h) (sb u) u
          ·refine wCF B.1 tm (s1 u)<|wSeq<|rx (c2<|.nil)<|pSeq ?_
           obtain⟨D,h⟩|⟨D,h⟩:=ik h
           ·refine wCT D.1 tm (s1 u)<|wSeq<|wSeq<|rx (c4<|cr (oLdK (n:=1) (k:=9) u u (by kernel_rfl) t3 tm) (s1 u)<|c1<|.nil)<|pSeq ?_
            obtain⟨E,h⟩|⟨E,h⟩:=ik h
            ·refine wCT E.1 tm (s1 u) ?_
             obtain⟨i,W,h⟩:=bd h
             exact rx (c4<|c1<|cr (oLdK (n:=1) (k:=12) u u (by kernel_rfl) t3 tm) (s1 u)<|c1<|cm (oCallS (rest:=[]) (R':=[.row 580280 88 (kR au) i.s_.Stack,.box 70000 204 [.d (kL kS) i.l_.Names,.d (kL (kI .u32)) i.l_.Up,.d ki i.s_.Pc.V,.d ki i.s_.Pc.L,.d (kL (kR aw)) i.s_.Code,.d (kL (kR am)) i.s_.Mem,.v 580280,.d (kL (kR am)) i.s_.Out,.d ki i.x_.Op,.d ki i.x_.N,.d ki i.x_.L,.d kB i.a_.Ret,.d ki i.a_.V,.d ki i.a_.L,.d kB i.b_.Ret,.d ki i.b_.V,.d ki i.b_.L,.d kB i.r_.Ret,.d ki i.r_.V,.d ki i.r_.L,.d ki i.below_,.d ki i.one_.x0_,.d ki i.one_.x1_,.d ki i.one_.x2_]]) (out':=.d (tup [])) [(70000,70000),(70007,3505006)] [(70007,580280)] [1,0] [] [1,0] u (b9.ok W) b185 (oE1 tm (oE1 tm (oE1 tm oE0))) u u u u u u u u) (s3 u u u)<|.nil)<|pSeq<|rx (c4<|cr (oLdK (n:=1) (k:=18) u u (by kernel_rfl) t3 tm) (s1 u)<|c1<|.nil)<|pBlkN<|pFrzR (n:=0) (id:=580280) [] u u tv<|pJ2 _ _ (so h) (sb u) u
            ·exact wCF E.1 tm (s1 u)<|wSkip<|pSeq<|rx (c4<|cr (oLdK (n:=1) (k:=18) u u (by kernel_rfl) t3 tm) (s1 u)<|c1<|.nil)<|pBlkN<|pFrzR (n:=0) (id:=3505006) [] u u tv<|pJ2 _ _ (so h) (sb u) u
           ·exact wCF D.1 tm (s1 u)<|wSkip<|pBlkN<|pFrzR (n:=0) (id:=3505006) [] u u tv<|pJ2 _ _ (so h) (sb u) u
 ·rintro j l rfl
  replace h:=Z
  refine pSeq<|rx (c6<|cwn (oStK (n:=0) (k:=2) u u u (by kernel_rfl) z3 tm tm) (s2 u u)<|.nil) ?_
  obtain rfl:=so h
  exact pSn [0] u u (.inr u) u u (.nil)
theorem cU.ok{a:aq} {a1:bw} {a2:ah} {r:ah×Int}(h:cU.f a a1 a2=some r):FnA PP 125 [(kR aA).sig a,(kR bf).sig a1,(kR ap).sig a2] (tup [(kR ap).sig r.1,ki.sig r.2]):=by
 unfold cU.f at h
 obtain⟨z,hB,hr⟩:=bd h
 clear h
 obtain rfl:=so hr
 replace h:=hB
 refine fnDefer (Γ:=[(0,.d ((kR aA).sig a)),(1,.d ((kR bf).sig a1)),(2,.d ((kR ap).sig a2)),(3,.d (sP (kR aA) a)),(4,.d (sP (kR bf) a1)),(5,.d (sP (kR ap) a2)),(6,.p 6 0),(7,.p 7 0)]) (R:=[.box 7 3 [.d ki 0],.box 6 35 [.d ki 0,.d ki 0,.d (kL (kR aw)) [],.d (kL (kR am)) [],.d (kL (kR au)) [],.d (kL (kR am)) []]]) (n6:=1) (n7:=0) Tryz.func125 u (by kernel_rfl) (by kernel_rfl) u Tryz.func154 ((u:Tryz.f154.body=some (recX _ _ _ _ _ _ _ _ _ _ _ _ _ _ _ _ _ _ _)).trans (congrArg some (recX_eq (A:=20) (E:=199) (S:=35) (I:=3) ⟨u,u,u⟩ ⟨u,u,u⟩ ⟨u,u,u⟩ ⟨u,u,u⟩ ⟨u,u,u⟩ ⟨u,u,u⟩ ⟨u,u,u⟩ ⟨u,u,u⟩ ⟨u,u,u⟩ ⟨u,u,u⟩ ⟨u,u,u⟩))) u u u20 cb199 b154 t35 z35 t3 z3 u u u u u u (fun H0 w0 Q hpost=>?_) (fun X H0 w0 pv ds=>?_)
 ·exact rx (c3<|cw (oAlloc (id:=6) (ls:=Z35) ze35 zl35) tv<|cw (oAlloc (id:=7) (ls:=[.d ki 0]) ze3 (fun g=>⟨[(.int .i64 0)],_,u,zI_i64 g.H,u⟩)) tv<|.nil)<|pSub (Γ':=[(0,.d ((kR aA).sig a)),(1,.d ((kR bf).sig a1)),(2,.d ((kR ap).sig a2)),(3,.d (sP (kR aA) a)),(4,.d (sP (kR bf) a1)),(5,.d (sP (kR ap) a2)),(6,.p 6 0),(7,.p 7 0)]) (sb u) hpost
 ·unfold cU.B at h
  refine wSeq<|wT0<|wTk 0 7 (c6<|c1<|.nil) (by kernel_rfl) u ?_
  obtain⟨G,q,h⟩:=bd h
  rcases G with U|W
  ·refine wTx (Γp:=[(6,.p 6 0),(7,.p 7 0)]) 7 u (oCallX (rest:=[.box 7 3 [.d ki 0],.box 6 35 [.d ki 0,.d ki 0,.d (kL (kR aw)) [],.d (kL (kR am)) [],.d (kL (kR au)) [],.d (kL (kR am)) []]]) [] [] [0,1] u (bA.okP q) b155 (oE1 tm oE0) u u) u u (s1 u) ⟨u,u,tv⟩<|pThenP ?_
   obtain rfl:=so h
   exact pDpan (n6:=1) (n7:=0) u u u (by kernel_rfl) (by kernel_rfl)
  ·refine wTe 7 (cm (oCallS (rest:=[.box 7 3 [.d ki 0],.box 6 35 [.d ki 0,.d ki 0,.d (kL (kR aw)) [],.d (kL (kR am)) [],.d (kL (kR au)) [],.d (kL (kR am)) []]]) (R':=[.box 7 3 [.d ki 0],.box 6 35 [.d ki 0,.d ki 0,.d (kL (kR aw)) [],.d (kL (kR am)) [],.d (kL (kR au)) [],.d (kL (kR am)) []]]) (out':=.d (tup [])) [] [] [] [0,1] [0,1] u (bA.okR q) b155 (oE1 tm oE0) u u u u u u u u) (s1 u)<|.nil) (by kernel_rfl)<|pSeq<|wSeq ?_
   obtain⟨b,C,h⟩:=bd h
   refine rx (c1<|cC (cx.ok C)<|c4<|c1<|.nil)<|pSeq<|wSeq ?_
   obtain⟨o,D,h⟩:=bd h
   refine rdx hm (c6<|c1<|cp (oIdx u31 z73 D tm tm) (s2 u u)<|c4<|cp (oBuildA (fs:=iR) (u:=⟨b.1,b.1,b.1⟩) u ze202 u202 z3 po202 (.op (zc:=[(.int .i64 0)]) tm u (.op (zc:=[(.int .i64 0)]) tm u (.op (zc:=[(.int .i64 0)]) tm u .nil)))) (s3 u u u)<|cp (oBuild (fs:=eA) (u:=⟨a,a2,o,(⟨false,0,0⟩:av),(⟨false,0,0⟩:av),(⟨false,0,0⟩:av),0,(⟨b.1,b.1,b.1⟩:S202)⟩) u ze204 pl204 po204 (.op (zc:=[(.slice none 0 0),(.slice none 0 0)]) tm u (.op (zc:=[(.int .i64 0),(.int .i64 0),(.slice none 0 0),(.slice none 0 0),(.slice none 0 0),(.slice none 0 0)]) tm u (.op (zc:=[(.int .i64 0),(.int .i64 0),(.int .i64 0)]) tm u (.ze (zc:=[(.bool false),(.int .i64 0),(.int .i64 0)]) fY (.ze (zc:=[(.bool false),(.int .i64 0),(.int .i64 0)]) fY (.ze (zc:=[(.bool false),(.int .i64 0),(.int .i64 0)]) fY (.ze (zc:=[(.int .i64 0)]) zI_i64 (.op (zc:=[(.int .i64 0),(.int .i64 0),(.int .i64 0)]) tm u .nil))))))))) ⟨u,u,u,u,tv⟩<|cw (oBoxP (id:=47) (d:=(kR eA)) (ls:=[.d (kL kS) a.Names,.d (kL (kI .u32)) a.Up,.d ki a2.Pc.V,.d ki a2.Pc.L,.d (kL (kR aw)) a2.Code,.d (kL (kR am)) a2.Mem,.d (kL (kR au)) a2.Stack,.d (kL (kR am)) a2.Out,.d ki o.Op,.d ki o.N,.d ki o.L,.d kB false,.d ki 0,.d ki 0,.d kB false,.d ki 0,.d ki 0,.d kB false,.d ki 0,.d ki 0,.d ki 0,.d ki b.1,.d ki b.1,.d ki b.1]) pt204 u tm) (s1 u)<|c1<|.nil)<|pSeq<|wSeq<|wT0<|wTk 0 1 (c1<|.nil) (by kernel_rfl) u ?_
   obtain⟨J,s,h⟩:=bd h
   rcases J with Y|K
   ·refine wTx (Γp:=[(6,.p 6 0),(7,.p 7 0)]) 1 u (oCallX (rest:=[.box 7 3 [.d ki 0],.box 6 35 [.d ki 0,.d ki 0,.d (kL (kR aw)) [],.d (kL (kR am)) [],.d (kL (kR au)) [],.d (kL (kR am)) []]]) [(70000,47)] [0] [1,2] u (bJ.okP s) b157 (oE1 tm oE0) u u) u u (s1 u) ⟨u,u,tv⟩<|pThenP ?_
    obtain rfl:=so h
    exact pDpan (n6:=1) (n7:=0) u u u (by kernel_rfl) (by kernel_rfl)
   ·refine wTe 1 (cm (oCallS (rest:=[.box 7 3 [.d ki 0],.box 6 35 [.d ki 0,.d ki 0,.d (kL (kR aw)) [],.d (kL (kR am)) [],.d (kL (kR au)) [],.d (kL (kR am)) []]]) (R':=[.box 47 204 (L204 K),.box 7 3 [.d ki 0],.box 6 35 [.d ki 0,.d ki 0,.d (kL (kR aw)) [],.d (kL (kR am)) [],.d (kL (kR au)) [],.d (kL (kR am)) []]]) (out':=.d (tup [])) [(70000,47)] [] [0] [1,2] [0,1,2] u (bJ.okR s) b157 (oE1 tm oE0) u u u u u u u u) (s1 u)<|.nil) (by kernel_rfl)<|pSeq<|wSeq<|wSeq<|rx (c4<|cr (oLdK (n:=0) (k:=8) u u (by kernel_rfl) t3 tm) (s1 u)<|c1<|.nil)<|pSeq ?_
    obtain⟨i,h⟩|⟨i,h⟩:=ik h
    ·refine wCT i.1 tm (s1 u)<|wT0<|wTk 0 1 (cp (oMkX 1 cb199 (cI (by decide))) tv<|.nil) (by kernel_rfl) u<|wTx (Γp:=[(6,.p 6 0),(7,.p 7 0)]) 1 u (oPanic tm) u u (s1 u) ⟨u,u,tv⟩<|pThenP ?_
     obtain rfl:=so h
     exact pDpan (n6:=2) (n7:=1) u u u (by kernel_rfl) (by kernel_rfl)
    ·refine wCF i.1 tm (s1 u)<|wSkip<|pSeq<|wSeq ?_
     obtain⟨c,t,h⟩:=bd h
     refine rgL hm (c6<|cl [] u (oLdK (n:=0) (k:=8) u u (by kernel_rfl) t3 tm) (s1 u)<|cp (oIdx u26 z58 t tm tm) (s2 u u)<|c1<|cn (oAlloc (id:=11) (ls:=Z58) ze58 zl58) tv<|cwn (oStA (n:=0) (fs:=aU) u u z58 tm tm) (s2 u u)<|.nil) (by kernel_rfl) (by kernel_rfl) (by kernel_rfl)<|pSeq<|wSeq<|rdx hm (c6<|cp (oIdxA 0 0 u u202 z3 u tm (cI (by decide))) (s1 u)<|cr (oLdK (n:=1) (k:=21) u u (by kernel_rfl) t3 tm) (s1 u)<|c3<|cp (oIdxA 1 1 u u202 z3 u tm (cI (by decide))) (s1 u)<|cr (oLdK (n:=1) (k:=22) u u (by kernel_rfl) t3 tm) (s1 u)<|c3<|cp (oIdxA 2 2 u u202 z3 u tm (cI (by decide))) (s1 u)<|cr (oLdK (n:=1) (k:=23) u u (by kernel_rfl) t3 tm) (s1 u)<|cp (oLit (d:=ki) el56 (by decide) u u u (e1 tm (e1 tm (e1 tm (e1 tm e0))))) ⟨u,u,u,u,tv⟩<|c1<|.nil)<|pSeq<|wSeq<|wSeq ?_
     obtain⟨M,v,h⟩:=bd h
     refine rx (c2<|cr (oLdB (n:=0) (k:=0) u u u t56 tm) (s1 u)<|c1<|cC (dG.ok v)<|c4<|c1<|.nil)<|pSeq<|wSeq<|rx (c2<|.nil)<|pSeq ?_
     obtain⟨e,h⟩|⟨e,h⟩:=ik h
     ·refine wBT e.1 tm (s1 u)<|wT0<|wTk 0 1 (cp (oMkX 2 cb199 (cI (by decide))) tv<|.nil) (by kernel_rfl) u<|wTx (Γp:=[(6,.p 6 0),(7,.p 7 0)]) 1 u (oPanic tm) u u (s1 u) ⟨u,u,tv⟩<|pThenP ?_
      obtain rfl:=so h
      exact pDpan (n6:=3) (n7:=2) u u u (by kernel_rfl) (by kernel_rfl)
     ·refine wBF e.1 tm (s1 u)<|wSkip<|pSeq<|wSeq ?_
      obtain⟨O,w,h⟩:=bd h
      refine rx (c2<|cr (oLdB (n:=0) (k:=1) u u u t56 tm) (s1 u)<|c1<|cC (cX.ok w)<|c4<|c1<|.nil)<|pSeq<|wSeq ?_
      obtain⟨y14,x,h⟩:=bd h
      refine rx (c2<|cr (oLdB (n:=0) (k:=2) u u u t56 tm) (s1 u)<|c1<|cC (cX.ok x)<|c4<|c1<|.nil)<|pSeq<|wSeq ?_
      obtain⟨y15,y,h⟩:=bd h
      refine rx (c2<|cm (oCallS (rest:=[.box 11 58 (L58 c),.box 7 3 [.d ki 0],.box 6 35 [.d ki 0,.d ki 0,.d (kL (kR aw)) [],.d (kL (kR am)) [],.d (kL (kR au)) [],.d (kL (kR am)) []]]) (R':=[.box 11 58 (L58 c),.box 47 204 (L204 y15),.box 7 3 [.d ki 0],.box 6 35 [.d ki 0,.d ki 0,.d (kL (kR aw)) [],.d (kL (kR am)) [],.d (kL (kR au)) [],.d (kL (kR am)) []]]) (out':=.d (tup [])) [(70000,47)] [] [1] [0,2,3] [1,0,2,3] u (da.ok y) b160 (oE1 tm (oE1 tm oE0)) u u u u u u u u) (s2 u u)<|.nil)<|pSeq<|wSeq<|rx (c6<|cwn (oStK (n:=1) (k:=3) u u u (by kernel_rfl) z3 tm tm) (s2 u u)<|.nil)<|pSeq<|wSeq ?_
      obtain⟨y16,j,h⟩:=bd h
      obtain⟨F,l,h⟩:=bd h
      rcases F with P|T
      ·refine rgXD (Γp:=[(6,.p 6 0),(7,.p 7 0)]) hm (c4<|cr (oLdPK (n:=1) (k:=2) (m:=6) (d:=(kR ap)) (u:=(⟨⟨y15.s_.Pc.V,y14.1⟩,y15.s_.Code,y15.s_.Mem,y15.s_.Stack,y15.s_.Out⟩:ah)) pt35 u u (by kernel_rfl) t35 tm) (s1 u)<|cC (dw.ok j)<|cb (oCallX (rest:=[.box 11 58 (L58 c),.box 47 204 [.d (kL kS) y15.l_.Names,.d (kL (kI .u32)) y15.l_.Up,.d ki y15.s_.Pc.V,.d ki y14.1,.d (kL (kR aw)) y15.s_.Code,.d (kL (kR am)) y15.s_.Mem,.d (kL (kR au)) y15.s_.Stack,.d (kL (kR am)) y15.s_.Out,.d ki y15.x_.Op,.d ki y15.x_.N,.d ki y15.x_.L,.d kB y15.a_.Ret,.d ki y15.a_.V,.d ki y15.a_.L,.d kB y15.b_.Ret,.d ki y15.b_.V,.d ki y15.b_.L,.d kB y15.r_.Ret,.d ki y15.r_.V,.d ki y15.r_.L,.d ki y15.below_,.d ki y15.one_.x0_,.d ki y15.one_.x1_,.d ki y15.one_.x2_],.box 7 3 [.d ki 0],.box 6 35 [.d ki 0,.d ki 0,.d (kL (kR aw)) [],.d (kL (kR am)) [],.d (kL (kR au)) [],.d (kL (kR am)) []]]) [] [] [0,1,2,3] u (bA.okP l) b155 (oE1 tm oE0) u u) (s1 u)<|.nil) (by kernel_rfl) (by kernel_rfl) ⟨u,u,tv⟩<|pThenP ?_
       obtain rfl:=so h
       exact pDpan (n6:=3) (n7:=2) u u u (by kernel_rfl) (by kernel_rfl)
      ·refine rdx hm (c4<|cr (oLdPK (n:=1) (k:=2) (m:=6) (d:=(kR ap)) (u:=(⟨⟨y15.s_.Pc.V,y14.1⟩,y15.s_.Code,y15.s_.Mem,y15.s_.Stack,y15.s_.Out⟩:ah)) pt35 u u (by kernel_rfl) t35 tm) (s1 u)<|cC (dw.ok j)<|cm (oCallS (rest:=[.box 11 58 (L58 c),.box 47 204 [.d (kL kS) y15.l_.Names,.d (kL (kI .u32)) y15.l_.Up,.d ki y15.s_.Pc.V,.d ki y14.1,.d (kL (kR aw)) y15.s_.Code,.d (kL (kR am)) y15.s_.Mem,.d (kL (kR au)) y15.s_.Stack,.d (kL (kR am)) y15.s_.Out,.d ki y15.x_.Op,.d ki y15.x_.N,.d ki y15.x_.L,.d kB y15.a_.Ret,.d ki y15.a_.V,.d ki y15.a_.L,.d kB y15.b_.Ret,.d ki y15.b_.V,.d ki y15.b_.L,.d kB y15.r_.Ret,.d ki y15.r_.V,.d ki y15.r_.L,.d ki y15.below_,.d ki y15.one_.x0_,.d ki y15.one_.x1_,.d ki y15.one_.x2_],.box 7 3 [.d ki 0],.box 6 35 [.d ki 0,.d ki 0,.d (kL (kR aw)) [],.d (kL (kR am)) [],.d (kL (kR au)) [],.d (kL (kR am)) []]]) (R':=[.box 11 58 (L58 c),.box 47 204 [.d (kL kS) y15.l_.Names,.d (kL (kI .u32)) y15.l_.Up,.d ki y15.s_.Pc.V,.d ki y14.1,.d (kL (kR aw)) y15.s_.Code,.d (kL (kR am)) y15.s_.Mem,.d (kL (kR au)) y15.s_.Stack,.d (kL (kR am)) y15.s_.Out,.d ki y15.x_.Op,.d ki y15.x_.N,.d ki y15.x_.L,.d kB y15.a_.Ret,.d ki y15.a_.V,.d ki y15.a_.L,.d kB y15.b_.Ret,.d ki y15.b_.V,.d ki y15.b_.L,.d kB y15.r_.Ret,.d ki y15.r_.V,.d ki y15.r_.L,.d ki y15.below_,.d ki y15.one_.x0_,.d ki y15.one_.x1_,.d ki y15.one_.x2_],.box 7 3 [.d ki 0],.box 6 35 [.d ki 0,.d ki 0,.d (kL (kR aw)) [],.d (kL (kR am)) [],.d (kL (kR au)) [],.d (kL (kR am)) []]]) (out':=.d (tup [])) [] [] [] [0,1,2,3] [0,1,2,3] u (bA.okR l) b155 (oE1 tm oE0) u u u u u u u u) (s1 u)<|.nil)<|pSeq<|wSeq<|rx (c3<|cr (oLdPK (n:=1) (k:=2) (m:=6) (d:=(kR ap)) (u:=(⟨⟨y15.s_.Pc.V,y14.1⟩,y15.s_.Code,y15.s_.Mem,y15.s_.Stack,y15.s_.Out⟩:ah)) pt35 u u (by kernel_rfl) t35 tm) (s1 u)<|cwn (oStP (n:=3) (k:=0) (m:=6) (d:=(kR ap)) (u:=(⟨⟨y15.s_.Pc.V,y14.1⟩,y15.s_.Code,y15.s_.Mem,y15.s_.Stack,y15.s_.Out⟩:ah)) pt35 u u u z35 tm tm) (s2 u u)<|cwn (oSt (n:=2) (k:=0) u u u u z3 tm (cI (by decide))) (s1 u)<|.nil)<|pSeq<|wRet ?_
       obtain rfl:=so h
       exact pDret (.inl u) (.boxP (n:=3) (d:=(kR ap)) (u:=(⟨⟨y15.s_.Pc.V,y14.1⟩,y15.s_.Code,y15.s_.Mem,y15.s_.Stack,y15.s_.Out⟩:ah)) u u pt35 u t35<|.boxV (n:=2) u u t3<|.nil)
theorem df.ok{g:aq} {a1:bw} {a2:ah} {r:ah×Int×Int}(h:df.f g a1 a2=some r):FnA PP 74 [(kR aA).sig g,(kR bf).sig a1,(kR ap).sig a2] (tup [(kR ap).sig r.1,ki.sig r.2.1,ki.sig r.2.2]):=by
 refine fnIntro Tryz.func74 u (by kernel_rfl) fun H0 w0=>?_
 unfold df.f at h
 refine wSeq<|rx (c3<|cw (oAlloc (id:=6) (ls:=Z35) ze35 zl35) tv<|c2<|.nil)<|pSeq<|wSeq<|wSeq ?_
 obtain⟨p,i,h⟩:=bd h
 refine rx (c1<|cC (bE.ok i)<|c1<|.nil)<|pSeq<|wSeq<|rx (c2<|.nil)<|pSeq ?_
 obtain⟨a,h⟩|⟨a,h⟩:=ik h
 ·refine wNT a.1 tm (s1 u)<|wSkip<|pSeq<|wSeq<|wSeq ?_
  obtain⟨q,j,h⟩:=bd h
  refine rx (c1<|cC (cH.ok j)<|c4<|c1<|.nil)<|pSeq<|wSeq<|rx (c2<|.nil)<|pSeq ?_
  obtain⟨b,h⟩|⟨b,h⟩:=ik h
  ·refine wNT b.1 tm (s1 u)<|wSkip<|pSeq<|wSeq<|wSeq ?_
   obtain⟨s,l,h⟩:=bd h
   refine rx (c2<|cC (dw.ok l)<|c1<|.nil)<|pSeq ?_
   obtain⟨c,h⟩|⟨c,h⟩:=ik h
   ·refine wBT c.1 tm (s1 u)<|wSeq<|rx (cp (oBuild (fs:=ap) (u:=⟨(⟨0,0⟩:az),[],[],[],[]⟩) u ze35 pl35 po35 (.ze (zc:=[(.int .i64 0),(.int .i64 0)]) eG (.ze (zc:=[(.slice none 0 0)]) zL (.ze (zc:=[(.slice none 0 0)]) zL (.ze (zc:=[(.slice none 0 0)]) zL (.ze (zc:=[(.slice none 0 0)]) zL .nil)))))) tv<|cwn (oStP (n:=0) (k:=0) (m:=6) (d:=(kR ap)) (u:=(⟨(⟨0,0⟩:az),[],[],[],[]⟩:ah)) pt35 u u u z35 tm tm) (s2 u u)<|c2<|.nil)<|pSeq<|wRet<|pThenR ?_
    obtain rfl:=so h
    exact pRn (.inl u) u u (.boxP (n:=0) (d:=(kR ap)) (u:=(⟨⟨0,0⟩,[],[],[],[]⟩:ah)) u u pt35 u t35<|.tmp u<|.tmp u<|.nil)
   ·refine wBF c.1 tm (s1 u)<|wSkip<|pSeq<|wSeq ?_
    obtain⟨e,o,h⟩:=bd h
    refine rx (c3<|cC (cU.ok o)<|c3<|cw (oAlloc (id:=12) (ls:=Z35) ze35 zl35) tv<|cwn (oStP (n:=0) (k:=0) (m:=6) (d:=(kR ap)) (u:=e.1) pt35 u u u z35 tm tm) (s2 u u)<|c1<|.nil)<|pSeq<|wSeq<|rx (cr (oLdP (n:=0) (k:=0) (m:=6) (d:=(kR ap)) (u:=e.1) pt35 u u u t35 tm) (s1 u)<|c1<|cwn (oStP (n:=1) (k:=0) (m:=6) (d:=(kR ap)) (u:=e.1) pt35 u u u z35 tm tm) (s2 u u)<|c2<|.nil)<|pSeq<|wRet ?_
    obtain rfl:=so h
    exact pRn (.inl u) u u (.boxP (n:=1) (d:=(kR ap)) (u:=e.1) u u pt35 u t35<|.tmp u<|.tmp u<|.nil)
  ·refine wNF b.1 tm (s1 u)<|wSeq<|rx (cp (oBuild (fs:=ap) (u:=⟨(⟨0,0⟩:az),[],[],[],[]⟩) u ze35 pl35 po35 (.ze (zc:=[(.int .i64 0),(.int .i64 0)]) eG (.ze (zc:=[(.slice none 0 0)]) zL (.ze (zc:=[(.slice none 0 0)]) zL (.ze (zc:=[(.slice none 0 0)]) zL (.ze (zc:=[(.slice none 0 0)]) zL .nil)))))) tv<|c1<|cwn (oStP (n:=0) (k:=0) (m:=6) (d:=(kR ap)) (u:=(⟨(⟨0,0⟩:az),[],[],[],[]⟩:ah)) pt35 u u u z35 tm tm) (s2 u u)<|c2<|.nil)<|pSeq<|wRet<|pThenR ?_
   obtain rfl:=so h
   exact pRn (.inl u) u u (.boxP (n:=0) (d:=(kR ap)) (u:=(⟨⟨0,0⟩,[],[],[],[]⟩:ah)) u u pt35 u t35<|.tmp u<|.tmp u<|.nil)
 ·refine wNF a.1 tm (s1 u)<|wSeq<|rx (cp (oBuild (fs:=ap) (u:=⟨(⟨0,0⟩:az),[],[],[],[]⟩) u ze35 pl35 po35 (.ze (zc:=[(.int .i64 0),(.int .i64 0)]) eG (.ze (zc:=[(.slice none 0 0)]) zL (.ze (zc:=[(.slice none 0 0)]) zL (.ze (zc:=[(.slice none 0 0)]) zL (.ze (zc:=[(.slice none 0 0)]) zL .nil)))))) tv<|c1<|cwn (oStP (n:=0) (k:=0) (m:=6) (d:=(kR ap)) (u:=(⟨(⟨0,0⟩:az),[],[],[],[]⟩:ah)) pt35 u u u z35 tm tm) (s2 u u)<|c2<|.nil)<|pSeq<|wRet<|pThenR ?_
  obtain rfl:=so h
  exact pRn (.inl u) u u (.boxP (n:=0) (d:=(kR ap)) (u:=(⟨⟨0,0⟩,[],[],[],[]⟩:ah)) u u pt35 u t35<|.tmp u<|.tmp u<|.nil)
theorem ee.ok{e:aq} {a1:bw} {a2:ah} {a3:Int} {r:Int}(h:ee.f e a1 a2 a3=some r):FnA PP 36 [(kR aA).sig e,(kR bf).sig a1,(kR ap).sig a2,ki.sig a3] (ki.sig r):=by
 refine fnIntro Tryz.func36 u (by kernel_rfl) fun H0 w0=>?_
 unfold ee.f at h
 refine wSeq<|rx (c4<|.nil)<|pSeq<|wSeq<|wSeq ?_
 obtain⟨g,i,h⟩:=bd h
 refine rx (c3<|cC (df.ok i)<|c4<|cw (oAlloc (id:=9) (ls:=Z35) ze35 zl35) tv<|cwn (oStP (n:=0) (k:=0) (m:=6) (d:=(kR ap)) (u:=g.1) pt35 u u u z35 tm tm) (s2 u u)<|c2<|.nil)<|pSeq<|wSeq<|rx (c2<|.nil)<|pSeq ?_
 obtain⟨a,h⟩|⟨a,h⟩:=ik h
 ·refine wNT a.1 tm (s1 u)<|wSkip<|pSeq<|wSeq ?_
  obtain⟨o,h,j⟩:=bd h
  refine wJ1 (fun b=>b=o) (fun b=>[(28,.d (kB.sig b))]) (fun b=>[.box 9 35 (L35 g.1)]) ?_ ?_
  ·obtain⟨l,h⟩|⟨l,h⟩:=ik h
   ·exact rx (c6<|.nil)<|pJ1 _ (so h) (sb u) u
   ·exact rx (c6<|.nil)<|pJ1 _ (so h) (sb u) u
  ·rintro b rfl
   replace h:=j
   obtain⟨c,h⟩|⟨c,h⟩:=ik h
   ·refine wBT c.1 tm (s1 u)<|wSeq<|rx (c1<|.nil)<|pSeq<|wRet<|pThenR ?_
    obtain rfl:=so h
    exact pR1 (.inl u) u (.tmp u<|.nil)
   ·refine wBF c.1 tm (s1 u)<|wSkip<|pSeq<|wSeq<|rx (c1<|.nil)<|pSeq<|wRet ?_
    obtain rfl:=so h
    exact pR1 (.inl u) u (.tmp u<|.nil)
 ·refine wNF a.1 tm (s1 u)<|wSeq<|rx (c2<|.nil)<|pSeq<|wRet<|pThenR ?_
  obtain rfl:=so h
  exact pR1 (.inl u) u (.tmp u<|.nil)
theorem bq.ok{a1:Int} {a2:aq} {a3:bw} {a4:ah}:FnYN PP 75 (fun z=>(kR ap).sig z) (fun z=>ki.sig z) [.d (sP ki a1),.d (sP (kR aA) a2),.d (sP (kR bf) a3),.p 70400 0] [.box 70400 35 (L35 a4)] (fun {σ} a_y a_s=>bq.f a_y a_s a1 a2 a3 a4):=by
 refine fnIntroYN 7777 Tryz.func75 u (by kernel_rfl) u (fun σ A a_y a_s a_r h bs X H0 w0=>?_)
 replace h:bq.f a_y a_s a1 a2 a3 a4=some a_r:=h
 unfold bq.f at h
 refine wSeq<|wSeq<|rx (c2<|.nil)<|pSeq ?_
 obtain⟨x,h,s⟩:=bd h
 refine wK2 (fun b e=>.inr (b,e)=x) (fun b e=>[(0,.d (sYield PP A a_y (fun z=>(kR ap).sig z) (fun z=>ki.sig z))),(4,.p 70400 0)]) (fun b e=>[.abs 7777 A e,.box 70400 35 (L35 b)]) ?_ ?_
 ·refine wBlock (wLoop ?_)
  refine lW (pc3 x (fun a q c=>[(0,.d (sYield PP A a_y (fun z=>(kR ap).sig z) (fun z=>ki.sig z))),(2,.d (sP (kR aA) a2)),(3,.d (sP (kR bf) a3)),(4,.p 70400 0),(9,.d (ki.sig a1)),(10,.d (ki.sig c))]) (fun a q c=>[.abs 7777 A q,.box 70400 35 (L35 a)]) (bq.l0.partial_correctness a_y a1 a2 a3) ?_ _ _ _ h) ⟨u,u,u,u,u,u,tv⟩ u
  clear h
  intro f' ih a q c h
  refine wSeq<|rx (c1<|.nil)<|pSeq<|wSeq ?_
  obtain⟨l,h⟩|⟨l,h⟩:=ik h
  ·refine wCT l.1 tm (s1 u)<|wSkip<|pSeq<|wSeq<|wBlock<|wSeq ?_
   obtain⟨g,t,h⟩:=bd h
   refine rx (c2<|cr (oLdP (n:=1) (k:=0) (m:=6) (d:=(kR ap)) (u:=a) pt35 u u u t35 tm) (s1 u)<|cC (df.ok t)<|c4<|cw (oAlloc (id:=6) (ls:=Z35) ze35 zl35) tv<|cwn (oStP (n:=0) (k:=0) (m:=6) (d:=(kR ap)) (u:=g.1) pt35 u u u z35 tm tm) (s2 u u)<|c2<|.nil)<|pSeq<|wSeq ?_
   obtain⟨B,h,y⟩:=bd h
   refine wJ2 (fun i j=>(i,j)=B) (fun i j=>[(0,.d (sYield PP A a_y (fun z=>(kR ap).sig z) (fun z=>ki.sig z))),(2,.d (sP (kR aA) a2)),(3,.d (sP (kR bf) a3)),(4,.p 70400 0),(6,.p 6 0),(9,.d (ki.sig a1)),(10,.d (ki.sig c)),(28,.d (kB.sig j))]) (fun i j=>[.box 6 35 (L35 g.1),.abs 7777 A i,.box 70400 35 (L35 a)]) ?_ ?_
   ·obtain⟨C,r,h⟩:=bd h
    obtain⟨v,h⟩|⟨v,h⟩:=ik h
    ·exact rx (c1<|cr (oLdP (n:=2) (k:=0) (m:=6) (d:=(kR ap)) (u:=a) pt35 u u u t35 tm) (s1 u)<|c1<|cm (oYield (n:=1) (id':=23) u r tm tm tm) (s3 u u u)<|c4<|c1<|.nil)<|pSub (Γ':=[(0,.d (sYield PP A a_y (fun z=>(kR ap).sig z) (fun z=>ki.sig z))),(2,.d (sP (kR aA) a2)),(3,.d (sP (kR bf) a3)),(4,.p 70400 0),(6,.p 6 0),(9,.d (ki.sig a1)),(10,.d (ki.sig c)),(28,.d (kB.sig true))]) (sb u)<|pRen 23 7777 u<|pJ2 _ _ (so h) (sb u) u
    ·exact rx (c1<|cr (oLdP (n:=2) (k:=0) (m:=6) (d:=(kR ap)) (u:=a) pt35 u u u t35 tm) (s1 u)<|c1<|cm (oYield (n:=1) (id':=23) u r tm tm tm) (s3 u u u)<|c4<|c1<|.nil)<|pSub (Γ':=[(0,.d (sYield PP A a_y (fun z=>(kR ap).sig z) (fun z=>ki.sig z))),(2,.d (sP (kR aA) a2)),(3,.d (sP (kR bf) a3)),(4,.p 70400 0),(6,.p 6 0),(9,.d (ki.sig a1)),(10,.d (ki.sig c)),(28,.d (kB.sig (!decide (g.2.1=0))))]) (sb u)<|pRen 23 7777 u<|pJ2 _ _ (so h) (sb u) u
   ·rintro i j rfl
    replace h:=y
    obtain⟨o,h⟩|⟨o,h⟩:=ik h
    ·refine wBT o.1 tm (s1 u)<|wRet<|pThenR<|pBlkR<|pThenR<|pThenR<|pBlkR<|pThenR ?_
     obtain rfl:=so h
     replace h:=s
     refine pThenR ?_
     obtain rfl:=so h
     exact pRYN (n:=1) (.inl u) u u u
    ·exact wBF o.1 tm (s1 u)<|wSkip<|pSeq<|rx (cr (oLdP (n:=0) (k:=0) (m:=6) (d:=(kR ap)) (u:=g.1) pt35 u u u t35 tm) (s1 u)<|cwn (oStP (n:=2) (k:=0) (m:=6) (d:=(kR ap)) (u:=g.1) pt35 u u u z35 tm tm) (s2 u u)<|.nil)<|pBlkN<|pSeq<|rx (c2<|.nil)<|pDrop (.cons _ (.cons_cons _ (.cons_cons _ .slnil)))<|pLoop (lW (ih _ _ _ h) ⟨u,u,u,u,u,u,tv⟩ u)
  ·exact wCF l.1 tm (s1 u)<|wExit<|pThenX<|pThenX<|pBlkX<|pJ2 _ _ (so h) (sb u) u
 ·rintro b e rfl
  replace h:=s
  refine pSeq ?_
  obtain⟨D,w,h⟩:=bd h
  refine rx (c1<|cr (oLdP (n:=1) (k:=0) (m:=6) (d:=(kR ap)) (u:=b) pt35 u u u t35 tm) (s1 u)<|cm (oYield (n:=0) (id':=33) u w tm tm (cI (by decide))) (s2 u u)<|.nil) ?_
  obtain rfl:=so h
  exact pRYN (n:=0) (.inr u) u u u
theorem dY.ok{a:aq} {a1:bw} {a2:ah} {a3:Int} {r:Int×aq×bw×ah}(h:dY.f a a1 a2 a3=some r):FnS PP 37 [.d ((kR aA).sig a),.d ((kR bf).sig a1),.d ((kR ap).sig a2),.d (ki.sig a3)] [] [] (.f [6] (sCloN 75 [some (sP ki r.1),some (sP (kR aA) r.2.1),some (sP (kR bf) r.2.2.1),none])) [.box 6 35 (L35 r.2.2.2)]:=by
 refine fnIntroS Tryz.func37 u (by kernel_rfl) fun X H0 w0 pv=>?_
 unfold dY.f at h
 refine wSeq<|rx (c2<|cw (oBoxP (id:=6) (d:=(kR ap)) (ls:=[.d ki a2.Pc.V,.d ki a2.Pc.L,.d (kL (kR aw)) a2.Code,.d (kL (kR am)) a2.Mem,.d (kL (kR au)) a2.Stack,.d (kL (kR am)) a2.Out]) pt35 u tm) (s1 u)<|c1<|cp (oAs cV) tv<|.nil)<|pSeq<|wSeq<|rx (cp (oMkN (ids:=[6]) (caps:=[some (sP ki a3),some (sP (kR aA) a),some (sP (kR bf) a1),none]) u (oNs tm (oNs tm (oNs tm (oNp tm oN0))))) ⟨u,u,u,u,tv⟩<|c1<|.nil)<|pSeq<|wRet ?_
 obtain rfl:=so h
 exact pSF [0] u u (.inl u) u u
theorem cd.ok{q:aq} {a1:bw} {a2:ah} {a3:Int} {r:ah×Int×Int}(h:cd.f q a1 a2 a3=some r):FnA PP 18 [(kR aA).sig q,(kR bf).sig a1,(kR ap).sig a2,ki.sig a3] (tup [(kR ap).sig r.1,ki.sig r.2.1,ki.sig r.2.2]):=by
 refine fnIntro Tryz.func18 u (by kernel_rfl) fun H0 w0=>?_
 unfold cd.f at h
 refine wSeq<|rx (c2<|cw (oBoxP (id:=6) (d:=(kR ap)) (ls:=[.d ki a2.Pc.V,.d ki a2.Pc.L,.d (kL (kR aw)) a2.Code,.d (kL (kR am)) a2.Mem,.d (kL (kR au)) a2.Stack,.d (kL (kR am)) a2.Out]) pt35 u tm) (s1 u)<|cw (oAlloc (id:=8) (ls:=Z35) ze35 zl35) tv<|c2<|.nil)<|pSeq<|wSeq<|wSeq ?_
 obtain⟨w,s,h⟩:=bd h
 refine rx (c2<|cr (oLdP (n:=1) (k:=0) (m:=6) (d:=(kR ap)) (u:=a2) pt35 u u u t35 tm) (s1 u)<|c1<|cC (ee.ok s)<|c1<|.nil)<|pSeq<|wSeq<|rx (c2<|.nil)<|pSeq ?_
 obtain⟨e,h⟩|⟨e,h⟩:=ik h
 ·refine wNT e.1 tm (s1 u)<|wSkip<|pSeq<|wSeq<|rx (cw (oAlloc (id:=12) (ls:=[.d ki 0]) ze3 (fun g=>⟨[(.int .i64 0)],_,u,zI_i64 g.H,u⟩)) tv<|cwn (oSt (n:=0) (k:=0) u u u u z3 tm (cI (by decide))) (s1 u)<|.nil)<|pSeq<|wSeq<|wSeq ?_
  obtain⟨a,t,h⟩:=bd h
  refine rx (c2<|cr (oLdP (n:=2) (k:=0) (m:=6) (d:=(kR ap)) (u:=a2) pt35 u u u t35 tm) (s1 u)<|c1<|cm (oCallS (rest:=[.box 12 3 [.d ki 0],.box 8 35 [.d ki 0,.d ki 0,.d (kL (kR aw)) [],.d (kL (kR am)) [],.d (kL (kR au)) [],.d (kL (kR am)) []],.box 6 35 (L35 a2)]) (R':=[.box 350160 35 (L35 a.2.2.2),.box 12 3 [.d ki 0],.box 8 35 [.d ki 0,.d ki 0,.d (kL (kR aw)) [],.d (kL (kR am)) [],.d (kL (kR au)) [],.d (kL (kR am)) []],.box 6 35 (L35 a2)]) (out':=.f [350160] (sCloN 75 [some (sP ki a.1),some (sP (kR aA) a.2.1),some (sP (kR bf) a.2.2.1),none])) [] [(6,350160)] [] [0,1,2] [0,1,2,3] u (dY.ok t) b37 (oE1 tm (oE1 tm (oE1 tm (oE1 tm oE0)))) u u u u u u u u) ⟨u,u,u,u,tv⟩<|.nil)<|pSeq<|wBlock<|wPick (R':=[.box 12 3 [.d ki 0],.box 8 35 [.d ki 0,.d ki 0,.d (kL (kR aw)) [],.d (kL (kR am)) [],.d (kL (kR au)) [],.d (kL (kR am)) []],.box 6 35 (L35 a2),.box 350160 35 (L35 a.2.2.2)]) [1,2,3,0] u u ?_
  obtain⟨j,v,h⟩:=bd h
  refine wRangeN (Γ':=[(6,.p 6 0),(8,.p 8 0),(12,.p 12 0)]) (Γ2:=fun b i=>[(6,.p 6 0),(8,.p 8 0),(12,.p 12 0),(13,.p 13 0),(14,.d (ki.sig i))]) (caps:=[some (sP ki a.1),some (sP (kR aA) a.2.1),some (sP (kR bf) a.2.2.1),none]) (kn:=[70400]) (Rc:=[.box 70400 35 (L35 a.2.2.2)]) [(70400,350160)] (fun(c:ah×Int×Int×Int×(List aE)×(List az)×(List av)×(List az))=>[.box 12 3 [.d ki c.2.1],.box 8 35 [.d ki 0,.d ki 0,.d (kL (kR aw)) [],.d (kL (kR am)) [],.d (kL (kR au)) [],.d (kL (kR am)) []],.box 6 35 (L35 c.1)]) (fun(c:ah×Int×Int×Int×(List aE)×(List az)×(List av)×(List az)) b i=>[.box 13 35 (L35 b),.box 12 3 [.d ki c.2.1],.box 8 35 [.d ki 0,.d ki 0,.d (kL (kR aw)) [],.d (kL (kR am)) [],.d (kL (kR au)) [],.d (kL (kR am)) []],.box 6 35 (L35 c.1)]) [] [6,8,12] (cd.y0) (a2,0,a2.Pc.V,a2.Pc.L,a2.Code,a2.Mem,a2.Stack,a2.Out) u (bq.ok (a1:=a.1) (a2:=a.2.1) (a3:=a.2.2.1) (a4:=a.2.2.2)) u b75 v u ⟨u,u,u,tv⟩ u u u ?_ ?_ ?_
  ·intro X H0 w0 l pv c b i
   exact wSeq<|rx (cw (oAlloc (id:=13) (ls:=Z35) ze35 zl35) tv<|cwn (oStP (n:=0) (k:=0) (m:=6) (d:=(kR ap)) (u:=b) pt35 u u u z35 tm tm) (s2 u u)<|.nil)<|pSeq<|rx (c1<|.nil)<|qA ⟨u,u,u,u,u,tv⟩
  ·intro X H0 w0 l pv c b i o h
   unfold cd.y0 at h
   refine wBlock<|rx (cr (oLdP (n:=0) (k:=0) (m:=6) (d:=(kR ap)) (u:=b) pt35 u u u t35 tm) (s1 u)<|c1<|cwn (oStP (n:=3) (k:=0) (m:=6) (d:=(kR ap)) (u:=b) pt35 u u u z35 tm tm) (s2 u u)<|cwn (oSt (n:=1) (k:=0) u u u u z3 tm tm) (s2 u u)<|.nil)<|pBlkN<|pDrop (.cons _ (.cons_cons _ (.cons_cons _ (.cons_cons _ .slnil)))) ?_
   obtain rfl:=so h
   exact qN
  ·obtain⟨hj7,h⟩|⟨hj7,h⟩:=ic h
   ·refine jp0 hj7<|pBlkN<|pSeq<|wSeq<|wFrzV 12 (n:=0) (id:=12) u u u<|rdx hm (cr (oLdP (n:=1) (k:=0) (m:=6) (d:=(kR ap)) (u:=j.1.1) pt35 u u u t35 tm) (s1 u)<|c1<|cwn (oStP (n:=0) (k:=0) (m:=6) (d:=(kR ap)) (u:=j.1.1) pt35 u u u z35 tm tm) (s2 u u)<|c2<|.nil)<|pSeq<|wRet ?_
    obtain rfl:=so h
    exact pRn (.inl u) u u (.boxP (n:=0) (d:=(kR ap)) (u:=j.1.1) u u pt35 u t35<|.tmp u<|.tmp u<|.nil)
   ·cases h
 ·refine wNF e.1 tm (s1 u)<|wSeq<|rx (cp (oBuild (fs:=ap) (u:=⟨(⟨0,0⟩:az),[],[],[],[]⟩) u ze35 pl35 po35 (.ze (zc:=[(.int .i64 0),(.int .i64 0)]) eG (.ze (zc:=[(.slice none 0 0)]) zL (.ze (zc:=[(.slice none 0 0)]) zL (.ze (zc:=[(.slice none 0 0)]) zL (.ze (zc:=[(.slice none 0 0)]) zL .nil)))))) tv<|c1<|cwn (oStP (n:=0) (k:=0) (m:=6) (d:=(kR ap)) (u:=(⟨(⟨0,0⟩:az),[],[],[],[]⟩:ah)) pt35 u u u z35 tm tm) (s2 u u)<|c2<|.nil)<|pSeq<|wRet<|pThenR ?_
  obtain rfl:=so h
  exact pRn (.inl u) u u (.boxP (n:=0) (d:=(kR ap)) (u:=(⟨⟨0,0⟩,[],[],[],[]⟩:ah)) u u pt35 u t35<|.tmp u<|.tmp u<|.nil)
theorem bz.ok{a:bP} {a1:ah} {r:Bool}(h:bz.f a a1=some r):FnA PP 70 [(kR bM).sig a,(kR ap).sig a1] (kB.sig r):=by
 refine fnIntro Tryz.func70 u (by kernel_rfl) fun H0 w0=>?_
 unfold bz.f at h
 refine wSeq<|rx (c3<|.nil)<|pSeq<|wSeq ?_
 obtain⟨c,b,h⟩:=bd h
 refine rx (c6<|c1<|cC (cP.ok b)<|c4<|c1<|.nil)<|pSeq<|wSeq<|rx (c2<|.nil)<|pSeq<|wRet ?_
 obtain rfl:=so h
 exact pR1 (.inl u) u (.tmp u<|.nil)
theorem cL.ok{b:aE} {a1:aE} {r:Bool}(h:cL.f b a1=some r):FnA PP 78 [(kR aw).sig b,(kR aw).sig a1] (kB.sig r):=by
 refine fnIntro Tryz.func78 u (by kernel_rfl) fun H0 w0=>?_
 unfold cL.f at h
 refine wSeq<|rx (c3<|.nil)<|pSeq ?_
 obtain⟨i,h,c⟩:=bd h
 refine wJ1 (fun a=>a=i) (fun a=>[(4,.d (kB.sig a))]) (fun a=>[]) ?_ ?_
 ·obtain⟨e,h⟩|⟨e,h⟩:=ik h
  ·obtain⟨g,h⟩|⟨g,h⟩:=ik h
   ·exact rx (c12<|c6<|.nil)<|pJ1 _ (so h) (sb u) u
   ·exact rx (c12<|c6<|.nil)<|pJ1 _ (so h) (sb u) u
  ·exact rx (c8<|c2<|csU u u<|csU u u<|csU u u<|csU u u<|csU u u<|c3<|.nil)<|pJ1 _ (so h) (sb u) u
 ·rintro a rfl
  replace h:=c
  refine wRet ?_
  obtain rfl:=so h
  exact pR1 (.inl u) u (.tmp u<|.nil)
theorem dc.ok{a:aE} {r:Int}(h:dc.f a=some r):FnA PP 79 [(kR aw).sig a] (ki.sig r):=by
 refine fnIntro Tryz.func79 u (by kernel_rfl) fun H0 w0=>?_
 unfold dc.f at h
 refine wSeq<|rx (c2<|.nil)<|pSeq<|wSeq<|rx (c3<|.nil)<|pSeq<|wRet ?_
 obtain rfl:=so h
 exact pR1 (.inl u) u (.tmp u<|.nil)
theorem dl.ok{a:aE} {a1:aE} {r:Bool}(h:dl.f a a1=some r):FnA PP 80 [(kR aw).sig a,(kR aw).sig a1] (kB.sig r):=by
 refine fnIntro Tryz.func80 u (by kernel_rfl) fun H0 w0=>?_
 unfold dl.f at h
 refine wSeq<|rx (c3<|.nil)<|pSeq<|wSeq<|rx (c6<|.nil)<|pSeq<|wRet ?_
 obtain rfl:=so h
 exact pR1 (.inl u) u (.tmp u<|.nil)
theorem cy.ok{r:cf}(h:cy.f=some r):FnA PP 43 [] ((kR cz).sig r):=by
 refine fnIntro Tryz.func43 u (by kernel_rfl) fun H0 w0=>?_
 unfold cy.f at h
 refine wSeq<|rx (cw (oAlloc (id:=0) (ls:=Z98) ze98 zl98) tv<|.nil)<|pSeq<|wSeq<|rx (cp (oBuild (fs:=cz) (u:=⟨(some cL.f),(some dc.f),(some dl.f)⟩) u ze98 pl98 po98 (.op (zc:=[.nilFunc]) (oSome (oFn b78 (rl2n cL.ok))) u (.op (zc:=[.nilFunc]) (oSome (oFn b79 (rl1n dc.ok))) u (.op (zc:=[.nilFunc]) (oSome (oFn b80 (rl2n dl.ok))) u .nil)))) tv<|cwn (oStA (n:=0) (fs:=cz) u u z98 tm tm) (s2 u u)<|.nil)<|pSeq<|wRet ?_
 obtain rfl:=so h
 exact pR1 (.inl u) u (.box (n:=0) (fs:=cz) (u:=⟨(some cL.f),(some dc.f),(some dl.f)⟩) u u ⟨u,u,u,tv⟩ t98<|.nil)
theorem aS.ok{b:cf} {a1:List (List aE)} {r:List Int}(h:aS.f b a1=some r):FnA PP 42 [(kR cz).sig b,(kL (kL (kR aw))).sig a1] ((kL ki).sig r):=by
 refine fnIntro Tryz.func42 u (by kernel_rfl) fun H0 w0=>?_
 unfold aS.f at h
 refine wSeq<|rx (c1<|cp (oAs cV) tv<|.nil)<|pSeq<|wSeq<|rx (cp (oAs cV) tv<|.nil)<|pSeq<|wSeq<|wSeq<|rx (c3<|.nil)<|pSeq<|wNil ki 3 1005 5 u u ?_
 obtain⟨x,h,y⟩:=bd h
 refine wK1 (fun c=>c=x) (fun c=>[(5,.v 1005)]) (fun c=>[.row 1005 3 ki c]) ?_ ?_
 ·refine wBlock (wLoop ?_)
  refine lW (pc2 x (fun l a=>[(2,.d (sP (kR cz) b)),(5,.v 1005),(10,.d ((kL (kL (kR aw))).sig a1)),(11,.d (ki.sig (a1.length:Int))),(12,.d (ki.sig a))]) (fun l a=>[.row 1005 3 ki l]) (aS.l2.partial_correctness b a1) ?_ _ _ h) ⟨u,u,u,u,u,tv⟩ u
  clear h
  intro f' ih l a h
  refine wSeq<|rx (c1<|.nil)<|pSeq<|wSeq ?_
  obtain⟨i,h⟩|⟨i,h⟩:=ik h
  ·refine wCT i.1 tm (s1 u)<|wSkip<|pSeq<|wSeq<|wBlock<|wSeq ?_
   obtain⟨e,p,h⟩:=bd h
   refine rx (cp (oIdx u145 z31 p tm tm) (s2 u u)<|c2<|.nil)<|pSeq<|wSeq<|rx (c3<|.nil)<|pSeq ?_
   obtain⟨z,h,A⟩:=bd h
   refine wK1 (fun g=>g=z) (fun g=>[(2,.d (sP (kR cz) b)),(5,.v 1005),(10,.d ((kL (kL (kR aw))).sig a1)),(11,.d (ki.sig (a1.length:Int))),(12,.d (ki.sig a))]) (fun g=>[.row 1005 3 ki g]) ?_ ?_
   ·refine wBlock (wLoop ?_)
    refine lW (pc2 z (fun m k=>[(2,.d (sP (kR cz) b)),(5,.v 1005),(10,.d ((kL (kL (kR aw))).sig a1)),(11,.d (ki.sig (a1.length:Int))),(12,.d (ki.sig a)),(16,.d ((kL (kR aw)).sig e)),(17,.d (ki.sig (e.length:Int))),(18,.d (ki.sig k))]) (fun m k=>[.row 1005 3 ki m]) (aS.l3.partial_correctness b e) ?_ _ _ h) ⟨u,u,u,u,u,u,u,u,tv⟩ u
    clear h
    intro f' ih m k h
    refine wSeq<|rx (c1<|.nil)<|pSeq<|wSeq ?_
    obtain⟨j,h⟩|⟨j,h⟩:=ik h
    ·refine wCT j.1 tm (s1 u)<|wSkip<|pSeq<|wSeq<|wBlock<|wSeq ?_
     obtain⟨o,q,h⟩:=bd h
     refine rx (cp (oIdx u31 z73 q tm tm) (s2 u u)<|c1<|cw (oAlloc (id:=9) (ls:=Z73) ze73 zl73) tv<|cwn (oStA (n:=0) (fs:=aw) u u z73 tm tm) (s2 u u)<|.nil)<|pSeq ?_
     obtain⟨B,s,h⟩:=bd h
     obtain⟨C,t,h⟩:=bd h
     obtain⟨w,h⟩:=ib h
     exact rx (c3<|cr (oLdA (n:=0) (fs:=aw) (u:=⟨o.Op,o.N,o.L⟩) u ⟨u,u,u,tv⟩ t73 tm) (s1 u)<|cp (oCallV u (rl1i (f:=B) t) (oGot s tm) (oc tm o0)) (s2 u u)<|cp (oLit (d:=ki) el56 (by decide) u u u (e1 tm e0)) (s1 u)<|cw (oApp (n:=1) (id':=28) el56 (by decide) u (by decide) w tm tm) (s2 u u)<|c1<|.nil)<|pBlkN<|pSeq<|rx (c2<|.nil)<|pDrop (.cons _ (.cons_cons _ .slnil))<|pSub (Γ':=[(2,.d (sP (kR cz) b)),(5,.v 28),(10,.d ((kL (kL (kR aw))).sig a1)),(11,.d (ki.sig (a1.length:Int))),(12,.d (ki.sig a)),(16,.d ((kL (kR aw)).sig e)),(17,.d (ki.sig (e.length:Int))),(18,.d (ki.sig (IntKind.i64.wrap (k+1))))]) (sb u)<|pRen 28 1005 u<|pLoop (lW (ih _ _ h) ⟨u,u,u,u,u,u,u,u,tv⟩ u)
    ·exact wCF j.1 tm (s1 u)<|wExit<|pThenX<|pThenX<|pBlkX<|pJ1 _ (so h) (sb u) u
   ·rintro g rfl
    replace h:=A
    exact pBlkN<|pSeq<|rx (c2<|.nil)<|pLoop (lW (ih _ _ h) ⟨u,u,u,u,u,tv⟩ u)
  ·exact wCF i.1 tm (s1 u)<|wExit<|pThenX<|pThenX<|pBlkX<|pJ1 _ (so h) (sb u) u
 ·rintro c rfl
  replace h:=y
  refine pSeq<|wSeq<|rx (c2<|.nil)<|pSeq<|wFrzR (n:=0) (id:=1005) [4] u u ⟨u,tv⟩<|wRet ?_
  obtain rfl:=so h
  exact pR1 (.inl u) u (.tmp u<|.nil)
theorem eh.ok{a:az} {a1:az} {r:Bool}(h:eh.f a a1=some r):FnA PP 81 [(kR am).sig a,(kR am).sig a1] (kB.sig r):=by
 refine fnIntro Tryz.func81 u (by kernel_rfl) fun H0 w0=>?_
 unfold eh.f at h
 refine wSeq<|rx (c3<|.nil)<|pSeq<|wSeq<|rx (c1<|.nil)<|pSeq<|wRet ?_
 obtain rfl:=so h
 exact pR1 (.inl u) u (.tmp u<|.nil)
theorem dS.ok{a:az} {r:Int}(h:dS.f a=some r):FnA PP 82 [(kR am).sig a] (ki.sig r):=by
 refine fnIntro Tryz.func82 u (by kernel_rfl) fun H0 w0=>?_
 unfold dS.f at h
 refine wSeq<|rx (c2<|.nil)<|pSeq<|wSeq<|rx (c3<|.nil)<|pSeq<|wRet ?_
 obtain rfl:=so h
 exact pR1 (.inl u) u (.tmp u<|.nil)
theorem er.ok{a:az} {a1:az} {r:Bool}(h:er.f a a1=some r):FnA PP 83 [(kR am).sig a,(kR am).sig a1] (kB.sig r):=by
 refine fnIntro Tryz.func83 u (by kernel_rfl) fun H0 w0=>?_
 unfold er.f at h
 refine wSeq<|rx (c3<|.nil)<|pSeq<|wSeq<|rx (c6<|.nil)<|pSeq<|wRet ?_
 obtain rfl:=so h
 exact pR1 (.inl u) u (.tmp u<|.nil)
theorem dI.ok{r:ci}(h:dI.f=some r):FnA PP 45 [] ((kR cA).sig r):=by
 refine fnIntro Tryz.func45 u (by kernel_rfl) fun H0 w0=>?_
 unfold dI.f at h
 refine wSeq<|rx (cw (oAlloc (id:=0) (ls:=Z104) ze104 zl104) tv<|.nil)<|pSeq<|wSeq<|rx (cp (oBuild (fs:=cA) (u:=⟨(some eh.f),(some dS.f),(some er.f)⟩) u ze104 pl104 po104 (.op (zc:=[.nilFunc]) (oSome (oFn b81 (rl2n eh.ok))) u (.op (zc:=[.nilFunc]) (oSome (oFn b82 (rl1n dS.ok))) u (.op (zc:=[.nilFunc]) (oSome (oFn b83 (rl2n er.ok))) u .nil)))) tv<|cwn (oStA (n:=0) (fs:=cA) u u z104 tm tm) (s2 u u)<|.nil)<|pSeq<|wRet ?_
 obtain rfl:=so h
 exact pR1 (.inl u) u (.box (n:=0) (fs:=cA) (u:=⟨(some eh.f),(some dS.f),(some er.f)⟩) u u ⟨u,u,u,tv⟩ t104<|.nil)
theorem aQ.ok{b:ci} {a1:List (List az)} {r:List Int}(h:aQ.f b a1=some r):FnA PP 44 [(kR cA).sig b,(kL (kL (kR am))).sig a1] ((kL ki).sig r):=by
 refine fnIntro Tryz.func44 u (by kernel_rfl) fun H0 w0=>?_
 unfold aQ.f at h
 refine wSeq<|rx (c1<|cp (oAs cV) tv<|.nil)<|pSeq<|wSeq<|rx (cp (oAs cV) tv<|.nil)<|pSeq<|wSeq<|wSeq<|rx (c3<|.nil)<|pSeq<|wNil ki 3 1005 5 u u ?_
 obtain⟨x,h,y⟩:=bd h
 refine wK1 (fun c=>c=x) (fun c=>[(5,.v 1005)]) (fun c=>[.row 1005 3 ki c]) ?_ ?_
 ·refine wBlock (wLoop ?_)
  refine lW (pc2 x (fun l a=>[(2,.d (sP (kR cA) b)),(5,.v 1005),(10,.d ((kL (kL (kR am))).sig a1)),(11,.d (ki.sig (a1.length:Int))),(12,.d (ki.sig a))]) (fun l a=>[.row 1005 3 ki l]) (aQ.l2.partial_correctness b a1) ?_ _ _ h) ⟨u,u,u,u,u,tv⟩ u
  clear h
  intro f' ih l a h
  refine wSeq<|rx (c1<|.nil)<|pSeq<|wSeq ?_
  obtain⟨i,h⟩|⟨i,h⟩:=ik h
  ·refine wCT i.1 tm (s1 u)<|wSkip<|pSeq<|wSeq<|wBlock<|wSeq ?_
   obtain⟨e,p,h⟩:=bd h
   refine rx (cp (oIdx u146 z32 p tm tm) (s2 u u)<|c2<|.nil)<|pSeq<|wSeq<|rx (c3<|.nil)<|pSeq ?_
   obtain⟨z,h,A⟩:=bd h
   refine wK1 (fun g=>g=z) (fun g=>[(2,.d (sP (kR cA) b)),(5,.v 1005),(10,.d ((kL (kL (kR am))).sig a1)),(11,.d (ki.sig (a1.length:Int))),(12,.d (ki.sig a))]) (fun g=>[.row 1005 3 ki g]) ?_ ?_
   ·refine wBlock (wLoop ?_)
    refine lW (pc2 z (fun m k=>[(2,.d (sP (kR cA) b)),(5,.v 1005),(10,.d ((kL (kL (kR am))).sig a1)),(11,.d (ki.sig (a1.length:Int))),(12,.d (ki.sig a)),(16,.d ((kL (kR am)).sig e)),(17,.d (ki.sig (e.length:Int))),(18,.d (ki.sig k))]) (fun m k=>[.row 1005 3 ki m]) (aQ.l3.partial_correctness b e) ?_ _ _ h) ⟨u,u,u,u,u,u,u,u,tv⟩ u
    clear h
    intro f' ih m k h
    refine wSeq<|rx (c1<|.nil)<|pSeq<|wSeq ?_
    obtain⟨j,h⟩|⟨j,h⟩:=ik h
    ·refine wCT j.1 tm (s1 u)<|wSkip<|pSeq<|wSeq<|wBlock<|wSeq ?_
     obtain⟨o,q,h⟩:=bd h
     refine rx (cp (oIdx u32 z30 q tm tm) (s2 u u)<|c1<|cw (oAlloc (id:=9) (ls:=Z30) ze30 zl30) tv<|cwn (oStA (n:=0) (fs:=am) u u z30 tm tm) (s2 u u)<|.nil)<|pSeq ?_
     obtain⟨B,s,h⟩:=bd h
     obtain⟨C,t,h⟩:=bd h
     obtain⟨w,h⟩:=ib h
     exact rx (c3<|cr (oLdA (n:=0) (fs:=am) (u:=⟨o.V,o.L⟩) u ⟨u,u,tv⟩ t30 tm) (s1 u)<|cp (oCallV u (rl1i (f:=B) t) (oGot s tm) (oc tm o0)) (s2 u u)<|cp (oLit (d:=ki) el56 (by decide) u u u (e1 tm e0)) (s1 u)<|cw (oApp (n:=1) (id':=28) el56 (by decide) u (by decide) w tm tm) (s2 u u)<|c1<|.nil)<|pBlkN<|pSeq<|rx (c2<|.nil)<|pDrop (.cons _ (.cons_cons _ .slnil))<|pSub (Γ':=[(2,.d (sP (kR cA) b)),(5,.v 28),(10,.d ((kL (kL (kR am))).sig a1)),(11,.d (ki.sig (a1.length:Int))),(12,.d (ki.sig a)),(16,.d ((kL (kR am)).sig e)),(17,.d (ki.sig (e.length:Int))),(18,.d (ki.sig (IntKind.i64.wrap (k+1))))]) (sb u)<|pRen 28 1005 u<|pLoop (lW (ih _ _ h) ⟨u,u,u,u,u,u,u,u,tv⟩ u)
    ·exact wCF j.1 tm (s1 u)<|wExit<|pThenX<|pThenX<|pBlkX<|pJ1 _ (so h) (sb u) u
   ·rintro g rfl
    replace h:=A
    exact pBlkN<|pSeq<|rx (c2<|.nil)<|pLoop (lW (ih _ _ h) ⟨u,u,u,u,u,tv⟩ u)
  ·exact wCF i.1 tm (s1 u)<|wExit<|pThenX<|pThenX<|pBlkX<|pJ1 _ (so h) (sb u) u
 ·rintro c rfl
  replace h:=y
  refine pSeq<|wSeq<|rx (c2<|.nil)<|pSeq<|wFrzR (n:=0) (id:=1005) [4] u u ⟨u,tv⟩<|wRet ?_
  obtain rfl:=so h
  exact pR1 (.inl u) u (.tmp u<|.nil)
theorem et.ok{a:av} {a1:av} {r:Bool}(h:et.f a a1=some r):FnA PP 84 [(kR au).sig a,(kR au).sig a1] (kB.sig r):=by
 refine fnIntro Tryz.func84 u (by kernel_rfl) fun H0 w0=>?_
 unfold et.f at h
 refine wSeq<|rx (c3<|.nil)<|pSeq<|wSeq<|rx (c4<|cp (oBEq u4 u tm tm) (s2 u u)<|c1<|.nil)<|pSeq<|wRet ?_
 obtain rfl:=so h
 exact pR1 (.inl u) u (.tmp u<|.nil)
theorem dU.ok{a:av} {r:Int}(h:dU.f a=some r):FnA PP 85 [(kR au).sig a] (ki.sig r):=by
 refine fnIntro Tryz.func85 u (by kernel_rfl) fun H0 w0=>?_
 unfold dU.f at h
 refine wSeq<|rx (c2<|.nil)<|pSeq<|wSeq<|rx (c3<|.nil)<|pSeq<|wRet ?_
 obtain rfl:=so h
 exact pR1 (.inl u) u (.tmp u<|.nil)
theorem eu.ok{a:av} {a1:av} {r:Bool}(h:eu.f a a1=some r):FnA PP 86 [(kR au).sig a,(kR au).sig a1] (kB.sig r):=by
 refine fnIntro Tryz.func86 u (by kernel_rfl) fun H0 w0=>?_
 unfold eu.f at h
 refine wSeq<|rx (c3<|.nil)<|pSeq<|wSeq<|rx (c6<|.nil)<|pSeq<|wRet ?_
 obtain rfl:=so h
 exact pR1 (.inl u) u (.tmp u<|.nil)
theorem dE.ok{r:cj}(h:dE.f=some r):FnA PP 47 [] ((kR cD).sig r):=by
 refine fnIntro Tryz.func47 u (by kernel_rfl) fun H0 w0=>?_
 unfold dE.f at h
 refine wSeq<|rx (cw (oAlloc (id:=0) (ls:=Z110) ze110 zl110) tv<|.nil)<|pSeq<|wSeq<|rx (cp (oBuild (fs:=cD) (u:=⟨(some et.f),(some dU.f),(some eu.f)⟩) u ze110 pl110 po110 (.op (zc:=[.nilFunc]) (oSome (oFn b84 (rl2n et.ok))) u (.op (zc:=[.nilFunc]) (oSome (oFn b85 (rl1n dU.ok))) u (.op (zc:=[.nilFunc]) (oSome (oFn b86 (rl2n eu.ok))) u .nil)))) tv<|cwn (oStA (n:=0) (fs:=cD) u u z110 tm tm) (s2 u u)<|.nil)<|pSeq<|wRet ?_
 obtain rfl:=so h
 exact pR1 (.inl u) u (.box (n:=0) (fs:=cD) (u:=⟨(some et.f),(some dU.f),(some eu.f)⟩) u u ⟨u,u,u,tv⟩ t110<|.nil)
theorem aT.ok{b:cj} {a1:List (List av)} {r:List Int}(h:aT.f b a1=some r):FnA PP 46 [(kR cD).sig b,(kL (kL (kR au))).sig a1] ((kL ki).sig r):=by
 refine fnIntro Tryz.func46 u (by kernel_rfl) fun H0 w0=>?_
 unfold aT.f at h
 refine wSeq<|rx (c1<|cp (oAs cV) tv<|.nil)<|pSeq<|wSeq<|rx (cp (oAs cV) tv<|.nil)<|pSeq<|wSeq<|wSeq<|rx (c3<|.nil)<|pSeq<|wNil ki 3 1005 5 u u ?_
 obtain⟨x,h,y⟩:=bd h
 refine wK1 (fun c=>c=x) (fun c=>[(5,.v 1005)]) (fun c=>[.row 1005 3 ki c]) ?_ ?_
 ·refine wBlock (wLoop ?_)
  refine lW (pc2 x (fun l a=>[(2,.d (sP (kR cD) b)),(5,.v 1005),(10,.d ((kL (kL (kR au))).sig a1)),(11,.d (ki.sig (a1.length:Int))),(12,.d (ki.sig a))]) (fun l a=>[.row 1005 3 ki l]) (aT.l2.partial_correctness b a1) ?_ _ _ h) ⟨u,u,u,u,u,tv⟩ u
  clear h
  intro f' ih l a h
  refine wSeq<|rx (c1<|.nil)<|pSeq<|wSeq ?_
  obtain⟨i,h⟩|⟨i,h⟩:=ik h
  ·refine wCT i.1 tm (s1 u)<|wSkip<|pSeq<|wSeq<|wBlock<|wSeq ?_
   obtain⟨e,p,h⟩:=bd h
   refine rx (cp (oIdx u147 z33 p tm tm) (s2 u u)<|c2<|.nil)<|pSeq<|wSeq<|rx (c3<|.nil)<|pSeq ?_
   obtain⟨z,h,A⟩:=bd h
   refine wK1 (fun g=>g=z) (fun g=>[(2,.d (sP (kR cD) b)),(5,.v 1005),(10,.d ((kL (kL (kR au))).sig a1)),(11,.d (ki.sig (a1.length:Int))),(12,.d (ki.sig a))]) (fun g=>[.row 1005 3 ki g]) ?_ ?_
   ·refine wBlock (wLoop ?_)
    refine lW (pc2 z (fun m k=>[(2,.d (sP (kR cD) b)),(5,.v 1005),(10,.d ((kL (kL (kR au))).sig a1)),(11,.d (ki.sig (a1.length:Int))),(12,.d (ki.sig a)),(16,.d ((kL (kR au)).sig e)),(17,.d (ki.sig (e.length:Int))),(18,.d (ki.sig k))]) (fun m k=>[.row 1005 3 ki m]) (aT.l3.partial_correctness b e) ?_ _ _ h) ⟨u,u,u,u,u,u,u,u,tv⟩ u
    clear h
    intro f' ih m k h
    refine wSeq<|rx (c1<|.nil)<|pSeq<|wSeq ?_
    obtain⟨j,h⟩|⟨j,h⟩:=ik h
    ·refine wCT j.1 tm (s1 u)<|wSkip<|pSeq<|wSeq<|wBlock<|wSeq ?_
     obtain⟨o,q,h⟩:=bd h
     refine rx (cp (oIdx u33 z88 q tm tm) (s2 u u)<|c1<|cw (oAlloc (id:=9) (ls:=Z88) ze88 zl88) tv<|cwn (oStA (n:=0) (fs:=au) u u z88 tm tm) (s2 u u)<|.nil)<|pSeq ?_
     obtain⟨B,s,h⟩:=bd h
     obtain⟨C,t,h⟩:=bd h
     obtain⟨w,h⟩:=ib h
     exact rx (c3<|cr (oLdA (n:=0) (fs:=au) (u:=⟨o.Ret,o.V,o.L⟩) u ⟨u,u,u,tv⟩ t88 tm) (s1 u)<|cp (oCallV u (rl1i (f:=B) t) (oGot s tm) (oc tm o0)) (s2 u u)<|cp (oLit (d:=ki) el56 (by decide) u u u (e1 tm e0)) (s1 u)<|cw (oApp (n:=1) (id':=28) el56 (by decide) u (by decide) w tm tm) (s2 u u)<|c1<|.nil)<|pBlkN<|pSeq<|rx (c2<|.nil)<|pDrop (.cons _ (.cons_cons _ .slnil))<|pSub (Γ':=[(2,.d (sP (kR cD) b)),(5,.v 28),(10,.d ((kL (kL (kR au))).sig a1)),(11,.d (ki.sig (a1.length:Int))),(12,.d (ki.sig a)),(16,.d ((kL (kR au)).sig e)),(17,.d (ki.sig (e.length:Int))),(18,.d (ki.sig (IntKind.i64.wrap (k+1))))]) (sb u)<|pRen 28 1005 u<|pLoop (lW (ih _ _ h) ⟨u,u,u,u,u,u,u,u,tv⟩ u)
    ·exact wCF j.1 tm (s1 u)<|wExit<|pThenX<|pThenX<|pBlkX<|pJ1 _ (so h) (sb u) u
   ·rintro g rfl
    replace h:=A
    exact pBlkN<|pSeq<|rx (c2<|.nil)<|pLoop (lW (ih _ _ h) ⟨u,u,u,u,u,tv⟩ u)
  ·exact wCF i.1 tm (s1 u)<|wExit<|pThenX<|pThenX<|pBlkX<|pJ1 _ (so h) (sb u) u
 ·rintro c rfl
  replace h:=y
  refine pSeq<|wSeq<|rx (c2<|.nil)<|pSeq<|wFrzR (n:=0) (id:=1005) [4] u u ⟨u,tv⟩<|wRet ?_
  obtain rfl:=so h
  exact pR1 (.inl u) u (.tmp u<|.nil)
theorem di.ok{a1:Int} {r:(List Int)}(h:di.f a1=some r):FnS PP 77 [.d (sV (.slice none 0 0)),.d (ki.sig a1)] [] [] (.v 80000) [.row 80000 3 ki r]:=by
 refine fnIntroS Tryz.func77 u (by kernel_rfl) fun X H0 w0 pv=>?_
 unfold di.f at h
 refine wSeq<|rx (cp (oAs cV) tv<|.nil)<|pSeq<|wSeq<|wSeq<|rx (c2<|.nil)<|pSeq ?_
 obtain⟨a,h⟩|⟨a,h⟩:=ik h
 ·refine wCT a.1 tm (s1 u) ?_
  cases h
 ·refine wCF a.1 tm (s1 u)<|wSkip<|pSeq<|wSeq<|wSeq<|rx (c2<|cp (oCapN u56 tm) (s1 u)<|c1<|cp (oLenL u56 (tmN (d:=ki))) (s1 u)<|c3<|.nil)<|pSeq<|wSeq<|rx (c2<|.nil)<|pSeq ?_
  obtain⟨b,h⟩|⟨b,h⟩:=ik h
  ·refine wCT b.1 tm (s1 u) ?_
   obtain⟨c,h⟩:=ib h
   obtain⟨e,h⟩:=ib h
   refine rx (c2<|cp (oCapN u56 tm) (s1 u)<|cp (oCutN u56 z3 u tm tm) (s2 u u)<|c1<|cw (oAppZ (id:=22) (d:=ki) el56 u3 (by decide) (by decide) ze3 zI_i64 c.1 c.2 tm tm) (s2 u u)<|c1<|cp (oLenL u56 (tmN (d:=ki))) (s1 u)<|cw (oCutR (n:=0) (id':=25) u56 z3 u e.1 e.2 tm tm) (s2 u u)<|c1<|.nil)<|pSeq<|wSeq<|rx (c2<|.nil)<|pSeq<|wRet ?_
   obtain rfl:=so h
   exact pSub (Γ':=[(4,.v 25)]) (sb u)<|pRen 25 80000 u<|pSv [0] u u (.inl u) u u
  ·refine wCF b.1 tm (s1 u)<|wSkip<|pSeq<|wSeq<|rx (c2<|.nil)<|pSeq<|wNil ki 3 9004 4 u u<|wRet ?_
   obtain rfl:=so h
   exact pSub (Γ':=[(4,.v 9004)]) (sb u)<|pRen 9004 80000 u<|pSv [0] u u (.inl u) u u
theorem aV.ok{a:List (List Int)} {r:List Int}(h:aV.f a=some r):FnA PP 41 [(kL (kL ki)).sig a] ((kL ki).sig r):=by
 refine fnIntro Tryz.func41 u (by kernel_rfl) fun H0 w0=>?_
 unfold aV.f at h
 refine wSeq<|rx (cp (oAs cV) tv<|.nil)<|pSeq<|wSeq<|rx (c1<|.nil)<|pSeq<|wSeq<|wSeq<|rx (c3<|.nil)<|pSeq ?_
 obtain⟨m,h,o⟩:=bd h
 refine wK1 (fun b=>b=m) (fun b=>[(0,.d ((kL (kL ki)).sig a)),(3,.d (ki.sig b))]) (fun b=>[]) ?_ ?_
 ·refine wBlock (wLoop ?_)
  refine lW (pc2 m (fun k p=>[(0,.d ((kL (kL ki)).sig a)),(3,.d (ki.sig p)),(9,.d ((kL (kL ki)).sig a)),(10,.d (ki.sig (a.length:Int))),(11,.d (ki.sig k))]) (fun k p=>[]) (aV.l0.partial_correctness a) ?_ _ _ h) ⟨u,u,u,u,u,tv⟩ u
  clear h
  intro f' ih k p h
  refine wSeq<|rx (c1<|.nil)<|pSeq<|wSeq ?_
  obtain⟨g,h⟩|⟨g,h⟩:=ik h
  ·refine wCT g.1 tm (s1 u)<|wSkip<|pSeq ?_
   obtain⟨A,h,y⟩:=bd h
   refine wJ1 (fun c=>c=A) (fun c=>[(0,.d ((kL (kL ki)).sig a)),(3,.d (ki.sig c)),(9,.d ((kL (kL ki)).sig a)),(10,.d (ki.sig (a.length:Int))),(11,.d (ki.sig k))]) (fun c=>[]) ?_ ?_
   ·refine wBlock<|wSeq ?_
    obtain⟨B,s,h⟩:=bd h
    refine rx (cp (oIdx u143 z56 s tm tm) (s2 u u)<|c2<|.nil)<|pSeq<|wSeq<|rx (c4<|c1<|.nil)<|pSeq<|wSeq<|rx (c2<|.nil)<|pSeq ?_
    obtain⟨i,h⟩|⟨i,h⟩:=ik h
    ·refine wCT i.1 tm (s1 u) ?_
     cases h
    ·exact wCF i.1 tm (s1 u)<|wSkip<|pBlkN<|pJ1 _ (so h) (sb u) u
   ·rintro c rfl
    replace h:=y
    exact rx (c2<|.nil)<|pLoop (lW (ih _ _ h) ⟨u,u,u,u,u,tv⟩ u)
  ·exact wCF g.1 tm (s1 u)<|wExit<|pThenX<|pThenX<|pBlkX<|pJ1 _ (so h) (sb u) u
 ·rintro b rfl
  replace h:=o
  refine pSeq<|wSeq ?_
  obtain⟨z,t,h⟩:=bd h
  refine rx (c1<|cm (oCallS (rest:=[]) (R':=[.row 390040 3 ki z]) (out':=.v 390040) [] [(80000,390040)] [] [] [0] u (di.ok t) b77 (oE1 cV (oE1 tm oE0)) u u u u u u u u) (s1 u)<|c1<|.nil)<|pSeq<|wSeq<|wSeq<|rx (c3<|.nil)<|pSeq<|wWeak (Γ':=[(6,.v 390040),(25,.d ((kL (kL ki)).sig a)),(26,.d (ki.sig (a.length:Int))),(27,.d (ki.sig 0))]) (sb u)<|wRen 390040 1006 u ?_
  obtain⟨m,h,o⟩:=bd h
  refine wK1 (fun e=>e=m) (fun e=>[(6,.v 1006)]) (fun e=>[.row 1006 3 ki e]) ?_ ?_
  ·refine wBlock (wLoop ?_)
   refine lW (pc2 m (fun q l=>[(6,.v 1006),(25,.d ((kL (kL ki)).sig a)),(26,.d (ki.sig (a.length:Int))),(27,.d (ki.sig l))]) (fun q l=>[.row 1006 3 ki q]) (aV.l1.partial_correctness a) ?_ _ _ h) ⟨u,u,u,u,tv⟩ u
   clear h
   intro f' ih q l h
   refine wSeq<|rx (c1<|.nil)<|pSeq<|wSeq ?_
   obtain⟨j,h⟩|⟨j,h⟩:=ik h
   ·refine wCT j.1 tm (s1 u)<|wSkip<|pSeq<|wSeq<|wBlock<|wSeq ?_
    obtain⟨C,w,h⟩:=bd h
    refine rx (cp (oIdx u143 z56 w tm tm) (s2 u u)<|c2<|.nil)<|pSeq ?_
    obtain⟨x,h⟩:=ib h
    exact rx (c2<|cw (oApp (n:=0) (id':=33) el56 (by decide) u (by decide) x tm tm) (s2 u u)<|c1<|.nil)<|pBlkN<|pSeq<|rx (c2<|.nil)<|pSub (Γ':=[(6,.v 33),(25,.d ((kL (kL ki)).sig a)),(26,.d (ki.sig (a.length:Int))),(27,.d (ki.sig (IntKind.i64.wrap (l+1))))]) (sb u)<|pRen 33 1006 u<|pLoop (lW (ih _ _ h) ⟨u,u,u,u,tv⟩ u)
   ·exact wCF j.1 tm (s1 u)<|wExit<|pThenX<|pThenX<|pBlkX<|pJ1 _ (so h) (sb u) u
  ·rintro e rfl
   replace h:=o
   refine pSeq<|wSeq<|rx (c2<|.nil)<|pSeq<|wFrzR (n:=0) (id:=1006) [2] u u ⟨u,tv⟩<|wRet ?_
   obtain rfl:=so h
   exact pR1 (.inl u) u (.tmp u<|.nil)
theorem eQ.ok{b:Int} {a1:aq} {r:Bool}(h:eQ.f b a1=some r):FnA PP 87 [ki.sig b,sP (kR aA) a1] (kB.sig r):=by
 refine fnIntro Tryz.func87 u (by kernel_rfl) fun H0 w0=>?_
 unfold eQ.f at h
 refine wSeq<|rx (c1<|.nil)<|pSeq ?_
 obtain⟨g,h,c⟩:=bd h
 refine wJ1 (fun a=>a=g) (fun a=>[(3,.d (kB.sig a))]) (fun a=>[]) ?_ ?_
 ·obtain⟨e,h⟩|⟨e,h⟩:=ik h
  ·exact rx (c8<|c2<|.nil)<|pJ1 _ (so h) (sb u) u
  ·exact rx (c8<|c2<|.nil)<|pJ1 _ (so h) (sb u) u
 ·rintro a rfl
  replace h:=c
  refine wRet ?_
  obtain rfl:=so h
  exact pR1 (.inl u) u (.tmp u<|.nil)
theorem eH.ok{c:aq} {a1:List Int} {r:Int}(h:eH.f c a1=some r):FnA PP 48 [(kR aA).sig c,(kL ki).sig a1] (ki.sig r):=by
 refine fnIntro Tryz.func48 u (by kernel_rfl) fun H0 w0=>?_
 unfold eH.f at h
 refine wSeq<|rx (c2<|.nil)<|pSeq<|wSeq<|wSeq ?_
 obtain⟨i,d,h⟩:=bd h
 refine rx (c1<|cC (bE.ok d)<|c1<|.nil)<|pSeq<|wSeq<|rx (c2<|.nil)<|pSeq ?_
 obtain⟨a,h⟩|⟨a,h⟩:=ik h
 ·refine wNT a.1 tm (s1 u)<|wSkip<|pSeq<|wSeq<|wSeq ?_
  obtain⟨j,e,h⟩:=bd h
  refine rx (c1<|cp (oMkF (Rl:=rl1 ki kB (fun g=>eQ.f g c)) u b87 (rl1e eQ.ok) (oc tm o0)) (s1 u)<|cC (bB.ok e)<|.nil)<|pSeq ?_
  obtain⟨b,h⟩|⟨b,h⟩:=ik h
  ·refine wBT b.1 tm (s1 u)<|wSeq<|rx (c1<|.nil)<|pSeq<|wRet<|pThenR ?_
   obtain rfl:=so h
   exact pR1 (.inl u) u (.tmp u<|.nil)
  ·refine wBF b.1 tm (s1 u)<|wSkip<|pSeq<|wSeq<|rx (c1<|.nil)<|pSeq<|wRet ?_
   obtain rfl:=so h
   exact pR1 (.inl u) u (.tmp u<|.nil)
 ·refine wNF a.1 tm (s1 u)<|wSeq<|rx (c2<|.nil)<|pSeq<|wRet<|pThenR ?_
  obtain rfl:=so h
  exact pR1 (.inl u) u (.tmp u<|.nil)
theorem bj.ok{a:bp} {a1:Int} {r:Bool}(h:bj.f a a1=some r):FnA PP 52 [(kR bx).sig a,ki.sig a1] (kB.sig r):=by
 refine fnIntro Tryz.func52 u (by kernel_rfl) fun H0 w0=>?_
 unfold bj.f at h
 refine wSeq<|rx (c2<|.nil)<|pSeq<|wSeq ?_
 obtain⟨c,b,h⟩:=bd h
 refine rx (c4<|c1<|cC (cP.ok b)<|c4<|c1<|.nil)<|pSeq<|wSeq<|rx (c2<|.nil)<|pSeq<|wRet ?_
 obtain rfl:=so h
 exact pR1 (.inl u) u (.tmp u<|.nil)
theorem aB.ok{c:List aE} {a1:List aE} {a2:aE->aE->Option Bool} {r:Bool}(h:aB.f c a1 a2=some r):FnA PP 88 [(kL (kR aw)).sig c,(kL (kR aw)).sig a1,(sFun PP (rl2 (kR aw) (kR aw) kB a2))] (kB.sig r):=by
 refine fnIntro Tryz.func88 u (by kernel_rfl) fun H0 w0=>?_
 unfold aB.f at h
 refine wSeq<|rx (c1<|.nil)<|pSeq<|wSeq<|wSeq<|rx (c4<|c1<|.nil)<|pSeq ?_
 obtain⟨e,h⟩|⟨e,h⟩:=ik h
 ·refine wNT e.1 tm (s1 u)<|wSkip<|pSeq<|wSeq<|wSeq<|rx (c3<|.nil)<|pSeq ?_
  obtain⟨m,h,i⟩:=bd h
  refine wK0 (.inr ()=m) ([]) ([]) ?_ ?_
  ·refine wBlock (wLoop ?_)
   refine lW (pc1 m (fun g=>[(1,.d ((kL (kR aw)).sig a1)),(2,.d ((sFun PP (rl2 (kR aw) (kR aw) kB a2)))),(15,.d ((kL (kR aw)).sig c)),(16,.d (ki.sig (c.length:Int))),(17,.d (ki.sig g))]) (fun g=>[]) (aB.l0.partial_correctness c a1 a2) ?_ _ h) ⟨u,u,u,u,u,tv⟩ u
   clear h
   intro f' ih g h
   refine wSeq<|rx (c1<|.nil)<|pSeq<|wSeq ?_
   obtain⟨a,h⟩|⟨a,h⟩:=ik h
   ·refine wCT a.1 tm (s1 u)<|wSkip<|pSeq<|wSeq<|wBlock<|wSeq ?_
    obtain⟨y14,j,h⟩:=bd h
    refine rx (c1<|cp (oIdx u31 z73 j tm tm) (s2 u u)<|c1<|cw (oAlloc (id:=8) (ls:=Z73) ze73 zl73) tv<|c1<|cwn (oStA (n:=0) (fs:=aw) u u z73 tm tm) (s2 u u)<|.nil)<|pSeq<|wSeq ?_
    obtain⟨y15,k,h⟩:=bd h
    refine rx (c2<|cp (oIdx u31 z73 k tm tm) (s2 u u)<|c1<|cw (oAlloc (id:=9) (ls:=Z73) ze73 zl73) tv<|cwn (oStA (n:=0) (fs:=aw) u u z73 tm tm) (s2 u u)<|.nil)<|pSeq<|wSeq ?_
    obtain⟨y16,l,h⟩:=bd h
    refine rx (c1<|cr (oLdA (n:=1) (fs:=aw) (u:=⟨y14.Op,y14.N,y14.L⟩) u ⟨u,u,u,tv⟩ t73 tm) (s1 u)<|cr (oLdA (n:=0) (fs:=aw) (u:=⟨y15.Op,y15.N,y15.L⟩) u ⟨u,u,u,tv⟩ t73 tm) (s1 u)<|cp (oCallV u (rl2i (f:=a2) l) tm (oc tm (oc tm o0))) (s3 u u u)<|c1<|.nil)<|pSeq ?_
    obtain⟨b,h⟩|⟨b,h⟩:=ik h
    ·refine wBT b.1 tm (s1 u)<|wSeq<|rx (c1<|.nil)<|pSeq<|wRet<|pBlkR<|pThenR<|pThenR<|pBlkR<|pThenR ?_
     obtain rfl:=so h
     replace h:=i
     refine pThenR ?_
     obtain rfl:=so h
     exact pR1 (.inl u) u (.tmp u<|.nil)
    ·exact wBF b.1 tm (s1 u)<|wSkip<|pBlkN<|pSeq<|rx (c2<|.nil)<|pDrop (.cons _ (.cons _ .slnil))<|pLoop (lW (ih _ h) ⟨u,u,u,u,u,tv⟩ u)
   ·exact wCF a.1 tm (s1 u)<|wExit<|pThenX<|pThenX<|pBlkX<|pJ0 (so h) tv u
  ·rintro rfl
   replace h:=i
   refine pSeq<|wSeq<|rx (c1<|.nil)<|pSeq<|wRet ?_
   obtain rfl:=so h
   exact pR1 (.inl u) u (.tmp u<|.nil)
 ·refine wNF e.1 tm (s1 u)<|wSeq<|rx (c1<|.nil)<|pSeq<|wRet<|pThenR ?_
  obtain rfl:=so h
  exact pR1 (.inl u) u (.tmp u<|.nil)
theorem bX.ok{x:aE} {a1:aE} {a2:cf} {a3:bp} {r:Bool}(h:bX.f x a1 a2 a3=some r):FnA PP 89 [(kR aw).sig x,(kR aw).sig a1,sP (kR cz) a2,sP (kR bx) a3] (kB.sig r):=by
 refine fnIntro Tryz.func89 u (by kernel_rfl) fun H0 w0=>?_
 unfold bX.f at h
 refine wSeq<|rx (c3<|.nil)<|pSeq ?_
 obtain⟨A,h,y⟩:=bd h
 refine wJ1 (fun g=>g=A) (fun g=>[(6,.d (kB.sig g))]) (fun g=>[]) ?_ ?_
 ·obtain⟨y16,c,h⟩:=bd h
  obtain⟨B,e,h⟩:=bd h
  obtain⟨a,h⟩|⟨a,h⟩:=ik h
  ·obtain⟨m,i,h⟩:=bd h
   obtain⟨C,j,h⟩:=bd h
   obtain⟨n,k,h⟩:=bd h
   obtain⟨D,l,h⟩:=bd h
   obtain⟨b,h⟩|⟨b,h⟩:=ik h
   ·obtain⟨t,o,h⟩:=bd h
    obtain⟨E,p,h⟩:=bd h
    obtain⟨F,q,h⟩:=bd h
    obtain⟨s,h⟩|⟨s,h⟩:=ik h
    ·exact rdx hm (c4<|cp (oCallV u (rl2i (f:=y16) e) (oGot c tm) (oc tm (oc tm o0))) (s3 u u u)<|c4<|cgB a.1 u u (oCallV u (rl1i (f:=m) j) (oGot i tm) (oc tm o0)) (s2 u u)<|c3<|cgB a.1 u u (oCallV u (rl1i (f:=n) l) (oGot k tm) (oc tm o0)) (s2 u u)<|c6<|c1<|cgB (dT b.1) u u (oCallV u (rl1i (f:=t) p) (oGot o tm) (oc tm o0)) (s2 u u)<|cgB (dT b.1) u u (oCall u (bj.ok q) b52 (oc tm (oc tm o0))) (s2 u u)<|c8<|c2<|.nil)<|pJ1 _ (so h) (sb u) u
    ·obtain⟨z,v,h⟩:=bd h
     obtain⟨G,w,h⟩:=bd h
     exact rdx hm (c4<|cp (oCallV u (rl2i (f:=y16) e) (oGot c tm) (oc tm (oc tm o0))) (s3 u u u)<|c4<|cgB a.1 u u (oCallV u (rl1i (f:=m) j) (oGot i tm) (oc tm o0)) (s2 u u)<|c3<|cgB a.1 u u (oCallV u (rl1i (f:=n) l) (oGot k tm) (oc tm o0)) (s2 u u)<|c6<|c1<|cgB (dT b.1) u u (oCallV u (rl1i (f:=t) p) (oGot o tm) (oc tm o0)) (s2 u u)<|cgB (dT b.1) u u (oCall u (bj.ok q) b52 (oc tm (oc tm o0))) (s2 u u)<|c6<|cgB (nb s.1) u u (oCallV u (rl2i (f:=z) w) (oGot v tm) (oc tm (oc tm o0))) (s3 u u u)<|c3<|.nil)<|pJ1 _ (so h) (sb u) u
   ·exact rdx hm (c4<|cp (oCallV u (rl2i (f:=y16) e) (oGot c tm) (oc tm (oc tm o0))) (s3 u u u)<|c4<|cgB a.1 u u (oCallV u (rl1i (f:=m) j) (oGot i tm) (oc tm o0)) (s2 u u)<|c3<|cgB a.1 u u (oCallV u (rl1i (f:=n) l) (oGot k tm) (oc tm o0)) (s2 u u)<|c8<|c3<|csU u u<|csU u u<|csU u u<|csU u u<|csU u u<|c3<|.nil)<|pJ1 _ (so h) (sb u) u
  ·exact rdx hm (c4<|cp (oCallV u (rl2i (f:=y16) e) (oGot c tm) (oc tm (oc tm o0))) (s3 u u u)<|c12<|c8<|csU u u<|csU u u<|csU u u<|csU u u<|csU u u<|c3<|.nil)<|pJ1 _ (so h) (sb u) u
 ·rintro g rfl
  replace h:=y
  refine wRet ?_
  obtain rfl:=so h
  exact pR1 (.inl u) u (.tmp u<|.nil)
theorem bZ.ok{a:bp} {a1:cf} {a2:List aE} {a3:List aE} {r:Bool}(h:bZ.f a a1 a2 a3=some r):FnA PP 49 [(kR bx).sig a,(kR cz).sig a1,(kL (kR aw)).sig a2,(kL (kR aw)).sig a3] (kB.sig r):=by
 refine fnIntro Tryz.func49 u (by kernel_rfl) fun H0 w0=>?_
 unfold bZ.f at h
 refine wSeq<|rx (c3<|.nil)<|pSeq<|wSeq ?_
 obtain⟨e,b,h⟩:=bd h
 refine rx (c2<|cp (oMkF (Rl:=rl2 (kR aw) (kR aw) kB (fun c d=>bX.f c d a1 a)) u b89 (rl2e bX.ok) (oc tm (oc tm o0))) (s2 u u)<|cC (aB.ok b)<|c1<|.nil)<|pSeq<|wRet ?_
 obtain rfl:=so h
 exact pR1 (.inl u) u (.tmp u<|.nil)
theorem aC.ok{c:List az} {a1:List az} {a2:az->az->Option Bool} {r:Bool}(h:aC.f c a1 a2=some r):FnA PP 90 [(kL (kR am)).sig c,(kL (kR am)).sig a1,(sFun PP (rl2 (kR am) (kR am) kB a2))] (kB.sig r):=by
 refine fnIntro Tryz.func90 u (by kernel_rfl) fun H0 w0=>?_
 unfold aC.f at h
 refine wSeq<|rx (c1<|.nil)<|pSeq<|wSeq<|wSeq<|rx (c4<|c1<|.nil)<|pSeq ?_
 obtain⟨e,h⟩|⟨e,h⟩:=ik h
 ·refine wNT e.1 tm (s1 u)<|wSkip<|pSeq<|wSeq<|wSeq<|rx (c3<|.nil)<|pSeq ?_
  obtain⟨m,h,i⟩:=bd h
  refine wK0 (.inr ()=m) ([]) ([]) ?_ ?_
  ·refine wBlock (wLoop ?_)
   refine lW (pc1 m (fun g=>[(1,.d ((kL (kR am)).sig a1)),(2,.d ((sFun PP (rl2 (kR am) (kR am) kB a2)))),(15,.d ((kL (kR am)).sig c)),(16,.d (ki.sig (c.length:Int))),(17,.d (ki.sig g))]) (fun g=>[]) (aC.l0.partial_correctness c a1 a2) ?_ _ h) ⟨u,u,u,u,u,tv⟩ u
   clear h
   intro f' ih g h
   refine wSeq<|rx (c1<|.nil)<|pSeq<|wSeq ?_
   obtain⟨a,h⟩|⟨a,h⟩:=ik h
   ·refine wCT a.1 tm (s1 u)<|wSkip<|pSeq<|wSeq<|wBlock<|wSeq ?_
    obtain⟨y14,j,h⟩:=bd h
    refine rx (c1<|cp (oIdx u32 z30 j tm tm) (s2 u u)<|c1<|cw (oAlloc (id:=8) (ls:=Z30) ze30 zl30) tv<|c1<|cwn (oStA (n:=0) (fs:=am) u u z30 tm tm) (s2 u u)<|.nil)<|pSeq<|wSeq ?_
    obtain⟨y15,k,h⟩:=bd h
    refine rx (c2<|cp (oIdx u32 z30 k tm tm) (s2 u u)<|c1<|cw (oAlloc (id:=9) (ls:=Z30) ze30 zl30) tv<|cwn (oStA (n:=0) (fs:=am) u u z30 tm tm) (s2 u u)<|.nil)<|pSeq<|wSeq ?_
    obtain⟨y16,l,h⟩:=bd h
    refine rx (c1<|cr (oLdA (n:=1) (fs:=am) (u:=⟨y14.V,y14.L⟩) u ⟨u,u,tv⟩ t30 tm) (s1 u)<|cr (oLdA (n:=0) (fs:=am) (u:=⟨y15.V,y15.L⟩) u ⟨u,u,tv⟩ t30 tm) (s1 u)<|cp (oCallV u (rl2i (f:=a2) l) tm (oc tm (oc tm o0))) (s3 u u u)<|c1<|.nil)<|pSeq ?_
    obtain⟨b,h⟩|⟨b,h⟩:=ik h
    ·refine wBT b.1 tm (s1 u)<|wSeq<|rx (c1<|.nil)<|pSeq<|wRet<|pBlkR<|pThenR<|pThenR<|pBlkR<|pThenR ?_
     obtain rfl:=so h
     replace h:=i
     refine pThenR ?_
     obtain rfl:=so h
     exact pR1 (.inl u) u (.tmp u<|.nil)
    ·exact wBF b.1 tm (s1 u)<|wSkip<|pBlkN<|pSeq<|rx (c2<|.nil)<|pDrop (.cons _ (.cons _ .slnil))<|pLoop (lW (ih _ h) ⟨u,u,u,u,u,tv⟩ u)
   ·exact wCF a.1 tm (s1 u)<|wExit<|pThenX<|pThenX<|pBlkX<|pJ0 (so h) tv u
  ·rintro rfl
   replace h:=i
   refine pSeq<|wSeq<|rx (c1<|.nil)<|pSeq<|wRet ?_
   obtain rfl:=so h
   exact pR1 (.inl u) u (.tmp u<|.nil)
 ·refine wNF e.1 tm (s1 u)<|wSeq<|rx (c1<|.nil)<|pSeq<|wRet<|pThenR ?_
  obtain rfl:=so h
  exact pR1 (.inl u) u (.tmp u<|.nil)
theorem ck.ok{x:az} {a1:az} {a2:ci} {a3:bp} {r:Bool}(h:ck.f x a1 a2 a3=some r):FnA PP 91 [(kR am).sig x,(kR am).sig a1,sP (kR cA) a2,sP (kR bx) a3] (kB.sig r):=by
 refine fnIntro Tryz.func91 u (by kernel_rfl) fun H0 w0=>?_
 unfold ck.f at h
 refine wSeq<|rx (c3<|.nil)<|pSeq ?_
 obtain⟨A,h,y⟩:=bd h
 refine wJ1 (fun g=>g=A) (fun g=>[(6,.d (kB.sig g))]) (fun g=>[]) ?_ ?_
 ·obtain⟨y16,c,h⟩:=bd h
  obtain⟨B,e,h⟩:=bd h
  obtain⟨a,h⟩|⟨a,h⟩:=ik h
  ·obtain⟨m,i,h⟩:=bd h
   obtain⟨C,j,h⟩:=bd h
   obtain⟨n,k,h⟩:=bd h
   obtain⟨D,l,h⟩:=bd h
   obtain⟨b,h⟩|⟨b,h⟩:=ik h
   ·obtain⟨t,o,h⟩:=bd h
    obtain⟨E,p,h⟩:=bd h
    obtain⟨F,q,h⟩:=bd h
    obtain⟨s,h⟩|⟨s,h⟩:=ik h
    ·exact rdx hm (c4<|cp (oCallV u (rl2i (f:=y16) e) (oGot c tm) (oc tm (oc tm o0))) (s3 u u u)<|c4<|cgB a.1 u u (oCallV u (rl1i (f:=m) j) (oGot i tm) (oc tm o0)) (s2 u u)<|c3<|cgB a.1 u u (oCallV u (rl1i (f:=n) l) (oGot k tm) (oc tm o0)) (s2 u u)<|c6<|c1<|cgB (dT b.1) u u (oCallV u (rl1i (f:=t) p) (oGot o tm) (oc tm o0)) (s2 u u)<|cgB (dT b.1) u u (oCall u (bj.ok q) b52 (oc tm (oc tm o0))) (s2 u u)<|c8<|c2<|.nil)<|pJ1 _ (so h) (sb u) u
    ·obtain⟨z,v,h⟩:=bd h
     obtain⟨G,w,h⟩:=bd h
     exact rdx hm (c4<|cp (oCallV u (rl2i (f:=y16) e) (oGot c tm) (oc tm (oc tm o0))) (s3 u u u)<|c4<|cgB a.1 u u (oCallV u (rl1i (f:=m) j) (oGot i tm) (oc tm o0)) (s2 u u)<|c3<|cgB a.1 u u (oCallV u (rl1i (f:=n) l) (oGot k tm) (oc tm o0)) (s2 u u)<|c6<|c1<|cgB (dT b.1) u u (oCallV u (rl1i (f:=t) p) (oGot o tm) (oc tm o0)) (s2 u u)<|cgB (dT b.1) u u (oCall u (bj.ok q) b52 (oc tm (oc tm o0))) (s2 u u)<|c6<|cgB (nb s.1) u u (oCallV u (rl2i (f:=z) w) (oGot v tm) (oc tm (oc tm o0))) (s3 u u u)<|c3<|.nil)<|pJ1 _ (so h) (sb u) u
   ·exact rdx hm (c4<|cp (oCallV u (rl2i (f:=y16) e) (oGot c tm) (oc tm (oc tm o0))) (s3 u u u)<|c4<|cgB a.1 u u (oCallV u (rl1i (f:=m) j) (oGot i tm) (oc tm o0)) (s2 u u)<|c3<|cgB a.1 u u (oCallV u (rl1i (f:=n) l) (oGot k tm) (oc tm o0)) (s2 u u)<|c8<|c3<|csU u u<|csU u u<|csU u u<|csU u u<|csU u u<|c3<|.nil)<|pJ1 _ (so h) (sb u) u
  ·exact rdx hm (c4<|cp (oCallV u (rl2i (f:=y16) e) (oGot c tm) (oc tm (oc tm o0))) (s3 u u u)<|c12<|c8<|csU u u<|csU u u<|csU u u<|csU u u<|csU u u<|c3<|.nil)<|pJ1 _ (so h) (sb u) u
 ·rintro g rfl
  replace h:=y
  refine wRet ?_
  obtain rfl:=so h
  exact pR1 (.inl u) u (.tmp u<|.nil)
theorem cM.ok{a:bp} {a1:ci} {a2:List az} {a3:List az} {r:Bool}(h:cM.f a a1 a2 a3=some r):FnA PP 50 [(kR bx).sig a,(kR cA).sig a1,(kL (kR am)).sig a2,(kL (kR am)).sig a3] (kB.sig r):=by
 refine fnIntro Tryz.func50 u (by kernel_rfl) fun H0 w0=>?_
 unfold cM.f at h
 refine wSeq<|rx (c3<|.nil)<|pSeq<|wSeq ?_
 obtain⟨e,b,h⟩:=bd h
 refine rx (c2<|cp (oMkF (Rl:=rl2 (kR am) (kR am) kB (fun c d=>ck.f c d a1 a)) u b91 (rl2e ck.ok) (oc tm (oc tm o0))) (s2 u u)<|cC (aC.ok b)<|c1<|.nil)<|pSeq<|wRet ?_
 obtain rfl:=so h
 exact pR1 (.inl u) u (.tmp u<|.nil)
theorem aY.ok{c:List az} {a1:List az} {r:Bool}(h:aY.f c a1=some r):FnA PP 93 [(kL (kR am)).sig c,(kL (kR am)).sig a1] (kB.sig r):=by
 refine fnIntro Tryz.func93 u (by kernel_rfl) fun H0 w0=>?_
 unfold aY.f at h
 refine wSeq<|rx (c1<|.nil)<|pSeq<|wSeq<|wSeq<|rx (c4<|c1<|.nil)<|pSeq ?_
 obtain⟨e,h⟩|⟨e,h⟩:=ik h
 ·refine wNT e.1 tm (s1 u)<|wSkip<|pSeq<|wSeq<|wSeq<|rx (c3<|.nil)<|pSeq ?_
  obtain⟨l,h,i⟩:=bd h
  refine wK0 (.inr ()=l) ([]) ([]) ?_ ?_
  ·refine wBlock (wLoop ?_)
   refine lW (pc1 l (fun g=>[(0,.d ((kL (kR am)).sig c)),(1,.d ((kL (kR am)).sig a1)),(12,.d (ki.sig (c.length:Int))),(13,.d (ki.sig g))]) (fun g=>[]) (aY.l0.partial_correctness c a1) ?_ _ h) ⟨u,u,u,u,tv⟩ u
   clear h
   intro f' ih g h
   refine wSeq<|rx (c1<|.nil)<|pSeq<|wSeq ?_
   obtain⟨a,h⟩|⟨a,h⟩:=ik h
   ·refine wCT a.1 tm (s1 u)<|wSkip<|pSeq<|wSeq<|wBlock<|wSeq<|rx (c2<|.nil)<|pSeq<|wSeq ?_
    obtain⟨m,j,h⟩:=bd h
    obtain⟨n,k,h⟩:=bd h
    refine rdx hm (c2<|cp (oIdx u32 z30 j tm tm) (s2 u u)<|c3<|cp (oIdx u32 z30 k tm tm) (s2 u u)<|c1<|cp (oRNe eqk30 u eg30 u tm tm) (s2 u u)<|.nil)<|pSeq ?_
    obtain⟨b,h⟩|⟨b,h⟩:=ik h
    ·exact wNT b.1 tm (s1 u)<|wSkip<|pBlkN<|pSeq<|rx (c2<|.nil)<|pLoop (lW (ih _ h) ⟨u,u,u,u,tv⟩ u)
    ·refine wNF b.1 tm (s1 u)<|wSeq<|rx (c1<|.nil)<|pSeq<|wRet<|pBlkR<|pThenR<|pThenR<|pBlkR<|pThenR ?_
     obtain rfl:=so h
     replace h:=i
     refine pThenR ?_
     obtain rfl:=so h
     exact pR1 (.inl u) u (.tmp u<|.nil)
   ·exact wCF a.1 tm (s1 u)<|wExit<|pThenX<|pThenX<|pBlkX<|pJ0 (so h) tv u
  ·rintro rfl
   replace h:=i
   refine pSeq<|wSeq<|rx (c1<|.nil)<|pSeq<|wRet ?_
   obtain rfl:=so h
   exact pR1 (.inl u) u (.tmp u<|.nil)
 ·refine wNF e.1 tm (s1 u)<|wSeq<|rx (c1<|.nil)<|pSeq<|wRet<|pThenR ?_
  obtain rfl:=so h
  exact pR1 (.inl u) u (.tmp u<|.nil)
theorem dt.ok{a:az} {a1:bp} {r:Bool}(h:dt.f a a1=some r):FnA PP 92 [(kR am).sig a,sP (kR bx) a1] (kB.sig r):=by
 refine fnIntro Tryz.func92 u (by kernel_rfl) fun H0 w0=>?_
 unfold dt.f at h
 refine wSeq<|rx (c2<|.nil)<|pSeq<|wSeq ?_
 obtain⟨c,b,h⟩:=bd h
 refine rx (c3<|cC (bj.ok b)<|c2<|.nil)<|pSeq<|wRet ?_
 obtain rfl:=so h
 exact pR1 (.inl u) u (.tmp u<|.nil)
theorem aF.ok{x:List az} {a1:az->Option Bool} {r:(List az)}(h:aF.f x a1=some r):FnS PP 94 [.v 90000,.d ((sFun PP (rl1 (kR am) kB a1)))] [.row 90000 30 (kR am) x] [] (.d ((kL (kR am)).sig r)) []:=by
 refine fnIntroS Tryz.func94 u (by kernel_rfl) fun X H0 w0 pv=>?_
 unfold aF.f at h
 refine wSeq<|rx (cp (oAs cV) tv<|.nil)<|pSeq<|wSeq ?_
 obtain⟨y,z,h⟩:=bd h
 refine rx (c2<|cr (oCallB u (aK.ok z) (fK fI) b126 (rc1 (rR (n:=0) u) (rc1 (rD tm) rn0))) (s2 u u)<|c1<|.nil)<|pSeq<|wSeq<|wSeq<|rx (c2<|.nil)<|pSeq ?_
 obtain⟨m,h⟩|⟨m,h⟩:=ik h
 ·refine wCT m.1 tm (s1 u)<|wSeq<|rx (c2<|.nil)<|pSeq<|wFrzR (n:=0) (id:=90000) [4] u u ⟨u,tv⟩<|wRet<|pThenR ?_
  obtain rfl:=so h
  exact pS1 [] u u (.inl u) u (.tmp u<|.nil)
 ·refine wCF m.1 tm (s1 u)<|wSkip<|pSeq<|wSeq<|wSeq<|rx (c3<|.nil)<|pSeq<|wWeak (Γ':=[(0,.v 90000),(1,.d ((sFun PP (rl1 (kR am) kB a1)))),(5,.d (ki.sig y)),(6,.d (ki.sig (IntKind.i64.wrap (y+1))))]) (sb u)<|wRen 90000 1000 u ?_
  obtain⟨A,h,B⟩:=bd h
  refine wK2 (fun a b=>(a,b)=A) (fun a b=>[(0,.v 1000),(5,.d (ki.sig b))]) (fun a b=>[.row 1000 30 (kR am) a]) ?_ ?_
  ·refine wBlock (wLoop ?_)
   refine lW (pc3 A (fun o p k=>[(0,.v 1000),(1,.d ((sFun PP (rl1 (kR am) kB a1)))),(5,.d (ki.sig p)),(6,.d (ki.sig k))]) (fun o p k=>[.row 1000 30 (kR am) o]) (aF.l0.partial_correctness a1) ?_ _ _ _ h) ⟨u,u,u,u,tv⟩ u
   clear h
   intro f' ih o p k h
   refine wSeq<|wSeq<|rx (c2<|cr (oLenR (n:=0) u32 u tm) (s1 u)<|c1<|.nil)<|pSeq ?_
   obtain⟨g,h⟩|⟨g,h⟩:=ik h
   ·refine wCT g.1 tm (s1 u)<|wSkip<|pSeq ?_
    obtain⟨D,h,C⟩:=bd h
    refine wJ2 (fun c e=>(c,e)=D) (fun c e=>[(0,.v 1000),(1,.d ((sFun PP (rl1 (kR am) kB a1)))),(5,.d (ki.sig e)),(6,.d (ki.sig k))]) (fun c e=>[.row 1000 30 (kR am) c]) ?_ ?_
    ·refine wBlock<|wSeq ?_
     obtain⟨l,q,h⟩:=bd h
     refine rx (c2<|cr (oIdxR (n:=0) u32 z30 u q tm tm) (s2 u u)<|cr (oLdE (n:=0) u q u t30 tm) (s1 u)<|cw (oAlloc (id:=7) (ls:=Z30) ze30 zl30) tv<|cwn (oStA (n:=0) (fs:=am) u u z30 tm tm) (s2 u u)<|.nil)<|pSeq<|wSeq ?_
     obtain⟨E,w,h⟩:=bd h
     refine rx (c1<|cr (oLdA (n:=0) (fs:=am) (u:=⟨l.V,l.L⟩) u ⟨u,u,tv⟩ t30 tm) (s1 u)<|cp (oCallV u (rl1i (f:=a1) w) tm (oc tm o0)) (s2 u u)<|c1<|.nil)<|pSeq ?_
     obtain⟨i,h⟩|⟨i,h⟩:=ik h
     ·refine wBT i.1 tm (s1 u)<|wSeq ?_
      obtain⟨F,s,h⟩:=bd h
      exact rx (c2<|cr (oLdA (n:=0) (fs:=am) (u:=⟨l.V,l.L⟩) u ⟨u,u,tv⟩ t30 tm) (s1 u)<|cr (oIdxR (n:=1) u32 z30 u s tm tm) (s2 u u)<|cwn (oStE (n:=1) u s u z30 tm tm) (s2 u u)<|.nil)<|pSeq<|rx (c3<|.nil)<|pBlkN<|pDrop (.cons _ (.cons_cons _ .slnil))<|pJ2 _ _ (so h) (sb u) u
     ·exact wBF i.1 tm (s1 u)<|wSkip<|pBlkN<|pDrop (.cons _ (.cons_cons _ .slnil))<|pJ2 _ _ (so h) (sb u) u
    ·rintro c e rfl
     replace h:=C
     exact rx (c3<|.nil)<|pLoop (lW (ih _ _ _ h) ⟨u,u,u,u,tv⟩ u)
   ·exact wCF g.1 tm (s1 u)<|wExit<|pThenX<|pThenX<|pBlkX<|pJ2 _ _ (so h) (sb u) u
  ·rintro a b rfl
   replace h:=B
   refine pSeq<|wSeq ?_
   obtain⟨j,h⟩:=ib h
   refine rx (c2<|cr (oSlT (n:=0) u32 z30 u j.1 j.2 tm tm) (s2 u u)<|cwn (oClr (n:=0) u32 ze30 eG (by decide) u (by have:=j;omega) tm) (s1 u)<|.nil)<|pSeq<|wSeq ?_
   obtain⟨t,h⟩:=ib h
   refine rx (c2<|cw (oCutR (n:=0) (id':=41) u32 z30 u t.1 t.2 tm tm) (s2 u u)<|c1<|.nil)<|pSeq<|wFrzR (n:=0) (id:=41) [4] u u ⟨u,tv⟩<|wRet ?_
   obtain rfl:=so h
   exact pS1 [] u u (.inl u) u (.tmp u<|.nil)
theorem eE.ok{a:bp} {a1:List az} {a2:List az} {r:Bool}(h:eE.f a a1 a2=some r):FnA PP 51 [(kR bx).sig a,(kL (kR am)).sig a1,(kL (kR am)).sig a2] (kB.sig r):=by
 refine fnIntro Tryz.func51 u (by kernel_rfl) fun H0 w0=>?_
 unfold eE.f at h
 refine wSeq<|rx (c2<|.nil)<|pSeq<|wSeq<|rx (cp (oMkF (Rl:=rl1 (kR am) kB (fun j=>dt.f j a)) u b92 (rl1e dt.ok) (oc tm o0)) (s1 u)<|c1<|.nil)<|pSeq<|wSeq ?_
 obtain⟨k,b,h⟩:=bd h
 obtain⟨l,c,h⟩:=bd h
 obtain⟨m,e,h⟩:=bd h
 obtain⟨n,g,h⟩:=bd h
 obtain⟨o,i,h⟩:=bd h
 refine rx (c1<|cm (oCallS (rest:=[]) (R':=[.row 320040 30 (kR am) k]) (out':=.v 320040) [] [(80000,320040)] [] [] [0] u (bi.ok b) b95 (oE1 tm oE0) u u u u u u u u) (s1 u)<|c1<|cm (oCallS (rest:=[]) (R':=[]) (out':=.d ((kL (kR am)).sig l)) [(90000,320040)] [] [0] [] [] u (aF.ok c) b94 (oE1 tm (oE1 tm oE0)) u u u u u u u u) (s2 u u)<|c1<|cm (oCallS (rest:=[]) (R':=[.row 320200 30 (kR am) m]) (out':=.v 320200) [] [(80000,320200)] [] [] [0] u (bi.ok e) b95 (oE1 tm oE0) u u u u u u u u) (s1 u)<|c1<|cm (oCallS (rest:=[]) (R':=[]) (out':=.d ((kL (kR am)).sig n)) [(90000,320200)] [] [0] [] [] u (aF.ok g) b94 (oE1 tm (oE1 tm oE0)) u u u u u u u u) (s2 u u)<|cC (aY.ok i)<|c1<|.nil)<|pSeq<|wRet ?_
 obtain rfl:=so h
 exact pR1 (.inl u) u (.tmp u<|.nil)
theorem aD.ok{c:List av} {a1:List av} {a2:av->av->Option Bool} {r:Bool}(h:aD.f c a1 a2=some r):FnA PP 97 [(kL (kR au)).sig c,(kL (kR au)).sig a1,(sFun PP (rl2 (kR au) (kR au) kB a2))] (kB.sig r):=by
 refine fnIntro Tryz.func97 u (by kernel_rfl) fun H0 w0=>?_
 unfold aD.f at h
 refine wSeq<|rx (c1<|.nil)<|pSeq<|wSeq<|wSeq<|rx (c4<|c1<|.nil)<|pSeq ?_
 obtain⟨e,h⟩|⟨e,h⟩:=ik h
 ·refine wNT e.1 tm (s1 u)<|wSkip<|pSeq<|wSeq<|wSeq<|rx (c3<|.nil)<|pSeq ?_
  obtain⟨m,h,i⟩:=bd h
  refine wK0 (.inr ()=m) ([]) ([]) ?_ ?_
  ·refine wBlock (wLoop ?_)
   refine lW (pc1 m (fun g=>[(1,.d ((kL (kR au)).sig a1)),(2,.d ((sFun PP (rl2 (kR au) (kR au) kB a2)))),(15,.d ((kL (kR au)).sig c)),(16,.d (ki.sig (c.length:Int))),(17,.d (ki.sig g))]) (fun g=>[]) (aD.l0.partial_correctness c a1 a2) ?_ _ h) ⟨u,u,u,u,u,tv⟩ u
   clear h
   intro f' ih g h
   refine wSeq<|rx (c1<|.nil)<|pSeq<|wSeq ?_
   obtain⟨a,h⟩|⟨a,h⟩:=ik h
   ·refine wCT a.1 tm (s1 u)<|wSkip<|pSeq<|wSeq<|wBlock<|wSeq ?_
    obtain⟨y14,j,h⟩:=bd h
    refine rx (c1<|cp (oIdx u33 z88 j tm tm) (s2 u u)<|c1<|cw (oAlloc (id:=8) (ls:=Z88) ze88 zl88) tv<|c1<|cwn (oStA (n:=0) (fs:=au) u u z88 tm tm) (s2 u u)<|.nil)<|pSeq<|wSeq ?_
    obtain⟨y15,k,h⟩:=bd h
    refine rx (c2<|cp (oIdx u33 z88 k tm tm) (s2 u u)<|c1<|cw (oAlloc (id:=9) (ls:=Z88) ze88 zl88) tv<|cwn (oStA (n:=0) (fs:=au) u u z88 tm tm) (s2 u u)<|.nil)<|pSeq<|wSeq ?_
    obtain⟨y16,l,h⟩:=bd h
    refine rx (c1<|cr (oLdA (n:=1) (fs:=au) (u:=⟨y14.Ret,y14.V,y14.L⟩) u ⟨u,u,u,tv⟩ t88 tm) (s1 u)<|cr (oLdA (n:=0) (fs:=au) (u:=⟨y15.Ret,y15.V,y15.L⟩) u ⟨u,u,u,tv⟩ t88 tm) (s1 u)<|cp (oCallV u (rl2i (f:=a2) l) tm (oc tm (oc tm o0))) (s3 u u u)<|c1<|.nil)<|pSeq ?_
    obtain⟨b,h⟩|⟨b,h⟩:=ik h
    ·refine wBT b.1 tm (s1 u)<|wSeq<|rx (c1<|.nil)<|pSeq<|wRet<|pBlkR<|pThenR<|pThenR<|pBlkR<|pThenR ?_
     obtain rfl:=so h
     replace h:=i
     refine pThenR ?_
     obtain rfl:=so h
     exact pR1 (.inl u) u (.tmp u<|.nil)
    ·exact wBF b.1 tm (s1 u)<|wSkip<|pBlkN<|pSeq<|rx (c2<|.nil)<|pDrop (.cons _ (.cons _ .slnil))<|pLoop (lW (ih _ h) ⟨u,u,u,u,u,tv⟩ u)
   ·exact wCF a.1 tm (s1 u)<|wExit<|pThenX<|pThenX<|pBlkX<|pJ0 (so h) tv u
  ·rintro rfl
   replace h:=i
   refine pSeq<|wSeq<|rx (c1<|.nil)<|pSeq<|wRet ?_
   obtain rfl:=so h
   exact pR1 (.inl u) u (.tmp u<|.nil)
 ·refine wNF e.1 tm (s1 u)<|wSeq<|rx (c1<|.nil)<|pSeq<|wRet<|pThenR ?_
  obtain rfl:=so h
  exact pR1 (.inl u) u (.tmp u<|.nil)
theorem cq.ok{x:av} {a1:av} {a2:cj} {a3:bp} {r:Bool}(h:cq.f x a1 a2 a3=some r):FnA PP 98 [(kR au).sig x,(kR au).sig a1,sP (kR cD) a2,sP (kR bx) a3] (kB.sig r):=by
 refine fnIntro Tryz.func98 u (by kernel_rfl) fun H0 w0=>?_
 unfold cq.f at h
 refine wSeq<|rx (c3<|.nil)<|pSeq ?_
 obtain⟨A,h,y⟩:=bd h
 refine wJ1 (fun g=>g=A) (fun g=>[(6,.d (kB.sig g))]) (fun g=>[]) ?_ ?_
 ·obtain⟨y16,c,h⟩:=bd h
  obtain⟨B,e,h⟩:=bd h
  obtain⟨a,h⟩|⟨a,h⟩:=ik h
  ·obtain⟨m,i,h⟩:=bd h
   obtain⟨C,j,h⟩:=bd h
   obtain⟨n,k,h⟩:=bd h
   obtain⟨D,l,h⟩:=bd h
   obtain⟨b,h⟩|⟨b,h⟩:=ik h
   ·obtain⟨t,o,h⟩:=bd h
    obtain⟨E,p,h⟩:=bd h
    obtain⟨F,q,h⟩:=bd h
    obtain⟨s,h⟩|⟨s,h⟩:=ik h
    ·exact rdx hm (c4<|cp (oCallV u (rl2i (f:=y16) e) (oGot c tm) (oc tm (oc tm o0))) (s3 u u u)<|c4<|cgB a.1 u u (oCallV u (rl1i (f:=m) j) (oGot i tm) (oc tm o0)) (s2 u u)<|c3<|cgB a.1 u u (oCallV u (rl1i (f:=n) l) (oGot k tm) (oc tm o0)) (s2 u u)<|c6<|c1<|cgB (dT b.1) u u (oCallV u (rl1i (f:=t) p) (oGot o tm) (oc tm o0)) (s2 u u)<|cgB (dT b.1) u u (oCall u (bj.ok q) b52 (oc tm (oc tm o0))) (s2 u u)<|c8<|c2<|.nil)<|pJ1 _ (so h) (sb u) u
    ·obtain⟨z,v,h⟩:=bd h
     obtain⟨G,w,h⟩:=bd h
     exact rdx hm (c4<|cp (oCallV u (rl2i (f:=y16) e) (oGot c tm) (oc tm (oc tm o0))) (s3 u u u)<|c4<|cgB a.1 u u (oCallV u (rl1i (f:=m) j) (oGot i tm) (oc tm o0)) (s2 u u)<|c3<|cgB a.1 u u (oCallV u (rl1i (f:=n) l) (oGot k tm) (oc tm o0)) (s2 u u)<|c6<|c1<|cgB (dT b.1) u u (oCallV u (rl1i (f:=t) p) (oGot o tm) (oc tm o0)) (s2 u u)<|cgB (dT b.1) u u (oCall u (bj.ok q) b52 (oc tm (oc tm o0))) (s2 u u)<|c6<|cgB (nb s.1) u u (oCallV u (rl2i (f:=z) w) (oGot v tm) (oc tm (oc tm o0))) (s3 u u u)<|c3<|.nil)<|pJ1 _ (so h) (sb u) u
   ·exact rdx hm (c4<|cp (oCallV u (rl2i (f:=y16) e) (oGot c tm) (oc tm (oc tm o0))) (s3 u u u)<|c4<|cgB a.1 u u (oCallV u (rl1i (f:=m) j) (oGot i tm) (oc tm o0)) (s2 u u)<|c3<|cgB a.1 u u (oCallV u (rl1i (f:=n) l) (oGot k tm) (oc tm o0)) (s2 u u)<|c8<|c3<|csU u u<|csU u u<|csU u u<|csU u u<|csU u u<|c3<|.nil)<|pJ1 _ (so h) (sb u) u
  ·exact rdx hm (c4<|cp (oCallV u (rl2i (f:=y16) e) (oGot c tm) (oc tm (oc tm o0))) (s3 u u u)<|c12<|c8<|csU u u<|csU u u<|csU u u<|csU u u<|csU u u<|c3<|.nil)<|pJ1 _ (so h) (sb u) u
 ·rintro g rfl
  replace h:=y
  refine wRet ?_
  obtain rfl:=so h
  exact pR1 (.inl u) u (.tmp u<|.nil)
theorem ct.ok{a:bp} {a1:cj} {a2:List av} {a3:List av} {r:Bool}(h:ct.f a a1 a2 a3=some r):FnA PP 53 [(kR bx).sig a,(kR cD).sig a1,(kL (kR au)).sig a2,(kL (kR au)).sig a3] (kB.sig r):=by
 refine fnIntro Tryz.func53 u (by kernel_rfl) fun H0 w0=>?_
 unfold ct.f at h
 refine wSeq<|rx (c3<|.nil)<|pSeq<|wSeq ?_
 obtain⟨e,b,h⟩:=bd h
 refine rx (c2<|cp (oMkF (Rl:=rl2 (kR au) (kR au) kB (fun c d=>cq.f c d a1 a)) u b98 (rl2e cq.ok) (oc tm (oc tm o0))) (s2 u u)<|cC (aD.ok b)<|c1<|.nil)<|pSeq<|wRet ?_
 obtain rfl:=so h
 exact pR1 (.inl u) u (.tmp u<|.nil)
theorem cO.ok{i:bp} {a1:List av} {r:List av}(h:cO.f i a1=some r):FnA PP 54 [(kR bx).sig i,(kL (kR au)).sig a1] ((kL (kR au)).sig r):=by
 refine fnIntro Tryz.func54 u (by kernel_rfl) fun H0 w0=>?_
 unfold cO.f at h
 refine wSeq<|rx (c1<|cp (oAs cV) tv<|.nil)<|pSeq<|wSeq<|wSeq<|rx (c4<|.nil)<|pSeq ?_
 obtain⟨p,h,l⟩:=bd h
 refine wK0 (.inr ()=p) ([]) ([]) ?_ ?_
 ·refine wBlock (wLoop ?_)
  refine lW (pc1 p (fun g=>[(1,.d ((kL (kR au)).sig a1)),(2,.d (sP (kR bx) i)),(5,.d (ki.sig g))]) (fun g=>[]) (cO.l0.partial_correctness i a1) ?_ _ h) ⟨u,u,u,tv⟩ u
  clear h
  intro f' ih g h
  refine wSeq<|wSeq<|rx (c2<|.nil)<|pSeq ?_
  obtain⟨b,h⟩|⟨b,h⟩:=ik h
  ·refine wCT b.1 tm (s1 u)<|wSkip<|pSeq<|wSeq<|wBlock ?_
   obtain⟨s,h,q⟩:=bd h
   refine wJ1 (fun a=>a=s) (fun a=>[(1,.d ((kL (kR au)).sig a1)),(2,.d (sP (kR bx) i)),(5,.d (ki.sig g)),(26,.d (kB.sig a))]) (fun a=>[]) ?_ ?_
   ·obtain⟨t,j,h⟩:=bd h
    obtain⟨c,h⟩|⟨c,h⟩:=ik h
    ·obtain⟨v,m,h⟩:=bd h
     obtain⟨w,o,h⟩:=bd h
     exact rdx hm (c2<|cp (oIdx u33 z88 j tm tm) (s2 u u)<|c6<|cgB c.1 u u (oIdx u33 z88 m tm tm) (s2 u u)<|c2<|cgB c.1 u u (oCall u (bj.ok o) b52 (oc tm (oc tm o0))) (s2 u u)<|c1<|.nil)<|pJ1 _ (so h) (sb u) u
    ·exact rdx hm (c2<|cp (oIdx u33 z88 j tm tm) (s2 u u)<|c8<|c3<|.nil)<|pJ1 _ (so h) (sb u) u
   ·rintro a rfl
    replace h:=q
    obtain⟨e,h⟩|⟨e,h⟩:=ik h
    ·refine wBT e.1 tm (s1 u)<|wSeq ?_
     obtain⟨k,h⟩:=ib h
     refine rx (c3<|cp (oCutHi u33 z88 k.1 k.2 tm tm) (s2 u u)<|c1<|.nil)<|pSeq<|wRet<|pBlkR<|pThenR<|pThenR<|pBlkR<|pThenR ?_
     obtain rfl:=so h
     replace h:=l
     refine pThenR ?_
     obtain rfl:=so h
     exact pR1 (.inl u) u (.tmp u<|.nil)
    ·exact wBF e.1 tm (s1 u)<|wSkip<|pBlkN<|pSeq<|rx (c3<|.nil)<|pLoop (lW (ih _ h) ⟨u,u,u,tv⟩ u)
  ·exact wCF b.1 tm (s1 u)<|wExit<|pThenX<|pThenX<|pBlkX<|pJ0 (so h) tv u
 ·rintro rfl
  replace h:=l
  refine pSeq<|wSeq<|rx (cp (oAs cV) tv<|.nil)<|pSeq<|wNil (kR au) 88 9004 4 u u<|wFrzR (n:=0) (id:=9004) [4] u u ⟨u,tv⟩<|wRet ?_
  obtain rfl:=so h
  exact pR1 (.inl u) u (.tmp u<|.nil)
theorem dz.ok{a:aq} {a1:Int} {a2:ah} {a3:ah} {r:Bool×Int}(h:dz.f a a1 a2 a3=some r):FnA PP 20 [(kR aA).sig a,ki.sig a1,(kR ap).sig a2,(kR ap).sig a3] (tup [kB.sig r.1,ki.sig r.2]):=by
 refine fnIntro Tryz.func20 u (by kernel_rfl) fun H0 w0=>?_
 unfold dz.f at h
 refine wSeq<|rx (c4<|c1<|.nil)<|pSeq<|wSeq ?_
 obtain⟨y1,J,h⟩:=bd h
 obtain⟨y2,K,h⟩:=bd h
 obtain⟨y3,L,h⟩:=bd h
 obtain⟨y4,M,h⟩:=bd h
 obtain⟨y5,N,h⟩:=bd h
 obtain⟨y6,O,h⟩:=bd h
 obtain⟨y7,P,h⟩:=bd h
 refine rdx hm (c6<|c1<|cp (oLit (d:=ki) el56 (by decide) u u u (e1 tm (e1 tm (e1 tm e0)))) (s3 u u u)<|cC (cy.ok J)<|c4<|cp (oLit (d:=(kL (kR aw))) el145 (by decide) u u u (e1 tm (e1 tm e0))) (s2 u u)<|cC (aS.ok K)<|cC (dI.ok L)<|c8<|cp (oLit (d:=(kL (kR am))) el146 (by decide) u u u (e1 tm (e1 tm (e1 tm (e1 tm e0))))) ⟨u,u,u,u,tv⟩<|cC (aQ.ok M)<|cC (dE.ok N)<|c4<|cp (oLit (d:=(kL (kR au))) el147 (by decide) u u u (e1 tm (e1 tm e0))) (s2 u u)<|cC (aT.ok O)<|cp (oLit (d:=(kL ki)) el143 (by decide) u u u (e1 tm (e1 tm (e1 tm (e1 tm e0))))) ⟨u,u,u,u,tv⟩<|cC (aV.ok P)<|c1<|.nil)<|pSeq<|wSeq<|wSeq ?_
 obtain⟨y8,Q,h⟩:=bd h
 refine rx (c2<|cC (eH.ok Q)<|c1<|.nil)<|pSeq<|wSeq<|rx (c2<|.nil)<|pSeq ?_
 obtain⟨v,h⟩|⟨v,h⟩:=ik h
 ·refine wNT v.1 tm (s1 u)<|wSkip<|pSeq<|wSeq<|rx (c2<|cp (oBuild (fs:=bx) (u:=⟨a,a1⟩) u ze113 pl113 po113 (.op (zc:=[(.slice none 0 0),(.slice none 0 0)]) tm u (.op (zc:=[(.int .i64 0)]) tm u .nil))) (s2 u u)<|cw (oAlloc (id:=12) (ls:=Z113) ze113 zl113) tv<|cwn (oStP (n:=0) (k:=0) (m:=3) (d:=(kR bx)) (u:=(⟨a,a1⟩:bp)) pt113 u u u z113 tm tm) (s2 u u)<|.nil)<|pSeq<|wSeq ?_
  obtain⟨z,h,w⟩:=bd h
  refine wJ1 (fun e=>e=z) (fun e=>[(6,.d (sP (kR ap) a2)),(7,.d (sP (kR ap) a3)),(12,.p 12 0),(85,.d (kB.sig e))]) (fun e=>[.box 12 113 [.d (kL kS) a.Names,.d (kL (kI .u32)) a.Up,.d ki a1]]) ?_ ?_
  ·obtain⟨R,j,h⟩:=bd h
   obtain⟨S,l,h⟩:=bd h
   obtain⟨b,h⟩|⟨b,h⟩:=ik h
   ·exact rdx hm (cr (oLdP (n:=0) (k:=0) (m:=3) (d:=(kR bx)) (u:=(⟨a,a1⟩:bp)) pt113 u u u t113 tm) (s1 u)<|cC (cy.ok j)<|c4<|cC (bZ.ok l)<|c12<|c8<|.nil)<|pJ1 _ (so h) (sb u) u
   ·obtain⟨T,x,h⟩:=bd h
    obtain⟨U,y,h⟩:=bd h
    obtain⟨o,h⟩|⟨o,h⟩:=ik h
    ·exact rdx hm (cr (oLdP (n:=0) (k:=0) (m:=3) (d:=(kR bx)) (u:=(⟨a,a1⟩:bp)) pt113 u u u t113 tm) (s1 u)<|cC (cy.ok j)<|c4<|cC (bZ.ok l)<|c2<|crgB (nb b.1) u u (oLdP (n:=0) (k:=0) (m:=3) (d:=(kR bx)) (u:=(⟨a,a1⟩:bp)) pt113 u u u t113 tm) (s1 u)<|cgB (nb b.1) u u (oCall u (dI.ok x) b45 o0) tv<|c4<|cgB (nb b.1) u u (oCall u (cM.ok y) b50 (oc tm (oc tm (oc tm (oc tm o0))))) ⟨u,u,u,u,tv⟩<|c8<|c3<|.nil)<|pJ1 _ (so h) (sb u) u
    ·obtain⟨V,A,h⟩:=bd h
     exact rdx hm (cr (oLdP (n:=0) (k:=0) (m:=3) (d:=(kR bx)) (u:=(⟨a,a1⟩:bp)) pt113 u u u t113 tm) (s1 u)<|cC (cy.ok j)<|c4<|cC (bZ.ok l)<|c2<|crgB (nb b.1) u u (oLdP (n:=0) (k:=0) (m:=3) (d:=(kR bx)) (u:=(⟨a,a1⟩:bp)) pt113 u u u t113 tm) (s1 u)<|cgB (nb b.1) u u (oCall u (dI.ok x) b45 o0) tv<|c4<|cgB (nb b.1) u u (oCall u (cM.ok y) b50 (oc tm (oc tm (oc tm (oc tm o0))))) ⟨u,u,u,u,tv⟩<|c3<|crgB (nb o.1) u u (oLdP (n:=0) (k:=0) (m:=3) (d:=(kR bx)) (u:=(⟨a,a1⟩:bp)) pt113 u u u t113 tm) (s1 u)<|c4<|cgB (nb o.1) u u (oCall u (eE.ok A) b51 (oc tm (oc tm (oc tm o0)))) (s3 u u u)<|c2<|.nil)<|pJ1 _ (so h) (sb u) u
  ·rintro e rfl
   replace h:=w
   obtain⟨q,h⟩|⟨q,h⟩:=ik h
   ·refine wBT q.1 tm (s1 u)<|wSeq<|rx (c2<|.nil)<|pSeq<|wRet<|pThenR ?_
    obtain rfl:=so h
    exact pRn (.inl u) u u (.tmp u<|.tmp u<|.nil)
   ·refine wBF q.1 tm (s1 u)<|wSkip<|pSeq<|wSeq ?_
    obtain⟨W,B,h⟩:=bd h
    obtain⟨X,C,h⟩:=bd h
    refine rdx hm (cr (oLdP (n:=0) (k:=0) (m:=3) (d:=(kR bx)) (u:=(⟨a,a1⟩:bp)) pt113 u u u t113 tm) (s1 u)<|c3<|cC (bj.ok B)<|cr (oLdP (n:=0) (k:=0) (m:=3) (d:=(kR bx)) (u:=(⟨a,a1⟩:bp)) pt113 u u u t113 tm) (s1 u)<|c3<|cC (bj.ok C)<|c2<|.nil)<|pSeq<|wSeq<|wBlock<|wSeq<|rx (c2<|cp (oBNe u4 u tm tm) (s2 u u)<|c1<|.nil)<|pSeq ?_
    obtain⟨s,h⟩|⟨s,h⟩:=ik h
    ·refine wNT s.1 tm (s1 u)<|wSeq<|rx (c2<|.nil)<|pSeq ?_
     obtain⟨t,h⟩|⟨t,h⟩:=ik h
     ·refine wBT t.1 tm (s1 u) ?_
      obtain⟨z,h,w⟩:=bd h
      refine wJ2 (fun g i=>(g,i)=z) (fun g i=>[(8,.d (kB.sig g)),(9,.d (ki.sig i))]) (fun g i=>[.box 12 113 [.d (kL kS) a.Names,.d (kL (kI .u32)) a.Up,.d ki a1]]) ?_ ?_
      ·obtain⟨c,h⟩|⟨c,h⟩:=ik h
       ·obtain⟨Y,D,h⟩:=bd h
        obtain⟨Z,E,h⟩:=bd h
        exact rdx hm (c4<|cp (oREq eqk30 u eg30 u tm tm) (s2 u u)<|c1<|crgB (dT c.1) u u (oLdP (n:=0) (k:=0) (m:=3) (d:=(kR bx)) (u:=(⟨a,a1⟩:bp)) pt113 u u u t113 tm) (s1 u)<|cgB (dT c.1) u u (oCall u (dE.ok D) b47 o0) tv<|c4<|cgB (dT c.1) u u (oCall u (ct.ok E) b53 (oc tm (oc tm (oc tm (oc tm o0))))) ⟨u,u,u,u,tv⟩<|c3<|.nil)<|pJ2 _ _ (so h) (sb u) u
       ·exact rdx hm (c4<|cp (oREq eqk30 u eg30 u tm tm) (s2 u u)<|c8<|c3<|.nil)<|pJ2 _ _ (so h) (sb u) u
      ·rintro g i rfl
       replace h:=w
       refine wRet<|pBlkR<|pThenR ?_
       obtain rfl:=so h
       exact pRn (.inl u) u u (.tmp u<|.tmp u<|.nil)
     ·refine wBF t.1 tm (s1 u)<|wSkip<|pBlkN<|pSeq<|wSeq ?_
      obtain⟨nc,F,h⟩:=bd h
      obtain⟨ne,G,h⟩:=bd h
      obtain⟨ng,H,h⟩:=bd h
      obtain⟨nh,I,h⟩:=bd h
      refine rdx hm (cr (oLdP (n:=0) (k:=0) (m:=3) (d:=(kR bx)) (u:=(⟨a,a1⟩:bp)) pt113 u u u t113 tm) (s1 u)<|cC (dE.ok F)<|cr (oLdP (n:=0) (k:=0) (m:=3) (d:=(kR bx)) (u:=(⟨a,a1⟩:bp)) pt113 u u u t113 tm) (s1 u)<|c2<|cC (cO.ok G)<|cr (oLdP (n:=0) (k:=0) (m:=3) (d:=(kR bx)) (u:=(⟨a,a1⟩:bp)) pt113 u u u t113 tm) (s1 u)<|c2<|cC (cO.ok H)<|cC (ct.ok I)<|c2<|.nil)<|pSeq<|wRet ?_
      obtain rfl:=so h
      exact pRn (.inl u) u u (.tmp u<|.tmp u<|.nil)
    ·refine wNF s.1 tm (s1 u)<|wSeq<|rx (c2<|.nil)<|pSeq<|wRet<|pBlkR<|pThenR ?_
     obtain rfl:=so h
     exact pRn (.inl u) u u (.tmp u<|.tmp u<|.nil)
 ·refine wNF v.1 tm (s1 u)<|wSeq<|rx (c3<|.nil)<|pSeq<|wRet<|pThenR ?_
  obtain rfl:=so h
  exact pRn (.inl u) u u (.tmp u<|.tmp u<|.nil)
theorem b8.ok{b:bP} {a1:ah} {a2:ah} {r:Int}(h:b8.f b a1 a2=some r):FnA PP 76 [(kR bM).sig b,(kR ap).sig a1,(kR ap).sig a2] (ki.sig r):=by
 refine fnIntro Tryz.func76 u (by kernel_rfl) fun H0 w0=>?_
 unfold b8.f at h
 refine wSeq<|rx (c4<|.nil)<|pSeq<|wSeq<|wSeq ?_
 obtain⟨d,c,h⟩:=bd h
 refine rx (c6<|cC (dz.ok c)<|c4<|c1<|.nil)<|pSeq<|wSeq<|rx (c1<|.nil)<|pSeq ?_
 obtain⟨a,h⟩|⟨a,h⟩:=ik h
 ·refine wBT a.1 tm (s1 u)<|wSeq<|rx (c1<|.nil)<|pSeq<|wRet<|pThenR ?_
  obtain rfl:=so h
  exact pR1 (.inl u) u (.tmp u<|.nil)
 ·refine wBF a.1 tm (s1 u)<|wSkip<|pSeq<|wSeq<|rx (c1<|.nil)<|pSeq<|wRet ?_
  obtain rfl:=so h
  exact pR1 (.inl u) u (.tmp u<|.nil)
theorem cT.ok{l:bP} {r:Int}(h:cT.f l=some r):FnA PP 38 [(kR bM).sig l] (ki.sig r):=by
 refine fnIntro Tryz.func38 u (by kernel_rfl) fun H0 w0=>?_
 unfold cT.f at h
 refine wSeq<|rx (c2<|.nil)<|pSeq<|wSeq ?_
 obtain⟨e,s,h⟩:=bd h
 refine rx (c8<|cC (cd.ok s)<|c4<|cw (oAlloc (id:=3) (ls:=Z35) ze35 zl35) tv<|cwn (oStP (n:=0) (k:=0) (m:=6) (d:=(kR ap)) (u:=e.1) pt35 u u u z35 tm tm) (s2 u u)<|c2<|.nil)<|pSeq<|wSeq ?_
 obtain⟨j,t,h⟩:=bd h
 refine rx (c8<|cC (cd.ok t)<|c4<|cw (oAlloc (id:=6) (ls:=Z35) ze35 zl35) tv<|cwn (oStP (n:=0) (k:=0) (m:=6) (d:=(kR ap)) (u:=j.1) pt35 u u u z35 tm tm) (s2 u u)<|c2<|.nil)<|pSeq<|wSeq ?_
 obtain⟨x,h,v⟩:=bd h
 refine wJ1 (fun g=>g=x) (fun g=>[(1,.d (sP (kR bM) l)),(3,.p 3 0),(6,.p 6 0),(52,.d (kB.sig g))]) (fun g=>[.box 6 35 (L35 j.1),.box 3 35 (L35 e.1)]) ?_ ?_
 ·obtain⟨w,h⟩|⟨w,h⟩:=ik h
  ·obtain⟨a,h⟩|⟨a,h⟩:=ik h
   ·obtain⟨y,i,h⟩:=bd h
    obtain⟨b,h⟩|⟨b,h⟩:=ik h
    ·exact rx (c8<|crgB (nf a.1) u u (oLdP (n:=1) (k:=0) (m:=6) (d:=(kR ap)) (u:=e.1) pt35 u u u t35 tm) (s1 u)<|cgB (nf a.1) u u (oCall u (bz.ok i) b70 (oc tm (oc tm o0))) (s2 u u)<|c8<|.nil)<|pJ1 _ (so h) (sb u) u
    ·obtain⟨z,o,h⟩:=bd h
     exact rx (c8<|crgB (nf a.1) u u (oLdP (n:=1) (k:=0) (m:=6) (d:=(kR ap)) (u:=e.1) pt35 u u u t35 tm) (s1 u)<|cgB (nf a.1) u u (oCall u (bz.ok i) b70 (oc tm (oc tm o0))) (s2 u u)<|c4<|crgB (nb b.1) u u (oLdP (n:=0) (k:=0) (m:=6) (d:=(kR ap)) (u:=j.1) pt35 u u u t35 tm) (s1 u)<|cgB (nb b.1) u u (oCall u (bz.ok o) b70 (oc tm (oc tm o0))) (s2 u u)<|c2<|.nil)<|pJ1 _ (so h) (sb u) u
   ·exact rx (c12<|c6<|.nil)<|pJ1 _ (so h) (sb u) u
  ·exact rx (c12<|c6<|.nil)<|pJ1 _ (so h) (sb u) u
 ·rintro g rfl
  replace h:=v
  obtain⟨c,h⟩|⟨c,h⟩:=ik h
  ·refine wBT c.1 tm (s1 u)<|wSeq<|rx (c1<|.nil)<|pSeq<|wRet<|pThenR ?_
   obtain rfl:=so h
   exact pR1 (.inl u) u (.tmp u<|.nil)
  ·refine wBF c.1 tm (s1 u)<|wSkip<|pSeq<|wSeq ?_
   obtain⟨y15,q,h⟩:=bd h
   refine rx (c1<|cr (oLdP (n:=1) (k:=0) (m:=6) (d:=(kR ap)) (u:=e.1) pt35 u u u t35 tm) (s1 u)<|cr (oLdP (n:=0) (k:=0) (m:=6) (d:=(kR ap)) (u:=j.1) pt35 u u u t35 tm) (s1 u)<|cC (b8.ok q)<|c1<|.nil)<|pSeq<|wRet ?_
   obtain rfl:=so h
   exact pR1 (.inl u) u (.tmp u<|.nil)
theorem fP.ok{q:aq} {a1:bw} {a2:ah} {a3:Int} {r:(List ah)×Int×Int}(h:fP.f q a1 a2 a3=some r):FnA PP 67 [(kR aA).sig q,(kR bf).sig a1,(kR ap).sig a2,ki.sig a3] (tup [(kL (kR ap)).sig r.1,ki.sig r.2.1,ki.sig r.2.2]):=by
 refine fnIntro Tryz.func67 u (by kernel_rfl) fun H0 w0=>?_
 unfold fP.f at h
 refine wSeq<|rx (c3<|cp (oAs cV) tv<|c2<|.nil)<|pSeq<|wSeq<|wSeq ?_
 obtain⟨y,s,h⟩:=bd h
 refine rx (c4<|cC (ee.ok s)<|c1<|.nil)<|pSeq<|wSeq<|rx (c2<|.nil)<|pSeq ?_
 obtain⟨e,h⟩|⟨e,h⟩:=ik h
 ·refine wNT e.1 tm (s1 u)<|wSkip<|pSeq<|wSeq<|rx (cw (oAlloc (id:=12) (ls:=[.d (kN ah) []]) ze49 (fun g=>⟨[(.slice none 0 0)],_,u,zN g.H,u⟩)) tv<|.nil)<|pSeq<|wSeq<|rx (cw (oAlloc (id:=13) (ls:=[.d ki 0]) ze3 (fun g=>⟨[(.int .i64 0)],_,u,zI_i64 g.H,u⟩)) tv<|cwn (oSt (n:=0) (k:=0) u u u u z3 tm (cI (by decide))) (s1 u)<|.nil)<|pSeq<|wSeq<|wSeq ?_
  obtain⟨a,t,h⟩:=bd h
  refine rx (c4<|cm (oCallS (rest:=[.box 13 3 [.d ki 0],.box 12 49 [.d (kN ah) []]]) (R':=[.box 360160 35 (L35 a.2.2.2),.box 13 3 [.d ki 0],.box 12 49 [.d (kN ah) []]]) (out':=.f [360160] (sCloN 75 [some (sP ki a.1),some (sP (kR aA) a.2.1),some (sP (kR bf) a.2.2.1),none])) [] [(6,360160)] [] [0,1] [0,1,2] u (dY.ok t) b37 (oE1 tm (oE1 tm (oE1 tm (oE1 tm oE0)))) u u u u u u u u) ⟨u,u,u,u,tv⟩<|.nil)<|pSeq<|wBlock<|wPick (R':=[.box 13 3 [.d ki 0],.box 12 49 [.d (kN ah) []],.box 360160 35 (L35 a.2.2.2)]) [1,2,0] u u<|wNilL (kR ap) 35 5600 (n:=1) (k:=0) u u u ?_
  obtain⟨x,j,h⟩:=bd h
  refine wRangeN (Γ':=[(12,.p 12 0),(13,.p 13 0)]) (Γ2:=fun c i=>[(12,.p 12 0),(13,.p 13 0),(14,.p 14 0),(15,.d (ki.sig i))]) (caps:=[some (sP ki a.1),some (sP (kR aA) a.2.1),some (sP (kR bf) a.2.2.1),none]) (kn:=[70400]) (Rc:=[.box 70400 35 (L35 a.2.2.2)]) [(70400,360160)] (fun(b:Int×(List ah))=>[.row 5600 35 (kR ap) b.2,.box 13 3 [.d ki b.1],.box 12 49 [.v 5600]]) (fun(b:Int×(List ah)) c i=>[.box 14 35 (L35 c),.row 5600 35 (kR ap) b.2,.box 13 3 [.d ki b.1],.box 12 49 [.v 5600]]) [] [12,13] (fP.y0) (0,([]:List ah)) u (bq.ok (a1:=a.1) (a2:=a.2.1) (a3:=a.2.2.1) (a4:=a.2.2.2)) u b75 j u ⟨u,u,tv⟩ u u u ?_ ?_ ?_
  ·intro X H0 w0 l pv b c i
   exact wSeq<|rx (cw (oAlloc (id:=14) (ls:=Z35) ze35 zl35) tv<|cwn (oStP (n:=0) (k:=0) (m:=6) (d:=(kR ap)) (u:=c) pt35 u u u z35 tm tm) (s2 u u)<|.nil)<|pSeq<|rx (c1<|.nil)<|qA ⟨u,u,u,u,tv⟩
  ·intro X H0 w0 l pv b c i o h
   unfold fP.y0 at h
   refine wBlock ?_
   obtain⟨w,h⟩:=ib h
   refine rx (cr (oLdN (n:=3) (k:=0) u u u t49 tm) (s1 u)<|cr (oLdP (n:=0) (k:=0) (m:=6) (d:=(kR ap)) (u:=c) pt35 u u u t35 tm) (s1 u)<|cp (oLit (d:=(kR ap)) el49 (by decide) u u u (e1 tm e0)) (s1 u)<|cw (oApp (n:=1) (id':=34) el49 (by decide) u (by decide) w tm tm) (s2 u u)<|c1<|cwn (oStN (n:=3) (m:=1) (k:=0) u u u u z49 u tm tm) (s2 u u)<|cwn (oSt (n:=2) (k:=0) u u u u z3 tm tm) (s2 u u)<|.nil)<|pBlkN<|pDrop (.cons _ (.cons_cons _ (.cons_cons _ (.cons_cons _ .slnil))))<|pSub (Γ':=[]) tv<|pRen 34 5600 u ?_
   obtain rfl:=so h
   exact qN
  ·obtain⟨hj10,h⟩|⟨hj10,h⟩:=ic h
   ·refine jp0 hj10<|pBlkN<|pSeq<|wSeq<|rdx hm (cr (oLdN (n:=2) (k:=0) u u u t49 tm) (s1 u)<|cr (oLdB (n:=1) (k:=0) u u u t3 tm) (s1 u)<|c3<|.nil)<|pSeq<|wFrzR (n:=0) (id:=5600) [8] u u ⟨u,tv⟩<|wRet ?_
    obtain rfl:=so h
    exact pRn (.inl u) u u (.tmp u<|.tmp u<|.tmp u<|.nil)
   ·cases h
 ·refine wNF e.1 tm (s1 u)<|wSeq<|rx (c1<|cp (oAs cV) tv<|c2<|.nil)<|pSeq<|wNil (kR ap) 35 9008 8 u u<|wFrzR (n:=0) (id:=9008) [8] u u ⟨u,tv⟩<|wRet<|pThenR ?_
  obtain rfl:=so h
  exact pRn (.inl u) u u (.tmp u<|.tmp u<|.tmp u<|.nil)
theorem aM.ok{c:List ah} {a1:ah->Option Bool} {r:Int}(h:aM.f c a1=some r):FnA PP 113 [(kL (kR ap)).sig c,(sFun PP (rl1 (kR ap) kB a1))] (ki.sig r):=by
 refine fnIntro Tryz.func113 u (by kernel_rfl) fun H0 w0=>?_
 unfold aM.f at h
 refine wSeq<|rx (c1<|.nil)<|pSeq<|wSeq<|wSeq<|rx (c3<|.nil)<|pSeq ?_
 obtain⟨k,h,e⟩:=bd h
 refine wK0 (.inr ()=k) ([]) ([]) ?_ ?_
 ·refine wBlock (wLoop ?_)
  refine lW (pc1 k (fun g=>[(0,.d ((kL (kR ap)).sig c)),(1,.d ((sFun PP (rl1 (kR ap) kB a1)))),(7,.d (ki.sig (c.length:Int))),(8,.d (ki.sig g))]) (fun g=>[]) (aM.l0.partial_correctness c a1) ?_ _ h) ⟨u,u,u,u,tv⟩ u
  clear h
  intro f' ih g h
  refine wSeq<|rx (c1<|.nil)<|pSeq<|wSeq ?_
  obtain⟨a,h⟩|⟨a,h⟩:=ik h
  ·refine wCT a.1 tm (s1 u)<|wSkip<|pSeq<|wSeq<|wBlock<|wSeq<|rx (c2<|.nil)<|pSeq<|wSeq ?_
   obtain⟨l,i,h⟩:=bd h
   obtain⟨m,j,h⟩:=bd h
   refine rx (c3<|cp (oIdx u49 z35 i tm tm) (s2 u u)<|c1<|cp (oCallV u (rl1i (f:=a1) j) tm (oc tm o0)) (s2 u u)<|.nil)<|pSeq ?_
   obtain⟨b,h⟩|⟨b,h⟩:=ik h
   ·refine wBT b.1 tm (s1 u)<|wSeq<|rx (c2<|.nil)<|pSeq<|wRet<|pBlkR<|pThenR<|pThenR<|pBlkR<|pThenR ?_
    obtain rfl:=so h
    replace h:=e
    refine pThenR ?_
    obtain rfl:=so h
    exact pR1 (.inl u) u (.tmp u<|.nil)
   ·exact wBF b.1 tm (s1 u)<|wSkip<|pBlkN<|pSeq<|rx (c2<|.nil)<|pLoop (lW (ih _ h) ⟨u,u,u,u,tv⟩ u)
  ·exact wCF a.1 tm (s1 u)<|wExit<|pThenX<|pThenX<|pBlkX<|pJ0 (so h) tv u
 ·rintro rfl
  replace h:=e
  refine pSeq<|wSeq<|rx (c1<|.nil)<|pSeq<|wRet ?_
  obtain rfl:=so h
  exact pR1 (.inl u) u (.tmp u<|.nil)
theorem bR.ok{q:aq} {a1:bw} {a2:ah} {a3:Int} {r:(List ah)×Int×Int}(h:bR.f q a1 a2 a3=some r):FnS PP 67 [.d ((kR aA).sig q),.d ((kR bf).sig a1),.d ((kR ap).sig a2),.d (ki.sig a3)] [] [] (.f [80000] (sTR [ki.sig r.2.1,ki.sig r.2.2])) [.row 80000 35 (kR ap) r.1]:=by
 refine fnIntroS Tryz.func67 u (by kernel_rfl) fun X H0 w0 pv=>?_
 unfold bR.f at h
 refine wSeq<|rx (c3<|cp (oAs cV) tv<|c2<|.nil)<|pSeq<|wSeq<|wSeq ?_
 obtain⟨z,s,h⟩:=bd h
 refine rx (c4<|cC (ee.ok s)<|c1<|.nil)<|pSeq<|wSeq<|rx (c2<|.nil)<|pSeq ?_
 obtain⟨e,h⟩|⟨e,h⟩:=ik h
 ·refine wNT e.1 tm (s1 u)<|wSkip<|pSeq<|wSeq<|rx (cw (oAlloc (id:=12) (ls:=[.d (kN ah) []]) ze49 (fun g=>⟨[(.slice none 0 0)],_,u,zN g.H,u⟩)) tv<|.nil)<|pSeq<|wSeq<|rx (cw (oAlloc (id:=13) (ls:=[.d ki 0]) ze3 (fun g=>⟨[(.int .i64 0)],_,u,zI_i64 g.H,u⟩)) tv<|cwn (oSt (n:=0) (k:=0) u u u u z3 tm (cI (by decide))) (s1 u)<|.nil)<|pSeq<|wSeq<|wSeq ?_
  obtain⟨a,w,h⟩:=bd h
  refine rx (c4<|cm (oCallS (rest:=[.box 13 3 [.d ki 0],.box 12 49 [.d (kN ah) []]]) (R':=[.box 360160 35 (L35 a.2.2.2),.box 13 3 [.d ki 0],.box 12 49 [.d (kN ah) []]]) (out':=.f [360160] (sCloN 75 [some (sP ki a.1),some (sP (kR aA) a.2.1),some (sP (kR bf) a.2.2.1),none])) [] [(6,360160)] [] [0,1] [0,1,2] u (dY.ok w) b37 (oE1 tm (oE1 tm (oE1 tm (oE1 tm oE0)))) u u u u u u u u) ⟨u,u,u,u,tv⟩<|.nil)<|pSeq<|wBlock<|wPick (R':=[.box 13 3 [.d ki 0],.box 12 49 [.d (kN ah) []],.box 360160 35 (L35 a.2.2.2)]) [1,2,0] u u<|wNilL (kR ap) 35 5600 (n:=1) (k:=0) u u u ?_
  obtain⟨x,j,h⟩:=bd h
  refine wRangeN (Γ':=[(12,.p 12 0),(13,.p 13 0)]) (Γ2:=fun c i=>[(12,.p 12 0),(13,.p 13 0),(14,.p 14 0),(15,.d (ki.sig i))]) (caps:=[some (sP ki a.1),some (sP (kR aA) a.2.1),some (sP (kR bf) a.2.2.1),none]) (kn:=[70400]) (Rc:=[.box 70400 35 (L35 a.2.2.2)]) [(70400,360160)] (fun(b:Int×(List ah))=>[.row 5600 35 (kR ap) b.2,.box 13 3 [.d ki b.1],.box 12 49 [.v 5600]]) (fun(b:Int×(List ah)) c i=>[.box 14 35 (L35 c),.row 5600 35 (kR ap) b.2,.box 13 3 [.d ki b.1],.box 12 49 [.v 5600]]) [] [12,13] (bR.y0) (0,([]:List ah)) u (bq.ok (a1:=a.1) (a2:=a.2.1) (a3:=a.2.2.1) (a4:=a.2.2.2)) u b75 j u ⟨u,u,tv⟩ u u u ?_ ?_ ?_
  ·intro X H0 w0 l pv b c i
   exact wSeq<|rx (cw (oAlloc (id:=14) (ls:=Z35) ze35 zl35) tv<|cwn (oStP (n:=0) (k:=0) (m:=6) (d:=(kR ap)) (u:=c) pt35 u u u z35 tm tm) (s2 u u)<|.nil)<|pSeq<|rx (c1<|.nil)<|qA ⟨u,u,u,u,tv⟩
  ·intro X H0 w0 l pv b c i o h
   unfold bR.y0 at h
   refine wBlock ?_
   obtain⟨y,h⟩:=ib h
   refine rx (cr (oLdN (n:=3) (k:=0) u u u t49 tm) (s1 u)<|cr (oLdP (n:=0) (k:=0) (m:=6) (d:=(kR ap)) (u:=c) pt35 u u u t35 tm) (s1 u)<|cp (oLit (d:=(kR ap)) el49 (by decide) u u u (e1 tm e0)) (s1 u)<|cw (oApp (n:=1) (id':=34) el49 (by decide) u (by decide) y tm tm) (s2 u u)<|c1<|cwn (oStN (n:=3) (m:=1) (k:=0) u u u u z49 u tm tm) (s2 u u)<|cwn (oSt (n:=2) (k:=0) u u u u z3 tm tm) (s2 u u)<|.nil)<|pBlkN<|pDrop (.cons _ (.cons_cons _ (.cons_cons _ (.cons_cons _ .slnil))))<|pSub (Γ':=[]) tv<|pRen 34 5600 u ?_
   obtain rfl:=so h
   exact qN
  ·obtain⟨hj10,h⟩|⟨hj10,h⟩:=ic h
   ·refine jp0 hj10<|pBlkN<|pSeq<|wSeq<|rdx hm (cr (oLdN (n:=2) (k:=0) u u u t49 tm) (s1 u)<|cr (oLdB (n:=1) (k:=0) u u u t3 tm) (s1 u)<|c3<|.nil)<|pSeq<|wRet ?_
    obtain rfl:=so h
    exact pSub (Γ':=[(8,.v 5600),(9,.d (ki.sig x.1.1)),(10,.d (ki.sig 0))]) (sb u)<|pRen 5600 80000 u<|pSvn (t:=8) (id:=80000) [0] u u (.inl u) u u u (fun _=>.tmp u<|.tmp u<|.tmp u<|.nil)
   ·cases h
 ·refine wNF e.1 tm (s1 u)<|wSeq<|rx (c1<|cp (oAs cV) tv<|c2<|.nil)<|pSeq<|wNil (kR ap) 35 9008 8 u u<|wRet<|pThenR ?_
  obtain rfl:=so h
  exact pSub (Γ':=[(8,.v 9008),(9,.d (ki.sig 0)),(10,.d (ki.sig z))]) (sb u)<|pRen 9008 80000 u<|pSvn (t:=8) (id:=80000) [0] u u (.inl u) u u u (fun _=>.tmp u<|.tmp u<|.tmp u<|.nil)
theorem cW.ok{a:ah} {a1:bP} {r:Bool}(h:cW.f a a1=some r):FnA PP 69 [(kR ap).sig a,sP (kR bM) a1] (kB.sig r):=by
 refine fnIntro Tryz.func69 u (by kernel_rfl) fun H0 w0=>?_
 unfold cW.f at h
 refine wSeq<|rx (c2<|.nil)<|pSeq<|wSeq ?_
 obtain⟨c,b,h⟩:=bd h
 refine rx (c2<|cC (bz.ok b)<|c2<|.nil)<|pSeq<|wRet ?_
 obtain rfl:=so h
 exact pR1 (.inl u) u (.tmp u<|.nil)
theorem aG.ok{z:List ah} {a1:ah->Option Bool} {r:(List ah)}(h:aG.f z a1=some r):FnS PP 68 [.v 90000,.d ((sFun PP (rl1 (kR ap) kB a1)))] [.row 90000 35 (kR ap) z] [] (.d ((kL (kR ap)).sig r)) []:=by
 refine fnIntroS Tryz.func68 u (by kernel_rfl) fun X H0 w0 pv=>?_
 unfold aG.f at h
 refine wSeq<|rx (cp (oAs cV) tv<|.nil)<|pSeq<|wSeq ?_
 obtain⟨A,B,h⟩:=bd h
 refine rx (c2<|cr (oCallB u (aM.ok B) (fK fI) b113 (rc1 (rR (n:=0) u) (rc1 (rD tm) rn0))) (s2 u u)<|c1<|.nil)<|pSeq<|wSeq<|wSeq<|rx (c2<|.nil)<|pSeq ?_
 obtain⟨o,h⟩|⟨o,h⟩:=ik h
 ·refine wCT o.1 tm (s1 u)<|wSeq<|rx (c2<|.nil)<|pSeq<|wFrzR (n:=0) (id:=90000) [4] u u ⟨u,tv⟩<|wRet<|pThenR ?_
  obtain rfl:=so h
  exact pS1 [] u u (.inl u) u (.tmp u<|.nil)
 ·refine wCF o.1 tm (s1 u)<|wSkip<|pSeq<|wSeq<|wSeq<|rx (c3<|.nil)<|pSeq<|wWeak (Γ':=[(0,.v 90000),(1,.d ((sFun PP (rl1 (kR ap) kB a1)))),(5,.d (ki.sig A)),(6,.d (ki.sig (IntKind.i64.wrap (A+1))))]) (sb u)<|wRen 90000 1000 u ?_
  obtain⟨C,h,D⟩:=bd h
  refine wK2 (fun a b=>(a,b)=C) (fun a b=>[(0,.v 1000),(5,.d (ki.sig b))]) (fun a b=>[.row 1000 35 (kR ap) a]) ?_ ?_
  ·refine wBlock (wLoop ?_)
   refine lW (pc3 C (fun p q l=>[(0,.v 1000),(1,.d ((sFun PP (rl1 (kR ap) kB a1)))),(5,.d (ki.sig q)),(6,.d (ki.sig l))]) (fun p q l=>[.row 1000 35 (kR ap) p]) (aG.l0.partial_correctness a1) ?_ _ _ _ h) ⟨u,u,u,u,tv⟩ u
   clear h
   intro f' ih p q l h
   refine wSeq<|wSeq<|rx (c2<|cr (oLenR (n:=0) u49 u tm) (s1 u)<|c1<|.nil)<|pSeq ?_
   obtain⟨g,h⟩|⟨g,h⟩:=ik h
   ·refine wCT g.1 tm (s1 u)<|wSkip<|pSeq ?_
    obtain⟨F,h,E⟩:=bd h
    refine wJ2 (fun c e=>(c,e)=F) (fun c e=>[(0,.v 1000),(1,.d ((sFun PP (rl1 (kR ap) kB a1)))),(5,.d (ki.sig e)),(6,.d (ki.sig l))]) (fun c e=>[.row 1000 35 (kR ap) c]) ?_ ?_
    ·refine wBlock<|wSeq ?_
     obtain⟨s,t,h⟩:=bd h
     refine rx (c2<|cr (oIdxR (n:=0) u49 z35 u t tm tm) (s2 u u)<|cr (oLdE (n:=0) u t u t35 tm) (s1 u)<|cw (oAlloc (id:=7) (ls:=Z35) ze35 zl35) tv<|cwn (oStP (n:=0) (k:=0) (m:=6) (d:=(kR ap)) (u:=s) pt35 u u u z35 tm tm) (s2 u u)<|.nil)<|pSeq<|wSeq ?_
     obtain⟨G,y,h⟩:=bd h
     refine rx (c1<|cr (oLdP (n:=0) (k:=0) (m:=6) (d:=(kR ap)) (u:=s) pt35 u u u t35 tm) (s1 u)<|cp (oCallV u (rl1i (f:=a1) y) tm (oc tm o0)) (s2 u u)<|c1<|.nil)<|pSeq ?_
     obtain⟨i,h⟩|⟨i,h⟩:=ik h
     ·refine wBT i.1 tm (s1 u)<|wSeq ?_
      obtain⟨H,w,h⟩:=bd h
      exact rx (c2<|cr (oLdP (n:=0) (k:=0) (m:=6) (d:=(kR ap)) (u:=s) pt35 u u u t35 tm) (s1 u)<|cr (oIdxR (n:=1) u49 z35 u w tm tm) (s2 u u)<|cwn (oStE (n:=1) u w u z35 tm tm) (s2 u u)<|.nil)<|pSeq<|rx (c3<|.nil)<|pBlkN<|pDrop (.cons _ (.cons_cons _ .slnil))<|pJ2 _ _ (so h) (sb u) u
     ·exact wBF i.1 tm (s1 u)<|wSkip<|pBlkN<|pDrop (.cons _ (.cons_cons _ .slnil))<|pJ2 _ _ (so h) (sb u) u
    ·rintro c e rfl
     replace h:=E
     exact rx (c3<|.nil)<|pLoop (lW (ih _ _ _ h) ⟨u,u,u,u,tv⟩ u)
   ·exact wCF g.1 tm (s1 u)<|wExit<|pThenX<|pThenX<|pBlkX<|pJ2 _ _ (so h) (sb u) u
  ·rintro a b rfl
   replace h:=D
   refine pSeq<|wSeq ?_
   obtain⟨j,h⟩:=ib h
   refine rx (c2<|cr (oSlT (n:=0) u49 z35 u j.1 j.2 tm tm) (s2 u u)<|cwn (oClr (n:=0) u49 ze35 lr (by decide) u (by have:=j;omega) tm) (s1 u)<|.nil)<|pSeq<|wSeq ?_
   obtain⟨x,h⟩:=ib h
   refine rx (c2<|cw (oCutR (n:=0) (id':=41) u49 z35 u x.1 x.2 tm tm) (s2 u u)<|c1<|.nil)<|pSeq<|wFrzR (n:=0) (id:=41) [4] u u ⟨u,tv⟩<|wRet ?_
   obtain rfl:=so h
   exact pS1 [] u u (.inl u) u (.tmp u<|.nil)
theorem cJ.ok{a:bP} {a1:ah} {r:List ah}(h:cJ.f a a1=some r):FnA PP 30 [(kR bM).sig a,(kR ap).sig a1] ((kL (kR ap)).sig r):=by
 refine fnIntro Tryz.func30 u (by kernel_rfl) fun H0 w0=>?_
 unfold cJ.f at h
 refine wSeq<|rx (c2<|cp (oAs cV) tv<|.nil)<|pSeq<|wSeq ?_
 obtain⟨b,c,h⟩:=bd h
 refine rx (c6<|c1<|cm (oCallS (rest:=[]) (R':=[.row 310280 35 (kR ap) b.1]) (out':=.f [310280] (sTR [ki.sig b.2.1,ki.sig b.2.2])) [] [(80000,310280)] [] [] [0] u (bR.ok c) b67 (oE1 tm (oE1 tm (oE1 tm (oE1 tm oE0)))) u u u u u u u u) ⟨u,u,u,u,tv⟩<|c1<|cp (oExT0 tm) (s1 u)<|cp (oExTk (k:=0) u tm) (s1 u)<|cp (oExTk (k:=1) u tm) (s1 u)<|c3<|.nil)<|pSeq<|wSeq ?_
 obtain⟨g,e,h⟩:=bd h
 refine rx (c1<|cp (oMkF (Rl:=rl1 (kR ap) kB (fun i=>cW.f i a)) u b69 (rl1e cW.ok) (oc tm o0)) (s1 u)<|cm (oCallS (rest:=[]) (R':=[]) (out':=.d ((kL (kR ap)).sig g)) [(90000,310280)] [] [0] [] [] u (aG.ok e) b68 (oE1 tm (oE1 tm oE0)) u u u u u u u u) (s2 u u)<|c1<|.nil)<|pSeq<|wRet ?_
 obtain rfl:=so h
 exact pR1 (.inl u) u (.tmp u<|.nil)
end Go.Proofs.YtmjcpkmongafnaaGreatDoor.TT
