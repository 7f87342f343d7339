import Derived.Test.YtmjcpkmongafnaaGreatDoorCln
import Derived.Test.YtmjcpkmongafnaaGreatDoorWTTp1
import Derived.Test.YtmjcpkmongafnaaGreatDoorProg
set_option linter.unusedVariables false
set_option autoImplicit true
set_option maxRecDepth 10000
set_option maxHeartbeats 2000000
set_option synthInstance.maxHeartbeats 200000
set_option synthInstance.maxSize 2000
namespace Go.Proofs.YtmjcpkmongafnaaGreatDoor.TT
open Go Go.Proofs.YtmjcpkmongafnaaGreatDoor.Ab
theorem b9.ok(h:b9.f a0=some z):FnZ PP 157 [.p 70000 0] [.box 70000 204 (L204 a0)] [70000] 199 (fun(r:aE)=>.d (tup [])) (fun(r:aE)=>[.box 70000 204 (L204 r)]) z:=by
 refine fnIntroZ Tryz.func157 u (by kernel_rfl) fun X H0 w0 pv=>?_
 unfold b9.f at h
 refine sx (c4<|c1<|lK 0 6 u u (by kernel_rfl) t33 u<|c3<|cwn (oStK (n:=0) (k:=20) u u u (by kernel_rfl) z3 tm tm) (s2 u u)<|.nil)<|wPtr (n:=0) 0 u u (fun a=>?_)
 refine wT0<|wTk 0 47 (cw (oMkMap (id:=11) (dk:=ki) (dv:=kV)) tv<|c1<|cp (oMkBV tm) (s1 u)<|cwn (oInsert (n:=0) (dk:=ki) (dv:=kV) u u216 mk3 u u tm (cI (by decide)) tm) (s2 u u)<|c1<|cp (oMkBV tm) (s1 u)<|cwn (oInsert (n:=0) (dk:=ki) (dv:=kV) u u216 mk3 u u tm (cI (by decide)) tm) (s2 u u)<|c1<|cp (oMkBV tm) (s1 u)<|cwn (oInsert (n:=0) (dk:=ki) (dv:=kV) u u216 mk3 u u tm (cI (by decide)) tm) (s2 u u)<|c1<|cp (oMkBV tm) (s1 u)<|cwn (oInsert (n:=0) (dk:=ki) (dv:=kV) u u216 mk3 u u tm (cI (by decide)) tm) (s2 u u)<|c1<|cp (oMkBV tm) (s1 u)<|cwn (oInsert (n:=0) (dk:=ki) (dv:=kV) u u216 mk3 u u tm (cI (by decide)) tm) (s2 u u)<|c1<|cp (oMkBV tm) (s1 u)<|cwn (oInsert (n:=0) (dk:=ki) (dv:=kV) u u216 mk3 u u tm (cI (by decide)) tm) (s2 u u)<|c1<|cp (oMkBV tm) (s1 u)<|cwn (oInsert (n:=0) (dk:=ki) (dv:=kV) u u216 mk3 u u tm (cI (by decide)) tm) (s2 u u)<|c1<|cp (oMkBV tm) (s1 u)<|cwn (oInsert (n:=0) (dk:=ki) (dv:=kV) u u216 mk3 u u tm (cI (by decide)) tm) (s2 u u)<|c1<|cp (oMkBV tm) (s1 u)<|cwn (oInsert (n:=0) (dk:=ki) (dv:=kV) u u216 mk3 u u tm (cI (by decide)) tm) (s2 u u)<|c1<|cp (oMkBV tm) (s1 u)<|cwn (oInsert (n:=0) (dk:=ki) (dv:=kV) u u216 mk3 u u tm (cI (by decide)) tm) (s2 u u)<|c1<|cp (oMkBV tm) (s1 u)<|cwn (oInsert (n:=0) (dk:=ki) (dv:=kV) u u216 mk3 u u tm (cI (by decide)) tm) (s2 u u)<|c1<|cp (oMkBV tm) (s1 u)<|cwn (oInsert (n:=0) (dk:=ki) (dv:=kV) u u216 mk3 u u tm (cI (by decide)) tm) (s2 u u)<|c1<|cp (oMkBV tm) (s1 u)<|cwn (oInsert (n:=0) (dk:=ki) (dv:=kV) u u216 mk3 u u tm (cI (by decide)) tm) (s2 u u)<|c2<|cp (oNilP tmP) (s1 u)<|c2<|lK 1 8 u u (by kernel_rfl) t3 u<|cr (oLookR (n:=0) u u216 mk3 zv1 (fun H=>⟨u,u⟩) u tm tm) (s2 u u)<|.nil) (by kernel_rfl) u ?_
 obtain⟨E,h⟩|⟨E,h⟩:=ik h
 ·obtain⟨y2,J,h⟩:=bd h
  refine wTe 47 (cm (oCallBV (kn:=70000) (rest:=[.abs 11 (aMap ki kV) [(0,bmV 173 a),(12,bmV 173 a),(1,bmV 174 a),(2,bmV 175 a),(11,bmV 175 a),(3,bmV 176 a),(4,bmV 176 a),(5,bmV 177 a),(6,bmV 178 a),(7,bmV 179 a),(8,bmV 175 a),(9,bmV 180 a),(10,bmV 181 a)]]) (R':=[.abs 11 (aMap ki kV) [(0,bmV 173 a),(12,bmV 173 a),(1,bmV 174 a),(2,bmV 175 a),(11,bmV 175 a),(3,bmV 176 a),(4,bmV 176 a),(5,bmV 177 a),(6,bmV 178 a),(7,bmV 179 a),(8,bmV 175 a),(9,bmV 180 a),(10,bmV 181 a)],.box 70000 204 (L204 y2)]) (out':=.d (tup [])) [(70000,70000)] [] [1] [0] [1,0] (by rw[E.1];rfl) tm (tm (t:=0)) (fu.ok J) u b173 u u u u u u u u) (s2 u u)<|.nil) (by kernel_rfl) ?_
  obtain rfl:=so h
  exact pZ<|pSn [1] u u (.inr u) u u (.nil)
 ·obtain⟨F,h⟩|⟨F,h⟩:=ik h
  ·obtain⟨y4,K,h⟩:=bd h
   refine wTe 47 (cm (oCallBV (kn:=70000) (rest:=[.abs 11 (aMap ki kV) [(0,bmV 173 a),(12,bmV 173 a),(1,bmV 174 a),(2,bmV 175 a),(11,bmV 175 a),(3,bmV 176 a),(4,bmV 176 a),(5,bmV 177 a),(6,bmV 178 a),(7,bmV 179 a),(8,bmV 175 a),(9,bmV 180 a),(10,bmV 181 a)]]) (R':=[.abs 11 (aMap ki kV) [(0,bmV 173 a),(12,bmV 173 a),(1,bmV 174 a),(2,bmV 175 a),(11,bmV 175 a),(3,bmV 176 a),(4,bmV 176 a),(5,bmV 177 a),(6,bmV 178 a),(7,bmV 179 a),(8,bmV 175 a),(9,bmV 180 a),(10,bmV 181 a)],.box 70000 204 (L204 y4)]) (out':=.d (tup [])) [(70000,70000)] [] [1] [0] [1,0] (by rw[F.1];rfl) tm (tm (t:=0)) (fu.ok K) u b173 u u u u u u u u) (s2 u u)<|.nil) (by kernel_rfl) ?_
   obtain rfl:=so h
   exact pZ<|pSn [1] u u (.inr u) u u (.nil)
  ·obtain⟨G,h⟩|⟨G,h⟩:=ik h
   ·obtain⟨y6,L,h⟩:=bd h
    refine wTe 47 (cm (oCallBV (kn:=70000) (rest:=[.abs 11 (aMap ki kV) [(0,bmV 173 a),(12,bmV 173 a),(1,bmV 174 a),(2,bmV 175 a),(11,bmV 175 a),(3,bmV 176 a),(4,bmV 176 a),(5,bmV 177 a),(6,bmV 178 a),(7,bmV 179 a),(8,bmV 175 a),(9,bmV 180 a),(10,bmV 181 a)]]) (R':=[.abs 11 (aMap ki kV) [(0,bmV 173 a),(12,bmV 173 a),(1,bmV 174 a),(2,bmV 175 a),(11,bmV 175 a),(3,bmV 176 a),(4,bmV 176 a),(5,bmV 177 a),(6,bmV 178 a),(7,bmV 179 a),(8,bmV 175 a),(9,bmV 180 a),(10,bmV 181 a)],.box 70000 204 (L204 y6)]) (out':=.d (tup [])) [(70000,70000)] [] [1] [0] [1,0] (by rw[G.1];rfl) tm (tm (t:=0)) (gq.ok L) u b174 u u u u u u u u) (s2 u u)<|.nil) (by kernel_rfl) ?_
    obtain rfl:=so h
    exact pZ<|pSn [1] u u (.inr u) u u (.nil)
   ·obtain⟨q,h⟩|⟨q,h⟩:=ik h
    ·obtain⟨z8,I,h⟩:=bd h
     rcases z8 with p9|M
     ·refine wTx (Γp:=[]) 47 u (oCallBX (kn:=70000) (rest:=[.abs 11 (aMap ki kV) [(0,bmV 173 a),(12,bmV 173 a),(1,bmV 174 a),(2,bmV 175 a),(11,bmV 175 a),(3,bmV 176 a),(4,bmV 176 a),(5,bmV 177 a),(6,bmV 178 a),(7,bmV 179 a),(8,bmV 175 a),(9,bmV 180 a),(10,bmV 181 a)]]) [(70000,70000)] [1] [0] (by rw[q.1];rfl) tm (tm (t:=0)) (bE.okP I) u b175 u u) u u (s2 u u) tv ?_
      obtain rfl:=so h
      exact pX
     ·refine wTe 47 (cm (oCallBV (kn:=70000) (rest:=[.abs 11 (aMap ki kV) [(0,bmV 173 a),(12,bmV 173 a),(1,bmV 174 a),(2,bmV 175 a),(11,bmV 175 a),(3,bmV 176 a),(4,bmV 176 a),(5,bmV 177 a),(6,bmV 178 a),(7,bmV 179 a),(8,bmV 175 a),(9,bmV 180 a),(10,bmV 181 a)]]) (R':=[.abs 11 (aMap ki kV) [(0,bmV 173 a),(12,bmV 173 a),(1,bmV 174 a),(2,bmV 175 a),(11,bmV 175 a),(3,bmV 176 a),(4,bmV 176 a),(5,bmV 177 a),(6,bmV 178 a),(7,bmV 179 a),(8,bmV 175 a),(9,bmV 180 a),(10,bmV 181 a)],.box 70000 204 (L204 M)]) (out':=.d (tup [])) [(70000,70000)] [] [1] [0] [1,0] (by rw[q.1];rfl) tm (tm (t:=0)) (bE.okR I) u b175 u u u u u u u u) (s2 u u)<|.nil) (by kernel_rfl) ?_
      obtain rfl:=so h
      exact pZ<|pSn [1] u u (.inr u) u u (.nil)
    ·obtain⟨b,h⟩|⟨b,h⟩:=ik h
     ·obtain⟨N,s,h⟩:=bd h
      rcases N with qg|O
      ·refine wTx (Γp:=[]) 47 u (oCallBX (kn:=70000) (rest:=[.abs 11 (aMap ki kV) [(0,bmV 173 a),(12,bmV 173 a),(1,bmV 174 a),(2,bmV 175 a),(11,bmV 175 a),(3,bmV 176 a),(4,bmV 176 a),(5,bmV 177 a),(6,bmV 178 a),(7,bmV 179 a),(8,bmV 175 a),(9,bmV 180 a),(10,bmV 181 a)]]) [(70000,70000)] [1] [0] (by rw[b.1];rfl) tm (tm (t:=0)) (bE.okP s) u b175 u u) u u (s2 u u) tv ?_
       obtain rfl:=so h
       exact pX
      ·refine wTe 47 (cm (oCallBV (kn:=70000) (rest:=[.abs 11 (aMap ki kV) [(0,bmV 173 a),(12,bmV 173 a),(1,bmV 174 a),(2,bmV 175 a),(11,bmV 175 a),(3,bmV 176 a),(4,bmV 176 a),(5,bmV 177 a),(6,bmV 178 a),(7,bmV 179 a),(8,bmV 175 a),(9,bmV 180 a),(10,bmV 181 a)]]) (R':=[.abs 11 (aMap ki kV) [(0,bmV 173 a),(12,bmV 173 a),(1,bmV 174 a),(2,bmV 175 a),(11,bmV 175 a),(3,bmV 176 a),(4,bmV 176 a),(5,bmV 177 a),(6,bmV 178 a),(7,bmV 179 a),(8,bmV 175 a),(9,bmV 180 a),(10,bmV 181 a)],.box 70000 204 (L204 O)]) (out':=.d (tup [])) [(70000,70000)] [] [1] [0] [1,0] (by rw[b.1];rfl) tm (tm (t:=0)) (bE.okR s) u b175 u u u u u u u u) (s2 u u)<|.nil) (by kernel_rfl) ?_
       obtain rfl:=so h
       exact pZ<|pSn [1] u u (.inr u) u u (.nil)
     ·obtain⟨c,h⟩|⟨c,h⟩:=ik h
      ·obtain⟨P,v,h⟩:=bd h
       rcases P with qh|Q
       ·refine wTx (Γp:=[]) 47 u (oCallBX (kn:=70000) (rest:=[.abs 11 (aMap ki kV) [(0,bmV 173 a),(12,bmV 173 a),(1,bmV 174 a),(2,bmV 175 a),(11,bmV 175 a),(3,bmV 176 a),(4,bmV 176 a),(5,bmV 177 a),(6,bmV 178 a),(7,bmV 179 a),(8,bmV 175 a),(9,bmV 180 a),(10,bmV 181 a)]]) [(70000,70000)] [1] [0] (by rw[c.1];rfl) tm (tm (t:=0)) (cF.okP v) u b176 u u) u u (s2 u u) tv ?_
        obtain rfl:=so h
        exact pX
       ·refine wTe 47 (cm (oCallBV (kn:=70000) (rest:=[.abs 11 (aMap ki kV) [(0,bmV 173 a),(12,bmV 173 a),(1,bmV 174 a),(2,bmV 175 a),(11,bmV 175 a),(3,bmV 176 a),(4,bmV 176 a),(5,bmV 177 a),(6,bmV 178 a),(7,bmV 179 a),(8,bmV 175 a),(9,bmV 180 a),(10,bmV 181 a)]]) (R':=[.abs 11 (aMap ki kV) [(0,bmV 173 a),(12,bmV 173 a),(1,bmV 174 a),(2,bmV 175 a),(11,bmV 175 a),(3,bmV 176 a),(4,bmV 176 a),(5,bmV 177 a),(6,bmV 178 a),(7,bmV 179 a),(8,bmV 175 a),(9,bmV 180 a),(10,bmV 181 a)],.box 70000 204 (L204 Q)]) (out':=.d (tup [])) [(70000,70000)] [] [1] [0] [1,0] (by rw[c.1];rfl) tm (tm (t:=0)) (cF.okR v) u b176 u u u u u u u u) (s2 u u)<|.nil) (by kernel_rfl) ?_
        obtain rfl:=so h
        exact pZ<|pSn [1] u u (.inr u) u u (.nil)
      ·obtain⟨e,h⟩|⟨e,h⟩:=ik h
       ·obtain⟨R,w,h⟩:=bd h
        rcases R with qi|S
        ·refine wTx (Γp:=[]) 47 u (oCallBX (kn:=70000) (rest:=[.abs 11 (aMap ki kV) [(0,bmV 173 a),(12,bmV 173 a),(1,bmV 174 a),(2,bmV 175 a),(11,bmV 175 a),(3,bmV 176 a),(4,bmV 176 a),(5,bmV 177 a),(6,bmV 178 a),(7,bmV 179 a),(8,bmV 175 a),(9,bmV 180 a),(10,bmV 181 a)]]) [(70000,70000)] [1] [0] (by rw[e.1];rfl) tm (tm (t:=0)) (cF.okP w) u b176 u u) u u (s2 u u) tv ?_
         obtain rfl:=so h
         exact pX
        ·refine wTe 47 (cm (oCallBV (kn:=70000) (rest:=[.abs 11 (aMap ki kV) [(0,bmV 173 a),(12,bmV 173 a),(1,bmV 174 a),(2,bmV 175 a),(11,bmV 175 a),(3,bmV 176 a),(4,bmV 176 a),(5,bmV 177 a),(6,bmV 178 a),(7,bmV 179 a),(8,bmV 175 a),(9,bmV 180 a),(10,bmV 181 a)]]) (R':=[.abs 11 (aMap ki kV) [(0,bmV 173 a),(12,bmV 173 a),(1,bmV 174 a),(2,bmV 175 a),(11,bmV 175 a),(3,bmV 176 a),(4,bmV 176 a),(5,bmV 177 a),(6,bmV 178 a),(7,bmV 179 a),(8,bmV 175 a),(9,bmV 180 a),(10,bmV 181 a)],.box 70000 204 (L204 S)]) (out':=.d (tup [])) [(70000,70000)] [] [1] [0] [1,0] (by rw[e.1];rfl) tm (tm (t:=0)) (cF.okR w) u b176 u u u u u u u u) (s2 u u)<|.nil) (by kernel_rfl) ?_
         obtain rfl:=so h
         exact pZ<|pSn [1] u u (.inr u) u u (.nil)
       ·obtain⟨g,h⟩|⟨g,h⟩:=ik h
        ·obtain⟨T,x,h⟩:=bd h
         rcases T with qj|U
         ·refine wTx (Γp:=[]) 47 u (oCallBX (kn:=70000) (rest:=[.abs 11 (aMap ki kV) [(0,bmV 173 a),(12,bmV 173 a),(1,bmV 174 a),(2,bmV 175 a),(11,bmV 175 a),(3,bmV 176 a),(4,bmV 176 a),(5,bmV 177 a),(6,bmV 178 a),(7,bmV 179 a),(8,bmV 175 a),(9,bmV 180 a),(10,bmV 181 a)]]) [(70000,70000)] [1] [0] (by rw[g.1];rfl) tm (tm (t:=0)) (dG.okP x) u b177 u u) u u (s2 u u) tv ?_
          obtain rfl:=so h
          exact pX
         ·refine wTe 47 (cm (oCallBV (kn:=70000) (rest:=[.abs 11 (aMap ki kV) [(0,bmV 173 a),(12,bmV 173 a),(1,bmV 174 a),(2,bmV 175 a),(11,bmV 175 a),(3,bmV 176 a),(4,bmV 176 a),(5,bmV 177 a),(6,bmV 178 a),(7,bmV 179 a),(8,bmV 175 a),(9,bmV 180 a),(10,bmV 181 a)]]) (R':=[.abs 11 (aMap ki kV) [(0,bmV 173 a),(12,bmV 173 a),(1,bmV 174 a),(2,bmV 175 a),(11,bmV 175 a),(3,bmV 176 a),(4,bmV 176 a),(5,bmV 177 a),(6,bmV 178 a),(7,bmV 179 a),(8,bmV 175 a),(9,bmV 180 a),(10,bmV 181 a)],.box 70000 204 (L204 U)]) (out':=.d (tup [])) [(70000,70000)] [] [1] [0] [1,0] (by rw[g.1];rfl) tm (tm (t:=0)) (dG.okR x) u b177 u u u u u u u u) (s2 u u)<|.nil) (by kernel_rfl) ?_
          obtain rfl:=so h
          exact pZ<|pSn [1] u u (.inr u) u u (.nil)
        ·obtain⟨i,h⟩|⟨i,h⟩:=ik h
         ·obtain⟨z28,y,h⟩:=bd h
          rcases z28 with qk|V
          ·refine wTx (Γp:=[]) 47 u (oCallBX (kn:=70000) (rest:=[.abs 11 (aMap ki kV) [(0,bmV 173 a),(12,bmV 173 a),(1,bmV 174 a),(2,bmV 175 a),(11,bmV 175 a),(3,bmV 176 a),(4,bmV 176 a),(5,bmV 177 a),(6,bmV 178 a),(7,bmV 179 a),(8,bmV 175 a),(9,bmV 180 a),(10,bmV 181 a)]]) [(70000,70000)] [1] [0] (by rw[i.1];rfl) tm (tm (t:=0)) (dt.okP y) u b178 u u) u u (s2 u u) tv ?_
           obtain rfl:=so h
           exact pX
          ·refine wTe 47 (cm (oCallBV (kn:=70000) (rest:=[.abs 11 (aMap ki kV) [(0,bmV 173 a),(12,bmV 173 a),(1,bmV 174 a),(2,bmV 175 a),(11,bmV 175 a),(3,bmV 176 a),(4,bmV 176 a),(5,bmV 177 a),(6,bmV 178 a),(7,bmV 179 a),(8,bmV 175 a),(9,bmV 180 a),(10,bmV 181 a)]]) (R':=[.abs 11 (aMap ki kV) [(0,bmV 173 a),(12,bmV 173 a),(1,bmV 174 a),(2,bmV 175 a),(11,bmV 175 a),(3,bmV 176 a),(4,bmV 176 a),(5,bmV 177 a),(6,bmV 178 a),(7,bmV 179 a),(8,bmV 175 a),(9,bmV 180 a),(10,bmV 181 a)],.box 70000 204 (L204 V)]) (out':=.d (tup [])) [(70000,70000)] [] [1] [0] [1,0] (by rw[i.1];rfl) tm (tm (t:=0)) (dt.okR y) u b178 u u u u u u u u) (s2 u u)<|.nil) (by kernel_rfl) ?_
           obtain rfl:=so h
           exact pZ<|pSn [1] u u (.inr u) u u (.nil)
         ·obtain⟨j,h⟩|⟨j,h⟩:=ik h
          ·obtain⟨z32,A,h⟩:=bd h
           rcases z32 with ql|W
           ·refine wTx (Γp:=[]) 47 u (oCallBX (kn:=70000) (rest:=[.abs 11 (aMap ki kV) [(0,bmV 173 a),(12,bmV 173 a),(1,bmV 174 a),(2,bmV 175 a),(11,bmV 175 a),(3,bmV 176 a),(4,bmV 176 a),(5,bmV 177 a),(6,bmV 178 a),(7,bmV 179 a),(8,bmV 175 a),(9,bmV 180 a),(10,bmV 181 a)]]) [(70000,70000)] [1] [0] (by rw[j.1];rfl) tm (tm (t:=0)) (df.okP A) u b179 u u) u u (s2 u u) tv ?_
            obtain rfl:=so h
            exact pX
           ·refine wTe 47 (cm (oCallBV (kn:=70000) (rest:=[.abs 11 (aMap ki kV) [(0,bmV 173 a),(12,bmV 173 a),(1,bmV 174 a),(2,bmV 175 a),(11,bmV 175 a),(3,bmV 176 a),(4,bmV 176 a),(5,bmV 177 a),(6,bmV 178 a),(7,bmV 179 a),(8,bmV 175 a),(9,bmV 180 a),(10,bmV 181 a)]]) (R':=[.abs 11 (aMap ki kV) [(0,bmV 173 a),(12,bmV 173 a),(1,bmV 174 a),(2,bmV 175 a),(11,bmV 175 a),(3,bmV 176 a),(4,bmV 176 a),(5,bmV 177 a),(6,bmV 178 a),(7,bmV 179 a),(8,bmV 175 a),(9,bmV 180 a),(10,bmV 181 a)],.box 70000 204 (L204 W)]) (out':=.d (tup [])) [(70000,70000)] [] [1] [0] [1,0] (by rw[j.1];rfl) tm (tm (t:=0)) (df.okR A) u b179 u u u u u u u u) (s2 u u)<|.nil) (by kernel_rfl) ?_
            obtain rfl:=so h
            exact pZ<|pSn [1] u u (.inr u) u u (.nil)
          ·obtain⟨l,h⟩|⟨l,h⟩:=ik h
           ·obtain⟨Y,B,h⟩:=bd h
            rcases Y with qm|Z
            ·refine wTx (Γp:=[]) 47 u (oCallBX (kn:=70000) (rest:=[.abs 11 (aMap ki kV) [(0,bmV 173 a),(12,bmV 173 a),(1,bmV 174 a),(2,bmV 175 a),(11,bmV 175 a),(3,bmV 176 a),(4,bmV 176 a),(5,bmV 177 a),(6,bmV 178 a),(7,bmV 179 a),(8,bmV 175 a),(9,bmV 180 a),(10,bmV 181 a)]]) [(70000,70000)] [1] [0] (by rw[l.1];rfl) tm (tm (t:=0)) (bE.okP B) u b175 u u) u u (s2 u u) tv ?_
             obtain rfl:=so h
             exact pX
            ·refine wTe 47 (cm (oCallBV (kn:=70000) (rest:=[.abs 11 (aMap ki kV) [(0,bmV 173 a),(12,bmV 173 a),(1,bmV 174 a),(2,bmV 175 a),(11,bmV 175 a),(3,bmV 176 a),(4,bmV 176 a),(5,bmV 177 a),(6,bmV 178 a),(7,bmV 179 a),(8,bmV 175 a),(9,bmV 180 a),(10,bmV 181 a)]]) (R':=[.abs 11 (aMap ki kV) [(0,bmV 173 a),(12,bmV 173 a),(1,bmV 174 a),(2,bmV 175 a),(11,bmV 175 a),(3,bmV 176 a),(4,bmV 176 a),(5,bmV 177 a),(6,bmV 178 a),(7,bmV 179 a),(8,bmV 175 a),(9,bmV 180 a),(10,bmV 181 a)],.box 70000 204 (L204 Z)]) (out':=.d (tup [])) [(70000,70000)] [] [1] [0] [1,0] (by rw[l.1];rfl) tm (tm (t:=0)) (bE.okR B) u b175 u u u u u u u u) (s2 u u)<|.nil) (by kernel_rfl) ?_
             obtain rfl:=so h
             exact pZ<|pSn [1] u u (.inr u) u u (.nil)
           ·obtain⟨m,h⟩|⟨m,h⟩:=ik h
            ·obtain⟨qc,C,h⟩:=bd h
             rcases qc with qn|qd
             ·refine wTx (Γp:=[]) 47 u (oCallBX (kn:=70000) (rest:=[.abs 11 (aMap ki kV) [(0,bmV 173 a),(12,bmV 173 a),(1,bmV 174 a),(2,bmV 175 a),(11,bmV 175 a),(3,bmV 176 a),(4,bmV 176 a),(5,bmV 177 a),(6,bmV 178 a),(7,bmV 179 a),(8,bmV 175 a),(9,bmV 180 a),(10,bmV 181 a)]]) [(70000,70000)] [1] [0] (by rw[m.1];rfl) tm (tm (t:=0)) (bK.okP C) u b180 u u) u u (s2 u u) tv ?_
              obtain rfl:=so h
              exact pX
             ·refine wTe 47 (cm (oCallBV (kn:=70000) (rest:=[.abs 11 (aMap ki kV) [(0,bmV 173 a),(12,bmV 173 a),(1,bmV 174 a),(2,bmV 175 a),(11,bmV 175 a),(3,bmV 176 a),(4,bmV 176 a),(5,bmV 177 a),(6,bmV 178 a),(7,bmV 179 a),(8,bmV 175 a),(9,bmV 180 a),(10,bmV 181 a)]]) (R':=[.abs 11 (aMap ki kV) [(0,bmV 173 a),(12,bmV 173 a),(1,bmV 174 a),(2,bmV 175 a),(11,bmV 175 a),(3,bmV 176 a),(4,bmV 176 a),(5,bmV 177 a),(6,bmV 178 a),(7,bmV 179 a),(8,bmV 175 a),(9,bmV 180 a),(10,bmV 181 a)],.box 70000 204 (L204 qd)]) (out':=.d (tup [])) [(70000,70000)] [] [1] [0] [1,0] (by rw[m.1];rfl) tm (tm (t:=0)) (bK.okR C) u b180 u u u u u u u u) (s2 u u)<|.nil) (by kernel_rfl) ?_
              obtain rfl:=so h
              exact pZ<|pSn [1] u u (.inr u) u u (.nil)
            ·obtain⟨o,h⟩|⟨o,h⟩:=ik h
             ·obtain⟨qe,D,h⟩:=bd h
              rcases qe with qo|qf
              ·refine wTx (Γp:=[]) 47 u (oCallBX (kn:=70000) (rest:=[.abs 11 (aMap ki kV) [(0,bmV 173 a),(12,bmV 173 a),(1,bmV 174 a),(2,bmV 175 a),(11,bmV 175 a),(3,bmV 176 a),(4,bmV 176 a),(5,bmV 177 a),(6,bmV 178 a),(7,bmV 179 a),(8,bmV 175 a),(9,bmV 180 a),(10,bmV 181 a)]]) [(70000,70000)] [1] [0] (by rw[o.1];rfl) tm (tm (t:=0)) (aY.okP D) u b181 u u) u u (s2 u u) tv ?_
               obtain rfl:=so h
               exact pX
              ·refine wTe 47 (cm (oCallBV (kn:=70000) (rest:=[.abs 11 (aMap ki kV) [(0,bmV 173 a),(12,bmV 173 a),(1,bmV 174 a),(2,bmV 175 a),(11,bmV 175 a),(3,bmV 176 a),(4,bmV 176 a),(5,bmV 177 a),(6,bmV 178 a),(7,bmV 179 a),(8,bmV 175 a),(9,bmV 180 a),(10,bmV 181 a)]]) (R':=[.abs 11 (aMap ki kV) [(0,bmV 173 a),(12,bmV 173 a),(1,bmV 174 a),(2,bmV 175 a),(11,bmV 175 a),(3,bmV 176 a),(4,bmV 176 a),(5,bmV 177 a),(6,bmV 178 a),(7,bmV 179 a),(8,bmV 175 a),(9,bmV 180 a),(10,bmV 181 a)],.box 70000 204 (L204 qf)]) (out':=.d (tup [])) [(70000,70000)] [] [1] [0] [1,0] (by rw[o.1];rfl) tm (tm (t:=0)) (aY.okR D) u b181 u u u u u u u u) (s2 u u)<|.nil) (by kernel_rfl) ?_
               obtain rfl:=so h
               exact pZ<|pSn [1] u u (.inr u) u u (.nil)
             ·cases h
theorem b9.okR(h:b9.f a=some (.inr r)):FnS PP 157 [.p 70000 0] [.box 70000 204 (L204 a)] [70000] (.d (tup [])) [.box 70000 204 (L204 r)]:=b9.ok h
theorem b9.okP(h:b9.f a=some (.inl n)):FnX PP 157 [.p 70000 0] [.box 70000 204 (L204 a)] (pvv 199 n):=b9.ok h
theorem gy.ok(h:gy.f c a1=some r):FnA PP 194 [ki.sig c,sP (kR aC) a1] (kB.sig r):=by
 refine fJ Tryz.func194 u fun H0 w0=>?_
 unfold gy.f at h
 refine sx (c1<|.nil)<|wB h (fun a=>[(3,.d (kB.sig a))]) (fun a=>[]) (fun e h=>?_) fun a h=>?_
 ·refine jx h (fun b h=>?_) fun b h=>?_
  ·exact ej (c8<|c2<|.nil) (so h) (sb u) u
  ·exact ej (c8<|c2<|.nil) (so h) (sb u) u
 ·refine wRet ?_
  obtain rfl:=so h
  exact pT u u
theorem gk.ok(h:gk.f i a1 a2 a3=some r):FnA PP 182 [(kR aC).sig i,(kL ki).sig a1,(kL ki).sig a2,kB.sig a3] (ki.sig r):=by
 refine fJ Tryz.func182 u fun H0 w0=>?_
 unfold gk.f at h
 refine sx (c2<|.nil)<|wSeq<|wSeq<|bx h fun n j h=>rx (c1<|cC (ck.ok j)<|c1<|.nil)<|pSeq<|sx (c2<|.nil)<|jx h (fun b h=>?_) fun b h=>?_
 ·refine wh b u<|wSkip<|pSeq<|sx (cp (oMkF (Rl:=rl1 ki kB (fun m=>gy.f m i)) u b194 (rl1e gy.ok) (oc tm o0)) (s1 u)<|c1<|.nil)<|wSeq<|wBlock<|wSeq<|bx h fun o k h=>rx (c2<|cC (eP.ok k)<|c2<|.nil)<|pSeq<|jx h (fun c h=>?_) fun c h=>?_
  ·refine wb c u<|sx (c1<|.nil)<|wRet<|pBlkR<|pThenR ?_
   obtain rfl:=so h
   exact pT u u
  ·refine wc c u<|wB h (fun g=>[(22,.d (kB.sig g))]) (fun g=>[]) (fun p h=>?_) fun g h=>?_
   ·refine jx h (fun e h=>?_) fun e h=>?_
    ·exact bx h fun q l h=>ej (c6<|cgB (nf e.1) u u (oCall u (ce.ok l) b65 (oc tm (oc tm o0))) (s2 u u)<|c2<|.nil) (so h) (sb u) u
    ·exact ej (c8<|c1<|.nil) (so h) (sb u) u
   ·refine jx h (fun a h=>?_) fun a h=>?_
    ·refine wb a u<|sx (c1<|.nil)<|wRet<|pBlkR<|pThenR ?_
     obtain rfl:=so h
     exact pT u u
    ·refine wc a u<|wSkip<|pBlkN<|pSeq<|sx (c1<|.nil)<|wRet ?_
     obtain rfl:=so h
     exact pT u u
 ·refine wg b u<|sx (c2<|.nil)<|wRet<|pThenR ?_
  obtain rfl:=so h
  exact pT u u
theorem cf.ok(h:cf.f a a1=some r):FnS PP 195 [.p 70000 0,.d ((kF vIf221).sig a1)] [.box 70000 225 [.d (kL kS) a.l_.Names,.d (kL (kI .u32)) a.l_.Up,.d (kL ki) a.labels_,.v 70004],.row 70004 221 (kF vIf221) a.pile_] [70000] (.d (tup [])) [.box 70000 225 [.d (kL kS) r.l_.Names,.d (kL (kI .u32)) r.l_.Up,.d (kL ki) r.labels_,.v 70004],.row 70004 221 (kF vIf221) r.pile_]:=by
 refine fnIntroS Tryz.func195 u (by kernel_rfl) fun X H0 w0 pv=>?_
 unfold cf.f at h
 refine ix h fun b h=>rx (c4<|lN 0 3 u u u t223 u<|c1<|cp (oLit (d:=(kF vIf221)) el223 (by decide) u u u (e1 tm e0)) (s1 u)<|cw (oApp (n:=1) (id':=11) el223 (by decide) u (by decide) b tm tm) (s2 u u)<|c2<|cwn (oStN (n:=0) (m:=1) (k:=3) u u u u z223 u tm tm) (s2 u u)<|.nil) ?_
 obtain rfl:=so h
 exact pSub (Γ':=[]) tv<|pRen 11 70004 u<|pSn [0,1] u u (.inr u) u u (.nil)
theorem gu.ok(h:gu.f e=some r):FnA PP 29 [(kI .u32).sig e] (ki.sig r):=by
 refine fJ Tryz.func29 u fun H0 w0=>?_
 unfold gu.f at h
 refine sx (c1<|.nil)<|wSeq<|ix h fun a h=>ix h fun b h=>ix h fun c h=>ix h fun d h=>rdx hm (c1<|cp (oShr (by decide) tm (cI (by decide))) (s1 u)<|cp (oIdxS u9 a.1 a.2 (cS (s:=ks0) (by decide)) tm) (s1 u)<|c1<|cp (oShr (by decide) tm (cI (by decide))) (s1 u)<|cp (oAnd tm (cI (by decide))) (s1 u)<|cp (oIdxS u9 b.1 b.2 (cS (s:=ks0) (by decide)) tm) (s1 u)<|c2<|cp (oShr (by decide) tm (cI (by decide))) (s1 u)<|cp (oAnd tm (cI (by decide))) (s1 u)<|cp (oIdxS u9 c.1 c.2 (cS (s:=ks0) (by decide)) tm) (s1 u)<|c2<|cp (oAnd tm (cI (by decide))) (s1 u)<|cp (oIdxS u9 d.1 d.2 (cS (s:=ks0) (by decide)) tm) (s1 u)<|c1<|cp (oConv u5 u3 tm) (s1 u)<|c1<|.nil)<|pSeq<|wRet ?_
 obtain rfl:=so h
 exact pT u u
theorem fv.ok(h:fv.f b=some r):FnA PP 28 [(kI .u32).sig b] (kB.sig r):=by
 refine fJ Tryz.func28 u fun H0 w0=>?_
 unfold fv.f at h
 refine sx (c1<|.nil)<|wSeq<|bx h fun c a h=>rx (c1<|cC (gu.ok a)<|c2<|.nil)<|pSeq<|wRet ?_
 obtain rfl:=so h
 exact pT u u
theorem fN.ok(h:fN.f e=some r):FnA PP 13 [(kR aC).sig e] (tup [ki.sig r.1,ki.sig r.2]):=by
 refine fJ Tryz.func13 u fun H0 w0=>?_
 unfold fN.f at h
 refine sx (c3<|.nil)<|wSeq<|wSeq<|bx h fun g b h=>rx (c1<|cp (oCall u (ee.ok b) b26 (oc tm (oc (cN (d:=ki)) o0))) (s1 u)<|c1<|.nil)<|pSeq<|sx (c2<|.nil)<|jx h (fun a h=>?_) fun a h=>?_
 ·refine wh a u<|wSkip<|pSeq<|wSeq<|bx h fun i c h=>rx (c2<|cp (oCall u (aS.ok c) b27 (oc tm (oc (oFn b28 (rl1n fv.ok)) o0))) (s1 u)<|c2<|.nil)<|pSeq<|wRet ?_
  obtain rfl:=so h
  exact pRn (.inl u) u u (.tmp u<|.tmp u<|.nil)
 ·refine wg a u<|sx (c3<|.nil)<|wRet<|pThenR ?_
  obtain rfl:=so h
  exact pRn (.inl u) u u (.tmp u<|.tmp u<|.nil)
theorem fV.ok(h:fV.f a=some r):FnS PP 196 [.p 70000 0] [.box 70000 225 [.d (kL kS) a.l_.Names,.d (kL (kI .u32)) a.l_.Up,.d (kL ki) a.labels_,.v 70004],.row 70004 221 (kF vIf221) a.pile_] [70000] (.d (tup [(kF vIf221).sig r.2.1,(kF vIf221).sig r.2.2])) [.box 70000 225 [.d (kL kS) r.1.l_.Names,.d (kL (kI .u32)) r.1.l_.Up,.d (kL ki) r.1.labels_,.v 70004],.row 70004 221 (kF vIf221) r.1.pile_]:=by
 refine fnIntroS Tryz.func196 u (by kernel_rfl) fun X H0 w0 pv=>?_
 unfold fV.f at h
 refine sx (cp (oAs (cNil (view:=vIf221) (x:=.nil) u)) tv<|cp (oAs (cNil (view:=vIf221) (x:=.nil) u)) tv<|.nil)<|sx (c3<|lN 0 3 u u u t223 u<|cr (oLenR (n:=1) u223 u tm) (s1 u)<|c2<|.nil)<|wSeq<|bx h fun g b h=>bx h fun i c h=>rdx hm (c3<|lN 0 3 u u u t223 u<|c1<|cr (oIdxR (n:=1) u223 z221 u b tm tm) (s2 u u)<|cr (oLdE (n:=1) u b u t221 tm) (s1 u)<|c3<|lN 0 3 u u u t223 u<|c2<|cr (oIdxR (n:=1) u223 z221 u c tm tm) (s2 u u)<|cr (oLdE (n:=1) u c u t221 tm) (s1 u)<|c2<|.nil)<|pSeq<|wSeq<|ix h fun e h=>rx (c4<|lN 0 3 u u u t223 u<|c1<|cw (oCutR (n:=1) (id':=34) u223 z221 u e.1 e.2 tm tm) (s2 u u)<|c2<|cwn (oStN (n:=0) (m:=1) (k:=3) u u u u z223 u tm tm) (s2 u u)<|.nil)<|pSeq<|sx (c4<|.nil)<|wRet ?_
 obtain rfl:=so h
 exact pSub (Γ':=[(2,.d ((kF vIf221).sig g)),(3,.d ((kF vIf221).sig i))]) (sb u)<|pRen 34 70004 u<|pSn [0,1] u u (.inl u) u u (.tmp u<|.tmp u<|.nil)
theorem eE.ok(h:eE.f e a1 a2=some r):FnA PP 96 [(kR aC).sig e,ki.sig a1,ki.sig a2] (tup [kB.sig r.1,ki.sig r.2]):=by
 refine fJ Tryz.func96 u fun H0 w0=>?_
 unfold eE.f at h
 refine sx (c3<|.nil)<|wSeq<|wSeq<|bx h fun g b h=>rx (c3<|cp (oLit (d:=ki) el56 (by decide) u u u (e1 tm (e1 tm e0))) (s2 u u)<|cC (ee.ok b)<|c1<|.nil)<|pSeq<|sx (c2<|.nil)<|jx h (fun a h=>?_) fun a h=>?_
 ·refine wh a u<|wSkip<|pSeq<|wSeq<|bx h fun i c h=>rx (c3<|cC (ef.ok c)<|c2<|.nil)<|pSeq<|wRet ?_
  obtain rfl:=so h
  exact pRn (.inl u) u u (.tmp u<|.tmp u<|.nil)
 ·refine wg a u<|sx (c3<|.nil)<|wRet<|pThenR ?_
  obtain rfl:=so h
  exact pRn (.inl u) u u (.tmp u<|.tmp u<|.nil)
theorem fw.ok(h:fw.f e a1 a2=some r):FnA PP 202 [(kR aC).sig e,ki.sig a1,ki.sig a2] (tup [ki.sig r.1,ki.sig r.2]):=by
 refine fJ Tryz.func202 u fun H0 w0=>?_
 unfold fw.f at h
 refine sx (c3<|.nil)<|wSeq<|wSeq<|bx h fun g b h=>rx (c3<|cp (oLit (d:=ki) el56 (by decide) u u u (e1 tm (e1 tm e0))) (s2 u u)<|cC (ee.ok b)<|c1<|.nil)<|pSeq<|sx (c2<|.nil)<|jx h (fun a h=>?_) fun a h=>?_
 ·refine wh a u<|wSkip<|pSeq<|wSeq<|bx h fun i c h=>rx (c3<|cC (fo.ok c)<|c2<|.nil)<|pSeq<|wRet ?_
  obtain rfl:=so h
  exact pRn (.inl u) u u (.tmp u<|.tmp u<|.nil)
 ·refine wg a u<|sx (c3<|.nil)<|wRet<|pThenR ?_
  obtain rfl:=so h
  exact pRn (.inl u) u u (.tmp u<|.tmp u<|.nil)
theorem fx.ok(h:fx.f e a1 a2=some r):FnA PP 203 [(kR aC).sig e,ki.sig a1,ki.sig a2] (tup [ki.sig r.1,ki.sig r.2]):=by
 refine fJ Tryz.func203 u fun H0 w0=>?_
 unfold fx.f at h
 refine sx (c3<|.nil)<|wSeq<|wSeq<|bx h fun g b h=>rx (c3<|cp (oLit (d:=ki) el56 (by decide) u u u (e1 tm (e1 tm e0))) (s2 u u)<|cC (ee.ok b)<|c1<|.nil)<|pSeq<|sx (c2<|.nil)<|jx h (fun a h=>?_) fun a h=>?_
 ·refine wh a u<|wSkip<|pSeq<|wSeq<|bx h fun i c h=>rx (c3<|cC (cT.ok c)<|c2<|.nil)<|pSeq<|wRet ?_
  obtain rfl:=so h
  exact pRn (.inl u) u u (.tmp u<|.tmp u<|.nil)
 ·refine wg a u<|sx (c3<|.nil)<|wRet<|pThenR ?_
  obtain rfl:=so h
  exact pRn (.inl u) u u (.tmp u<|.tmp u<|.nil)
theorem eN.ok(h:eN.f a a1 a2 a3=some r):FnS PP 197 [.p 70000 0,.d (ki.sig a1),.d ((kF vIf221).sig a2),.d ((kF vIf221).sig a3)] [.box 70000 225 [.d (kL kS) a.l_.Names,.d (kL (kI .u32)) a.l_.Up,.d (kL ki) a.labels_,.v 70004],.row 70004 221 (kF vIf221) a.pile_] [70000] (.d ((kF vIf221).sig r.2)) [.box 70000 225 [.d (kL kS) r.1.l_.Names,.d (kL (kI .u32)) r.1.l_.Up,.d (kL ki) r.1.labels_,.v 70004],.row 70004 221 (kF vIf221) r.1.pile_]:=by
 refine fnIntroS Tryz.func197 u (by kernel_rfl) fun X H0 w0 pv=>?_
 unfold eN.f at h
 refine sx (cp (oAs (cNil (view:=vIf221) (x:=.nil) u)) tv<|.nil)<|wSeq<|sx (c1<|.nil)<|wBlock<|sx (cp (oTA jO cb218 zv218 zvB tm) (s1 u)<|c2<|.nil)<|jx h (fun e h=>?_) fun e h=>?_
 ·refine wb e u<|sx (c1<|.nil)<|sx (c1<|cp (oTA jO cb218 zv218 zvB tm) (s1 u)<|c4<|c1<|.nil)<|wSeq<|sx (c2<|.nil)<|jx h (fun g h=>?_) fun g h=>?_
  ·refine wd g u<|wWeak (Γ':=[(8,.d ((kF vIf221).sig If221.nil)),(9,.d (kB.sig ((fW a2).1))),(10,.d (kB.sig ((fW a3).1)))]) (sb u)<|wRen 70004 3505003 u<|wB h (fun j=>[(8,.d ((kF vIf221).sig j))]) (fun j=>[.box 70000 225 [.d (kL kS) a.l_.Names,.d (kL (kI .u32)) a.l_.Up,.d (kL ki) a.labels_,.v 3505003],.row 3505003 221 (kF vIf221) a.pile_]) (fun y h=>?_) fun j h=>?_
   ·refine jx h (fun o h=>?_) fun o h=>?_
    ·exact ej (c4<|cp (oMkI (view:=vIf221) (x0:=If221.c218 ((fW a3).1)) u cb218 tm) (s1 u)<|c1<|.nil) (so h) (sb u) u
    ·exact ej (c4<|cp (oMkI (view:=vIf221) (x0:=If221.c218 false) u cb218 tm) (s1 u)<|c1<|.nil) (so h) (sb u) u
   ·refine wRet<|pThenR<|pBlkR<|pThenR ?_
    obtain rfl:=so h
    exact pSub (Γ':=[(8,.d ((kF vIf221).sig j))]) (sb u)<|pRen 3505003 70004 u<|pS1 [0,1] u u (.inl u) u (.tmp u<|.nil)
  ·refine we g u<|wSkip<|pSeq<|wWeak (Γ':=[(8,.d ((kF vIf221).sig If221.nil)),(9,.d (kB.sig ((fW a2).1))),(10,.d (kB.sig ((fW a3).1)))]) (sb u)<|wRen 70004 3505003 u<|wB h (fun k=>[(8,.d ((kF vIf221).sig k))]) (fun k=>[.box 70000 225 [.d (kL kS) a.l_.Names,.d (kL (kI .u32)) a.l_.Up,.d (kL ki) a.labels_,.v 3505003],.row 3505003 221 (kF vIf221) a.pile_]) (fun y h=>?_) fun k h=>?_
   ·refine jx h (fun q h=>?_) fun q h=>?_
    ·exact ej (c4<|cp (oMkI (view:=vIf221) (x0:=If221.c218 true) u cb218 tm) (s1 u)<|c1<|.nil) (so h) (sb u) u
    ·exact ej (c4<|cp (oMkI (view:=vIf221) (x0:=If221.c218 ((fW a3).1)) u cb218 tm) (s1 u)<|c1<|.nil) (so h) (sb u) u
   ·refine wRet<|pBlkR<|pThenR ?_
    obtain rfl:=so h
    exact pSub (Γ':=[(8,.d ((kF vIf221).sig k))]) (sb u)<|pRen 3505003 70004 u<|pS1 [0,1] u u (.inl u) u (.tmp u<|.nil)
 ·refine wc e u<|sx (cp (oTA jP cb227 zv227 (zvI (by decide)) tm) (s1 u)<|c2<|.nil)<|jx h (fun i h=>?_) fun i h=>?_
  ·refine wb i u<|sx (c1<|.nil)<|sx (c1<|cp (oTA jP cb227 zv227 (zvI (by decide)) tm) (s1 u)<|c4<|c1<|.nil)<|wSeq<|sx (c1<|.nil)<|wBlock<|sx (c2<|.nil)<|jx h (fun b h=>?_) fun b h=>?_
   ·refine wd b u<|wSeq<|bx h fun s l h=>rx (c3<|lP 0 0 2 (kR aC) a.l_ pt25 u u u t25 u<|c2<|cC (eE.ok l)<|c4<|c1<|.nil)<|pSeq<|sx (c1<|cp (oMkI (view:=vIf221) (x0:=If221.c218 s.1) u cb218 tm) (s1 u)<|c1<|.nil)<|wRet<|pBlkR<|pThenR<|pBlkR<|pThenR ?_
    obtain rfl:=so h
    exact pS1 [0,1] u u (.inl u) u (.tmp u<|.nil)
   ·refine we b u<|sx (c2<|.nil)<|jx h (fun c h=>?_) fun c h=>?_
    ·refine wd c u<|wSeq<|bx h fun t m h=>rx (c3<|lP 0 0 2 (kR aC) a.l_ pt25 u u u t25 u<|c2<|cC (fw.ok m)<|c4<|c1<|.nil)<|pSeq<|sx (c1<|cp (oMkI (view:=vIf221) (x0:=If221.c227 t.1) u cb227 tm) (s1 u)<|c1<|.nil)<|wRet<|pBlkR<|pThenR<|pBlkR<|pThenR ?_
     obtain rfl:=so h
     exact pS1 [0,1] u u (.inl u) u (.tmp u<|.nil)
    ·refine we c u<|wSkip<|pBlkN<|pSeq<|wSeq<|bx h fun w n h=>rx (c3<|lP 0 0 2 (kR aC) a.l_ pt25 u u u t25 u<|c2<|cC (fx.ok n)<|c4<|c1<|.nil)<|pSeq<|sx (c1<|cp (oMkI (view:=vIf221) (x0:=If221.c227 w.1) u cb227 tm) (s1 u)<|c1<|.nil)<|wRet<|pBlkR<|pThenR ?_
     obtain rfl:=so h
     exact pS1 [0,1] u u (.inl u) u (.tmp u<|.nil)
  ·refine wc i u<|wSkip<|pBlkN<|pSeq<|sx (c2<|.nil)<|wRet ?_
   obtain rfl:=so h
   exact pS1 [0,1] u u (.inl u) u (.tmp u<|.nil)
theorem bJ.ok(h:bJ.f W a1=some r):FnS PP 183 [.p 70000 0,.d ((kL ki).sig a1)] [.box 70000 225 [.d (kL kS) W.l_.Names,.d (kL (kI .u32)) W.l_.Up,.d (kL ki) W.labels_,.v 70004],.row 70004 221 (kF vIf221) W.pile_] [70000] (.d ((kF vIf221).sig r.2)) [.box 70000 225 [.d (kL kS) r.1.l_.Names,.d (kL (kI .u32)) r.1.l_.Up,.d (kL ki) r.1.labels_,.v 70004],.row 70004 221 (kF vIf221) r.1.pile_]:=by
 refine fnIntroS Tryz.func183 u (by kernel_rfl) fun X H0 w0 pv=>?_
 unfold bJ.f at h
 refine sx (cp (oAs (cNil (view:=vIf221) (x:=.nil) u)) tv<|.nil)<|wSeq<|sx (c3<|.nil)<|wWeak (Γ':=[(0,.p 70000 0),(13,.d ((kL ki).sig a1)),(14,.d (ki.sig (a1.length:Int))),(15,.d (ki.sig 0))]) (sb u)<|wRen 70004 3505003 u ?_
 obtain⟨o1,h,re⟩:=bd h
 refine wK4 (fun j k l m=>(j,k,l,m)=o1) (fun j k l m=>[(0,.p 70000 0)]) (fun j k l m=>[.box 70000 225 [.d (kL kS) j,.d (kL (kI .u32)) k,.d (kL ki) l,.v 3505003],.row 3505003 221 (kF vIf221) m]) ?_ ?_
 ·refine wBlock (wLoop ?_)
  refine lW (pc5 o1 (fun o q S T a=>[(0,.p 70000 0),(13,.d ((kL ki).sig a1)),(14,.d (ki.sig (a1.length:Int))),(15,.d (ki.sig a))]) (fun o q S T a=>[.box 70000 225 [.d (kL kS) o,.d (kL (kI .u32)) q,.d (kL ki) S,.v 3505003],.row 3505003 221 (kF vIf221) T]) (bJ.l0.partial_correctness a1) ?_ _ _ _ _ _ h) ⟨u,u,u,u,tv⟩ u
  clear h
  intro f' ih o q S T a h
  refine sx (c1<|.nil)<|wSeq<|jx h (fun E h=>?_) fun E h=>?_
  ·refine wd E u<|wSkip<|pSeq ?_
   obtain⟨o2,h,rf⟩:=bd h
   refine wJ4 (fun s t w y=>(s,t,w,y)=o2) (fun s t w y=>[(0,.p 70000 0),(13,.d ((kL ki).sig a1)),(14,.d (ki.sig (a1.length:Int))),(15,.d (ki.sig a))]) (fun s t w y=>[.box 70000 225 [.d (kL kS) s,.d (kL (kI .u32)) t,.d (kL ki) w,.v 3505003],.row 3505003 221 (kF vIf221) y]) ?_ ?_
   ·refine wBlock<|wSeq<|bx h fun V Y h=>rx (iX u56 z3 Y u u<|c2<|.nil)<|pSeq<|sx (c1<|.nil) ?_
    obtain⟨o3,h,rh⟩:=bd h
    refine wK4 (fun z A B C=>(z,A,B,C)=o3) (fun z A B C=>[(0,.p 70000 0),(13,.d ((kL ki).sig a1)),(14,.d (ki.sig (a1.length:Int))),(15,.d (ki.sig a))]) (fun z A B C=>[.box 70000 225 [.d (kL kS) z,.d (kL (kI .u32)) A,.d (kL ki) B,.v 3505003],.row 3505003 221 (kF vIf221) C]) ?_ ?_
    ·refine wBlock<|wSeq<|sx (c2<|.nil)<|jx h (fun c h=>?_) fun c h=>?_
     ·exact wd c u<|wSkip<|pSeq<|wd c u<|bx h fun F Z h=>rx (c3<|cp (oMkI (view:=vIf221) (x0:=If221.c218 (decide (V=1))) u cb218 tm) (s1 u)<|cm (oCallS (rest:=[]) (R':=[.box 70000 225 [.d (kL kS) F.l_.Names,.d (kL (kI .u32)) F.l_.Up,.d (kL ki) F.labels_,.v 390160],.row 390160 221 (kF vIf221) F.pile_]) (out':=.d (tup [])) [(70000,70000),(70004,3505003)] [(70004,390160)] [0,1] [] [0,1] u (cf.ok Z) b195 (oE1 tm (oE1 tm oE0)) u u u u u u u u) (s2 u u)<|.nil)<|pBlkN<|pSub (Γ':=[(0,.p 70000 0),(13,.d ((kL ki).sig a1)),(14,.d (ki.sig (a1.length:Int))),(15,.d (ki.sig a))]) (sb u)<|pRen 390160 3505003 u<|pJ4 _ _ _ _ (so h) (sb u) u
     ·refine we c u<|rx (c2<|.nil)<|pSeq<|jx h (fun G h=>?_) fun G h=>?_
      ·exact wd G u<|bx h fun H qc h=>rx (c3<|cp (oMkI (view:=vIf221) (x0:=If221.c218 (decide (V=1))) u cb218 tm) (s1 u)<|cm (oCallS (rest:=[]) (R':=[.box 70000 225 [.d (kL kS) H.l_.Names,.d (kL (kI .u32)) H.l_.Up,.d (kL ki) H.labels_,.v 390160],.row 390160 221 (kF vIf221) H.pile_]) (out':=.d (tup [])) [(70000,70000),(70004,3505003)] [(70004,390160)] [0,1] [] [0,1] u (cf.ok qc) b195 (oE1 tm (oE1 tm oE0)) u u u u u u u u) (s2 u u)<|.nil)<|pBlkN<|pSub (Γ':=[(0,.p 70000 0),(13,.d ((kL ki).sig a1)),(14,.d (ki.sig (a1.length:Int))),(15,.d (ki.sig a))]) (sb u)<|pRen 390160 3505003 u<|pJ4 _ _ _ _ (so h) (sb u) u
      ·refine we G u<|sx (c2<|.nil)<|jx h (fun I h=>?_) fun I h=>?_
       ·exact wd I u<|wSeq<|bx h fun qt qd h=>rx (c3<|lP 0 0 2 (kR aC) (⟨o,q⟩:az) pt25 u u u t25 u<|cC (dI.ok qd)<|c4<|c1<|.nil)<|pSeq<|bx h fun J qe h=>rx (c2<|cp (oMkI (view:=vIf221) (x0:=If221.c227 qt.1) u cb227 tm) (s1 u)<|cm (oCallS (rest:=[]) (R':=[.box 70000 225 [.d (kL kS) J.l_.Names,.d (kL (kI .u32)) J.l_.Up,.d (kL ki) J.labels_,.v 420120],.row 420120 221 (kF vIf221) J.pile_]) (out':=.d (tup [])) [(70000,70000),(70004,3505003)] [(70004,420120)] [0,1] [] [0,1] u (cf.ok qe) b195 (oE1 tm (oE1 tm oE0)) u u u u u u u u) (s2 u u)<|.nil)<|pBlkN<|pSub (Γ':=[(0,.p 70000 0),(13,.d ((kL ki).sig a1)),(14,.d (ki.sig (a1.length:Int))),(15,.d (ki.sig a))]) (sb u)<|pRen 420120 3505003 u<|pJ4 _ _ _ _ (so h) (sb u) u
       ·refine we I u<|sx (c2<|.nil)<|jx h (fun K h=>?_) fun K h=>?_
        ·exact wd K u<|wSeq<|bx h fun qu qf h=>rx (c3<|lP 0 0 2 (kR aC) (⟨o,q⟩:az) pt25 u u u t25 u<|cC (fN.ok qf)<|c4<|c1<|.nil)<|pSeq<|bx h fun L qg h=>rx (c2<|cp (oMkI (view:=vIf221) (x0:=If221.c227 qu.1) u cb227 tm) (s1 u)<|cm (oCallS (rest:=[]) (R':=[.box 70000 225 [.d (kL kS) L.l_.Names,.d (kL (kI .u32)) L.l_.Up,.d (kL ki) L.labels_,.v 450120],.row 450120 221 (kF vIf221) L.pile_]) (out':=.d (tup [])) [(70000,70000),(70004,3505003)] [(70004,450120)] [0,1] [] [0,1] u (cf.ok qg) b195 (oE1 tm (oE1 tm oE0)) u u u u u u u u) (s2 u u)<|.nil)<|pBlkN<|pSub (Γ':=[(0,.p 70000 0),(13,.d ((kL ki).sig a1)),(14,.d (ki.sig (a1.length:Int))),(15,.d (ki.sig a))]) (sb u)<|pRen 450120 3505003 u<|pJ4 _ _ _ _ (so h) (sb u) u
        ·refine we K u<|wSeq<|sx (c2<|.nil)<|jx h (fun e h=>?_) fun e h=>?_
         ·exact wd e u<|wSkip<|pSeq<|wd e u<|bx h fun qv qh h=>bx h fun M qi h=>rx (c4<|lB 0 2 u u u t56 u<|c2<|iX u56 z3 qh u u<|c1<|cp (oMkI (view:=vIf221) (x0:=If221.c227 qv) u cb227 tm) (s1 u)<|cm (oCallS (rest:=[]) (R':=[.box 70000 225 [.d (kL kS) M.l_.Names,.d (kL (kI .u32)) M.l_.Up,.d (kL ki) M.labels_,.v 500400],.row 500400 221 (kF vIf221) M.pile_]) (out':=.d (tup [])) [(70000,70000),(70004,3505003)] [(70004,500400)] [0,1] [] [0,1] u (cf.ok qi) b195 (oE1 tm (oE1 tm oE0)) u u u u u u u u) (s2 u u)<|.nil)<|pBlkN<|pSub (Γ':=[(0,.p 70000 0),(13,.d ((kL ki).sig a1)),(14,.d (ki.sig (a1.length:Int))),(15,.d (ki.sig a))]) (sb u)<|pRen 500400 3505003 u<|pJ4 _ _ _ _ (so h) (sb u) u
         ·refine we e u<|sx (c2<|.nil)<|jx h (fun g h=>?_) fun g h=>?_
          ·exact wd g u<|wSkip<|pSeq<|wd g u<|bx h fun qw qj h=>bx h fun N qk h=>rx (c4<|lB 0 2 u u u t56 u<|c2<|iX u56 z3 qj u u<|c1<|cp (oMkI (view:=vIf221) (x0:=If221.c227 qw) u cb227 tm) (s1 u)<|cm (oCallS (rest:=[]) (R':=[.box 70000 225 [.d (kL kS) N.l_.Names,.d (kL (kI .u32)) N.l_.Up,.d (kL ki) N.labels_,.v 500400],.row 500400 221 (kF vIf221) N.pile_]) (out':=.d (tup [])) [(70000,70000),(70004,3505003)] [(70004,500400)] [0,1] [] [0,1] u (cf.ok qk) b195 (oE1 tm (oE1 tm oE0)) u u u u u u u u) (s2 u u)<|.nil)<|pBlkN<|pSub (Γ':=[(0,.p 70000 0),(13,.d ((kL ki).sig a1)),(14,.d (ki.sig (a1.length:Int))),(15,.d (ki.sig a))]) (sb u)<|pRen 500400 3505003 u<|pJ4 _ _ _ _ (so h) (sb u) u
          ·refine we g u<|sx (c2<|.nil)<|jx h (fun i h=>?_) fun i h=>?_
           ·exact wd i u<|wSkip<|pSeq<|wd i u<|bx h fun qx ql h=>bx h fun O qm h=>rx (c4<|lB 0 2 u u u t56 u<|c2<|iX u56 z3 ql u u<|c1<|cp (oMkI (view:=vIf221) (x0:=If221.c227 qx) u cb227 tm) (s1 u)<|cm (oCallS (rest:=[]) (R':=[.box 70000 225 [.d (kL kS) O.l_.Names,.d (kL (kI .u32)) O.l_.Up,.d (kL ki) O.labels_,.v 500400],.row 500400 221 (kF vIf221) O.pile_]) (out':=.d (tup [])) [(70000,70000),(70004,3505003)] [(70004,500400)] [0,1] [] [0,1] u (cf.ok qm) b195 (oE1 tm (oE1 tm oE0)) u u u u u u u u) (s2 u u)<|.nil)<|pBlkN<|pSub (Γ':=[(0,.p 70000 0),(13,.d ((kL ki).sig a1)),(14,.d (ki.sig (a1.length:Int))),(15,.d (ki.sig a))]) (sb u)<|pRen 500400 3505003 u<|pJ4 _ _ _ _ (so h) (sb u) u
           ·refine we i u<|rx (c2<|.nil)<|pSeq<|jx h (fun P h=>?_) fun P h=>?_
            ·exact wd P u<|bx h fun qy qn h=>bx h fun Q qo h=>rx (c4<|lB 0 2 u u u t56 u<|c2<|iX u56 z3 qn u u<|c1<|cp (oMkI (view:=vIf221) (x0:=If221.c227 qy) u cb227 tm) (s1 u)<|cm (oCallS (rest:=[]) (R':=[.box 70000 225 [.d (kL kS) Q.l_.Names,.d (kL (kI .u32)) Q.l_.Up,.d (kL ki) Q.labels_,.v 500400],.row 500400 221 (kF vIf221) Q.pile_]) (out':=.d (tup [])) [(70000,70000),(70004,3505003)] [(70004,500400)] [0,1] [] [0,1] u (cf.ok qo) b195 (oE1 tm (oE1 tm oE0)) u u u u u u u u) (s2 u u)<|.nil)<|pBlkN<|pSub (Γ':=[(0,.p 70000 0),(13,.d ((kL ki).sig a1)),(14,.d (ki.sig (a1.length:Int))),(15,.d (ki.sig a))]) (sb u)<|pRen 500400 3505003 u<|pJ4 _ _ _ _ (so h) (sb u) u
            ·exact we P u<|wSeq<|bx h fun b qp h=>rx (c1<|cm (oCallS (rest:=[]) (R':=[.box 70000 225 [.d (kL kS) b.1.l_.Names,.d (kL (kI .u32)) b.1.l_.Up,.d (kL ki) b.1.labels_,.v 350040],.row 350040 221 (kF vIf221) b.1.pile_]) (out':=.d (tup [(kF vIf221).sig b.2.1,(kF vIf221).sig b.2.2])) [(70000,70000),(70004,3505003)] [(70004,350040)] [0,1] [] [0,1] u (fV.ok qp) b196 (oE1 tm oE0) u u u u u u u u) (s1 u)<|c4<|c1<|.nil)<|pSeq<|bx h fun D qq h=>bx h fun R qr h=>rx (c4<|c1<|cm (oCallS (rest:=[]) (R':=[.box 70000 225 [.d (kL kS) D.1.l_.Names,.d (kL (kI .u32)) D.1.l_.Up,.d (kL ki) D.1.labels_,.v 360200],.row 360200 221 (kF vIf221) D.1.pile_]) (out':=.d ((kF vIf221).sig D.2)) [(70000,70000),(70004,350040)] [(70004,360200)] [0,1] [] [0,1] u (eN.ok qq) b197 (oE1 tm (oE1 tm (oE1 tm (oE1 tm oE0)))) u u u u u u u u) ⟨u,u,u,u,tv⟩<|cm (oCallS (rest:=[]) (R':=[.box 70000 225 [.d (kL kS) R.l_.Names,.d (kL (kI .u32)) R.l_.Up,.d (kL ki) R.labels_,.v 360240],.row 360240 221 (kF vIf221) R.pile_]) (out':=.d (tup [])) [(70000,70000),(70004,360200)] [(70004,360240)] [0,1] [] [0,1] u (cf.ok qr) b195 (oE1 tm (oE1 tm oE0)) u u u u u u u u) (s2 u u)<|.nil)<|pBlkN<|pSub (Γ':=[(0,.p 70000 0),(13,.d ((kL ki).sig a1)),(14,.d (ki.sig (a1.length:Int))),(15,.d (ki.sig a))]) (sb u)<|pRen 360240 3505003 u<|pJ4 _ _ _ _ (so h) (sb u) u
    ·rintro z A B C rfl
     replace h:=rh
     exact pBlkN<|pJ4 _ _ _ _ (so h) (sb u) u
   ·rintro s t w y rfl
    replace h:=rf
    exact rx (c2<|.nil)<|pLoop (lW (ih _ _ _ _ _ h) ⟨u,u,u,u,tv⟩ u)
  ·exact we E u<|wExit<|pThenX<|pThenX<|pBlkX<|pJ4 _ _ _ _ (so h) (sb u) u
 ·rintro j k l m rfl
  replace h:=re
  refine pSeq<|wSeq<|bx h fun qz U h=>rx (c3<|lN 0 3 u u u t223 u<|cr (oIdxR (n:=1) u223 z221 u U tm (cI (by decide))) (s1 u)<|cr (oLdE (n:=1) u U u t221 tm) (s1 u)<|c1<|.nil)<|pSeq<|wRet ?_
  obtain rfl:=so h
  exact pSub (Γ':=[(4,.d ((kF vIf221).sig qz))]) (sb u)<|pRen 3505003 70004 u<|pS1 [0,1] u u (.inl u) u (.tmp u<|.nil)
theorem fb.ok(h:fb.f g a1 a2=some r):FnA PP 158 [(kR aC).sig g,(kL ki).sig a1,(kL ki).sig a2] (tup [kB.sig r.1,ki.sig r.2]):=by
 refine fJ Tryz.func158 u fun H0 w0=>?_
 unfold fb.f at h
 refine sx (c3<|.nil)<|wSeq<|wSeq<|bx h fun l i h=>rx (c3<|cC (gk.ok i)<|c1<|.nil)<|pSeq<|sx (c2<|.nil)<|jx h (fun a h=>?_) fun a h=>?_
 ·refine wh a u<|wSkip<|pSeq<|wSeq<|bx h fun b j h=>rx (c2<|cp (oBuild (fs:=gf) (u:=⟨g,a2,[]⟩) u ze225 pl225 po225_2 (.op (zc:=[(.slice none 0 0),(.slice none 0 0)]) tm u (qL tm u (gL zN .nil)))) (s2 u u)<|cm (okNil (n:=0) (k:=3) (id:=6103) (kF vIf221) 221 ((Ok.toL (oBoxP (id:=22) (d:=(kR gf)) (ls:=[.d (kL kS) g.Names,.d (kL (kI .u32)) g.Up,.d (kL ki) a2,.d (kN If221) []]) (lfS (lfC (lfS (lfC lf1 (lfC lf1 lfN))) (lfC lf1 (lfC lf1 lfN)))) u tm) (fun c e=>by cases e))) u u u) (s1 u)<|c1<|cm (oCallS (rest:=[]) (R':=[.row 340200 221 (kF vIf221) b.1.pile_,.box 22 225 [.d (kL kS) b.1.l_.Names,.d (kL (kI .u32)) b.1.l_.Up,.d (kL ki) b.1.labels_,.v 340200]]) (out':=.d ((kF vIf221).sig b.2)) [(70000,22),(70004,6103)] [(70004,340200)] [1,0] [] [1,0] u (bJ.ok j) b183 (oE1 tm (oE1 tm oE0)) u u u u u u u u) (s2 u u)<|cp (oTA jO cb218 zv218 zvB tm) (s1 u)<|c4<|c1<|.nil)<|pSeq<|sx (c3<|.nil)<|wRet ?_
  obtain rfl:=so h
  exact pRn (.inl u) u u (.tmp u<|.tmp u<|.nil)
 ·refine wg a u<|sx (c3<|.nil)<|wRet<|pThenR ?_
  obtain rfl:=so h
  exact pRn (.inl u) u u (.tmp u<|.tmp u<|.nil)
theorem dJ.ok(h:dJ.f g a1 a2=some r):FnA PP 159 [(kR aC).sig g,(kL ki).sig a1,(kL ki).sig a2] (tup [ki.sig r.1,ki.sig r.2]):=by
 refine fJ Tryz.func159 u fun H0 w0=>?_
 unfold dJ.f at h
 refine sx (c3<|.nil)<|wSeq<|wSeq<|bx h fun l i h=>rx (c3<|cC (gk.ok i)<|c1<|.nil)<|pSeq<|sx (c2<|.nil)<|jx h (fun a h=>?_) fun a h=>?_
 ·refine wh a u<|wSkip<|pSeq<|wSeq<|bx h fun b j h=>rx (c2<|cp (oBuild (fs:=gf) (u:=⟨g,a2,[]⟩) u ze225 pl225 po225_2 (.op (zc:=[(.slice none 0 0),(.slice none 0 0)]) tm u (qL tm u (gL zN .nil)))) (s2 u u)<|cm (okNil (n:=0) (k:=3) (id:=6103) (kF vIf221) 221 ((Ok.toL (oBoxP (id:=22) (d:=(kR gf)) (ls:=[.d (kL kS) g.Names,.d (kL (kI .u32)) g.Up,.d (kL ki) a2,.d (kN If221) []]) (lfS (lfC (lfS (lfC lf1 (lfC lf1 lfN))) (lfC lf1 (lfC lf1 lfN)))) u tm) (fun c e=>by cases e))) u u u) (s1 u)<|c1<|cm (oCallS (rest:=[]) (R':=[.row 340200 221 (kF vIf221) b.1.pile_,.box 22 225 [.d (kL kS) b.1.l_.Names,.d (kL (kI .u32)) b.1.l_.Up,.d (kL ki) b.1.labels_,.v 340200]]) (out':=.d ((kF vIf221).sig b.2)) [(70000,22),(70004,6103)] [(70004,340200)] [1,0] [] [1,0] u (bJ.ok j) b183 (oE1 tm (oE1 tm oE0)) u u u u u u u u) (s2 u u)<|cp (oTA jP cb227 zv227 (zvI (by decide)) tm) (s1 u)<|c4<|c1<|.nil)<|pSeq<|sx (c3<|.nil)<|wRet ?_
  obtain rfl:=so h
  exact pRn (.inl u) u u (.tmp u<|.tmp u<|.nil)
 ·refine wg a u<|sx (c3<|.nil)<|wRet<|pThenR ?_
  obtain rfl:=so h
  exact pRn (.inl u) u u (.tmp u<|.tmp u<|.nil)
theorem cA.ok(h:cA.f a a1 a2=some r):FnS PP 185 [.p 70000 0,.d (ki.sig a1),.d (ki.sig a2)] [.box 70000 204 [.d (kL kS) a.l_.Names,.d (kL (kI .u32)) a.l_.Up,.d ki a.s_.Pc.V,.d ki a.s_.Pc.L,.d (kL (kR aH)) a.s_.Code,.d (kL (kR aB)) a.s_.Mem,.v 70007,.d (kL (kR aB)) a.s_.Out,.d ki a.x_.Op,.d ki a.x_.N,.d ki a.x_.L,.d kB a.a_.Ret,.d ki a.a_.V,.d ki a.a_.L,.d kB a.b_.Ret,.d ki a.b_.V,.d ki a.b_.L,.d kB a.r_.Ret,.d ki a.r_.V,.d ki a.r_.L,.d ki a.below_,.d ki a.one_.x0_,.d ki a.one_.x1_,.d ki a.one_.x2_],.row 70007 88 (kR aD) a.s_.Stack] [70000] (.d (tup [])) [.box 70000 204 [.d (kL kS) r.l_.Names,.d (kL (kI .u32)) r.l_.Up,.d ki r.s_.Pc.V,.d ki r.s_.Pc.L,.d (kL (kR aH)) r.s_.Code,.d (kL (kR aB)) r.s_.Mem,.v 70007,.d (kL (kR aB)) r.s_.Out,.d ki r.x_.Op,.d ki r.x_.N,.d ki r.x_.L,.d kB r.a_.Ret,.d ki r.a_.V,.d ki r.a_.L,.d kB r.b_.Ret,.d ki r.b_.V,.d ki r.b_.L,.d kB r.r_.Ret,.d ki r.r_.V,.d ki r.r_.L,.d ki r.below_,.d ki r.one_.x0_,.d ki r.one_.x1_,.d ki r.one_.x2_],.row 70007 88 (kR aD) r.s_.Stack]:=by
 refine fnIntroS Tryz.func185 u (by kernel_rfl) fun X H0 w0 pv=>?_
 unfold cA.f at h
 refine ix h fun b h=>rx (c4<|c1<|lN 0 6 u u u t33 u<|c2<|cp (oBuild (fs:=aD) (u:=⟨false,a1,a2⟩) u ze88 pl88 po88 (gB zB (qI tm u (qI tm u .nil)))) (s2 u u)<|cp (oLit (d:=(kR aD)) el33 (by decide) u u u (e1 tm e0)) (s1 u)<|cw (oApp (n:=1) (id':=16) el33 (by decide) u (by decide) b tm tm) (s2 u u)<|c3<|cwn (oStN (n:=0) (m:=1) (k:=6) u u u u z33 u tm tm) (s2 u u)<|.nil) ?_
 obtain rfl:=so h
 exact pSub (Γ':=[]) tv<|pRen 16 70007 u<|pSn [0,1] u u (.inr u) u u (.nil)
theorem dK.ok(h:dK.f a1=some r):FnS PP 198 [.d (sV (.slice none 0 0)),.d (ki.sig a1)] [] [] (.v 80000) [.row 80000 88 (kR aD) r]:=by
 refine fnIntroS Tryz.func198 u (by kernel_rfl) fun X H0 w0 pv=>?_
 unfold dK.f at h
 refine sx (cp (oAs cV) tv<|.nil)<|wSeq<|sx (c2<|.nil)<|jx h (fun a h=>?_) fun a h=>?_
 ·refine wd a u ?_
  cases h
 ·refine we a u<|wSkip<|pSeq<|wSeq<|sx (c2<|cp (oCapN u33 tm) (s1 u)<|c1<|cp (oLenL u33 (tmN (d:=(kR aD)))) (s1 u)<|c3<|.nil)<|sx (c2<|.nil)<|jx h (fun b h=>?_) fun b h=>?_
  ·refine wd b u<|ix h fun c h=>ix h fun e h=>rx (c2<|cp (oCapN u33 tm) (s1 u)<|cp (oCutN u33 z88 u tm tm) (s2 u u)<|c1<|cw (oAppZ (id:=22) (d:=(kR aD)) el33 u3 (by decide) (by decide) ze88 dV c.1 c.2 tm tm) (s2 u u)<|c1<|cp (oLenL u33 (tmN (d:=(kR aD)))) (s1 u)<|cw (oCutR (n:=0) (id':=25) u33 z88 u e.1 e.2 tm tm) (s2 u u)<|c1<|.nil)<|pSeq<|sx (c2<|.nil)<|wRet ?_
   obtain rfl:=so h
   exact pSub (Γ':=[(4,.v 25)]) (sb u)<|pRen 25 80000 u<|pSv [0] u u (.inl u) u u
  ·refine we b u<|wSkip<|pSeq<|sx (c2<|.nil)<|wNil (kR aD) 88 9004 4 u u<|wRet ?_
   obtain rfl:=so h
   exact pSub (Γ':=[(4,.v 9004)]) (sb u)<|pRen 9004 80000 u<|pSv [0] u u (.inl u) u u
theorem aT.ok(h:aT.f a=some r):FnA PP 186 [(kL (kL (kR aD))).sig a] ((kL (kR aD)).sig r):=by
 refine fJ Tryz.func186 u fun H0 w0=>?_
 unfold aT.f at h
 refine sx (cp (oAs cV) tv<|.nil)<|sx (c1<|.nil)<|wSeq<|sx (c3<|.nil)<|kX h (fun j=>[(0,.d ((kL (kL (kR aD))).sig a)),(3,.d (ki.sig j))]) (fun j=>[]) (fun p h=>?_) fun j h=>?_
 ·refine wBlock (wLoop ?_)
  refine lW (pc2 p (fun g k=>[(0,.d ((kL (kL (kR aD))).sig a)),(3,.d (ki.sig k)),(9,.d ((kL (kL (kR aD))).sig a)),(10,.d (ki.sig (a.length:Int))),(11,.d (ki.sig g))]) (fun g k=>[]) (aT.l0.partial_correctness a) ?_ _ _ h) ⟨u,u,u,u,u,tv⟩ u
  clear h
  intro f' ih g k h
  refine sx (c1<|.nil)<|wSeq<|jx h (fun b h=>?_) fun b h=>?_
  ·refine wd b u<|wSkip<|pSeq<|wB h (fun l=>[(0,.d ((kL (kL (kR aD))).sig a)),(3,.d (ki.sig l)),(9,.d ((kL (kL (kR aD))).sig a)),(10,.d (ki.sig (a.length:Int))),(11,.d (ki.sig g))]) (fun l=>[]) (fun A h=>?_) fun l h=>?_
   ·refine wBlock<|wSeq<|bx h fun y q h=>rx (iX u147 z33 q u u<|c2<|.nil)<|pSeq<|sx (c4<|c1<|.nil)<|sx (c2<|.nil)<|jx h (fun c h=>?_) fun c h=>?_
    ·refine wd c u ?_
     cases h
    ·exact we c u<|wSkip<|pBlkN<|pJ1 _ (so h) (sb u) u
   ·exact rx (c2<|.nil)<|pLoop (lW (ih _ _ h) ⟨u,u,u,u,u,tv⟩ u)
  ·exact we b u<|wExit<|pThenX<|pThenX<|pBlkX<|pJ1 _ (so h) (sb u) u
 ·refine pSeq<|wSeq<|bx h fun x s h=>rx (c1<|cm (oCallS (rest:=[]) (R':=[.row 390040 88 (kR aD) x]) (out':=.v 390040) [] [(80000,390040)] [] [] [0] u (dK.ok s) b198 (oE1 cV (oE1 tm oE0)) u u u u u u u u) (s1 u)<|c1<|.nil)<|pSeq<|wSeq<|sx (c3<|.nil)<|wWeak (Γ':=[(6,.v 390040),(25,.d ((kL (kL (kR aD))).sig a)),(26,.d (ki.sig (a.length:Int))),(27,.d (ki.sig 0))]) (sb u)<|wRen 390040 1006 u<|kX h (fun m=>[(6,.v 1006)]) (fun m=>[.row 1006 88 (kR aD) m]) (fun p h=>?_) fun m h=>?_
  ·refine wBlock (wLoop ?_)
   refine lW (pc2 p (fun o i=>[(6,.v 1006),(25,.d ((kL (kL (kR aD))).sig a)),(26,.d (ki.sig (a.length:Int))),(27,.d (ki.sig i))]) (fun o i=>[.row 1006 88 (kR aD) o]) (aT.l1.partial_correctness a) ?_ _ _ h) ⟨u,u,u,u,tv⟩ u
   clear h
   intro f' ih o i h
   refine sx (c1<|.nil)<|wSeq<|jx h (fun e h=>?_) fun e h=>?_
   ·exact wd e u<|wSkip<|pSeq<|wSeq<|wBlock<|wSeq<|bx h fun z t h=>rx (iX u147 z33 t u u<|c2<|.nil)<|pSeq<|ix h fun w h=>rx (c2<|cw (oApp (n:=0) (id':=33) el33 (by decide) u (by decide) w tm tm) (s2 u u)<|c1<|.nil)<|pBlkN<|pSeq<|rx (c2<|.nil)<|pSub (Γ':=[(6,.v 33),(25,.d ((kL (kL (kR aD))).sig a)),(26,.d (ki.sig (a.length:Int))),(27,.d (ki.sig (IntKind.i64.wrap (i+1))))]) (sb u)<|pRen 33 1006 u<|pLoop (lW (ih _ _ h) ⟨u,u,u,u,tv⟩ u)
   ·exact we e u<|wExit<|pThenX<|pThenX<|pBlkX<|pJ1 _ (so h) (sb u) u
  ·refine pSeq<|sx (c2<|.nil)<|wFrzR (n:=0) (id:=1006) [2] u u ⟨u,tv⟩<|wRet ?_
   obtain rfl:=so h
   exact pT u u
theorem bW.okN(h:bW.f b=some r):FnS PP 184 [.d (sNN (kR aD) b)] [] [] (.v 80000) [.row 80000 88 (kR aD) r]:=by
 refine fnIntroS Tryz.func184 u (by kernel_rfl) fun X H0 w0 pv=>?_
 unfold bW.f at h
 refine sx (cp (oAs cV) tv<|.nil)<|wSeq<|sx (c1<|cp (oEqNF (d:=(kR aD)) u33 tm cV) (s1 u)<|.nil)<|wCondF tm (s1 u)<|wSkip<|pSeq<|wSeq<|ix h fun a h=>rx (cw (oLitR (id:=5) (d:=(kR aD)) el33 (by decide) u u u e0) tv<|c1<|cw (oApp (n:=0) (id':=7) el33 (by decide) u (by decide) a tm tNN) (s2 u u)<|c1<|.nil)<|pSeq<|wRet ?_
 obtain rfl:=so h
 exact pSub (Γ':=[(2,.v 7)]) (sb u)<|pRen 7 80000 u<|pSv [0] u u (.inl u) u u
theorem bW.ok(h:bW.f a=some r):FnS PP 184 [.d ((kL (kR aD)).sig a)] [] [] (.v 80000) [.row 80000 88 (kR aD) r]:=
 libClone nk (by rintro rfl;have h':=h;unfold bW.f at h';split at h'<;>cases h';rfl) (bW.okN h)
theorem br.okN(h:br.f b=some r):FnS PP 95 [.d (sNN (kR aB) b)] [] [] (.v 80000) [.row 80000 30 (kR aB) r]:=by
 refine fnIntroS Tryz.func95 u (by kernel_rfl) fun X H0 w0 pv=>?_
 unfold br.f at h
 refine sx (cp (oAs cV) tv<|.nil)<|wSeq<|sx (c1<|cp (oEqNF (d:=(kR aB)) u32 tm cV) (s1 u)<|.nil)<|wCondF tm (s1 u)<|wSkip<|pSeq<|wSeq<|ix h fun a h=>rx (cw (oLitR (id:=5) (d:=(kR aB)) el32 (by decide) u u u e0) tv<|c1<|cw (oApp (n:=0) (id':=7) el32 (by decide) u (by decide) a tm tNN) (s2 u u)<|c1<|.nil)<|pSeq<|wRet ?_
 obtain rfl:=so h
 exact pSub (Γ':=[(2,.v 7)]) (sb u)<|pRen 7 80000 u<|pSv [0] u u (.inl u) u u
theorem br.ok(h:br.f a=some r):FnS PP 95 [.d ((kL (kR aB)).sig a)] [] [] (.v 80000) [.row 80000 30 (kR aB) r]:=
 libClone om (by rintro rfl;have h':=h;unfold br.f at h';split at h'<;>cases h';rfl) (br.okN h)
theorem eC.ok(h:eC.f a a1=some r):FnS PP 160 [.p 70000 0,.d (ki.sig a1)] [.box 70000 204 (L204 a)] [70000] (.d (tup [])) [.box 70000 204 (L204 r)]:=by
 refine fnIntroS Tryz.func160 u (by kernel_rfl) fun X H0 w0 pv=>?_
 unfold eC.f at h
 refine sx (c4<|lK 0 6 u u (by kernel_rfl) t33 u<|c1<|.nil)<|wSeq<|ix h fun I h=>bx h fun F Y h=>rx (c4<|c1<|lK 0 20 u u (by kernel_rfl) t3 u<|cp (oCutHi u33 z88 I.1 I.2 tm tm) (s2 u u)<|cm (oCallS (rest:=[.box 70000 204 (L204 a)]) (R':=[.row 310280 88 (kR aD) F,.box 70000 204 (L204 a)]) (out':=.v 310280) [] [(80000,310280)] [] [0] [0,1] u (bW.ok Y) b184 (oE1 tm oE0) u u u u u u u u) (s1 u)<|c3<|cwn (oStN (n:=1) (m:=0) (k:=6) u u u u z33 u tm tm) (s2 u u)<|.nil)<|pSeq<|sx (c4<|c1<|lK 1 2 u u (by kernel_rfl) t3 u<|c2<|.nil)<|wSeq<|sx (c4<|lK 1 8 u u (by kernel_rfl) t3 u<|.nil)<|wWeak (Γ':=[(0,.p 70000 0),(1,.d (ki.sig a1)),(4,.d ((kL (kR aD)).sig a.s_.Stack)),(5,.d (ki.sig (IntKind.i64.wrap (a.s_.Pc.V+1)))),(34,.d (ki.sig a.x_.Op))]) (sb u)<|wRen 310280 3505006 u ?_
 obtain⟨o1,h,Z⟩:=bd h
 refine wK2 (fun j l=>(j,l)=o1) (fun j l=>[(0,.p 70000 0),(5,.d (ki.sig l))]) (fun j l=>[.box 70000 204 (L204 j)]) ?_ ?_
 ·refine wBlock<|sx (c2<|.nil)<|jx h (fun o h=>?_) fun o h=>?_
  ·exact wd o u<|bx h fun b K h=>rx (c4<|c1<|lK 1 9 u u (by kernel_rfl) t3 u<|c1<|cm (oCallS (rest:=[]) (R':=[.row 350280 88 (kR aD) b.s_.Stack,.box 70000 204 [.d (kL kS) b.l_.Names,.d (kL (kI .u32)) b.l_.Up,.d ki b.s_.Pc.V,.d ki b.s_.Pc.L,.d (kL (kR aH)) b.s_.Code,.d (kL (kR aB)) b.s_.Mem,.v 350280,.d (kL (kR aB)) b.s_.Out,.d ki b.x_.Op,.d ki b.x_.N,.d ki b.x_.L,.d kB b.a_.Ret,.d ki b.a_.V,.d ki b.a_.L,.d kB b.b_.Ret,.d ki b.b_.V,.d ki b.b_.L,.d kB b.r_.Ret,.d ki b.r_.V,.d ki b.r_.L,.d ki b.below_,.d ki b.one_.x0_,.d ki b.one_.x1_,.d ki b.one_.x2_]]) (out':=.d (tup [])) [(70000,70000),(70007,3505006)] [(70007,350280)] [1,0] [] [1,0] u (cA.ok K) b185 (oE1 tm (oE1 tm (oE1 tm oE0))) u u u u u u u u) (s3 u u u)<|.nil)<|pBlkN<|pFrzR (n:=0) (id:=350280) [] u u tv<|pJ2 _ _ (so h) (sb u) u
  ·refine we o u<|sx (c2<|.nil)<|jx h (fun q h=>?_) fun q h=>?_
   ·exact wd q u<|bx h fun c M h=>rdx hm (c4<|c1<|lK 1 15 u u (by kernel_rfl) t3 u<|c4<|lK 1 12 u u (by kernel_rfl) t3 u<|c2<|cm (oCallS (rest:=[]) (R':=[.row 370520 88 (kR aD) c.s_.Stack,.box 70000 204 [.d (kL kS) c.l_.Names,.d (kL (kI .u32)) c.l_.Up,.d ki c.s_.Pc.V,.d ki c.s_.Pc.L,.d (kL (kR aH)) c.s_.Code,.d (kL (kR aB)) c.s_.Mem,.v 370520,.d (kL (kR aB)) c.s_.Out,.d ki c.x_.Op,.d ki c.x_.N,.d ki c.x_.L,.d kB c.a_.Ret,.d ki c.a_.V,.d ki c.a_.L,.d kB c.b_.Ret,.d ki c.b_.V,.d ki c.b_.L,.d kB c.r_.Ret,.d ki c.r_.V,.d ki c.r_.L,.d ki c.below_,.d ki c.one_.x0_,.d ki c.one_.x1_,.d ki c.one_.x2_]]) (out':=.d (tup [])) [(70000,70000),(70007,3505006)] [(70007,370520)] [1,0] [] [1,0] u (cA.ok M) b185 (oE1 tm (oE1 tm (oE1 tm oE0))) u u u u u u u u) (s3 u u u)<|.nil)<|pBlkN<|pFrzR (n:=0) (id:=370520) [] u u tv<|pJ2 _ _ (so h) (sb u) u
   ·refine we q u<|sx (c2<|.nil)<|jx h (fun s h=>?_) fun s h=>?_
    ·exact wd s u<|bx h fun e O h=>rdx hm (c4<|c1<|lK 1 15 u u (by kernel_rfl) t3 u<|c4<|lK 1 12 u u (by kernel_rfl) t3 u<|c2<|cm (oCallS (rest:=[]) (R':=[.row 390520 88 (kR aD) e.s_.Stack,.box 70000 204 [.d (kL kS) e.l_.Names,.d (kL (kI .u32)) e.l_.Up,.d ki e.s_.Pc.V,.d ki e.s_.Pc.L,.d (kL (kR aH)) e.s_.Code,.d (kL (kR aB)) e.s_.Mem,.v 390520,.d (kL (kR aB)) e.s_.Out,.d ki e.x_.Op,.d ki e.x_.N,.d ki e.x_.L,.d kB e.a_.Ret,.d ki e.a_.V,.d ki e.a_.L,.d kB e.b_.Ret,.d ki e.b_.V,.d ki e.b_.L,.d kB e.r_.Ret,.d ki e.r_.V,.d ki e.r_.L,.d ki e.below_,.d ki e.one_.x0_,.d ki e.one_.x1_,.d ki e.one_.x2_]]) (out':=.d (tup [])) [(70000,70000),(70007,3505006)] [(70007,390520)] [1,0] [] [1,0] u (cA.ok O) b185 (oE1 tm (oE1 tm (oE1 tm oE0))) u u u u u u u u) (s3 u u u)<|.nil)<|pBlkN<|pFrzR (n:=0) (id:=390520) [] u u tv<|pJ2 _ _ (so h) (sb u) u
    ·refine we s u<|sx (c2<|.nil)<|jx h (fun t h=>?_) fun t h=>?_
     ·exact wd t u<|bx h fun qd P h=>bx h fun g Q h=>rdx hm (c4<|c1<|lK 1 5 u u (by kernel_rfl) t32 u<|c4<|lK 1 12 u u (by kernel_rfl) t3 u<|iX u32 z30 P u u<|c3<|cm (oCallS (rest:=[]) (R':=[.row 410600 88 (kR aD) g.s_.Stack,.box 70000 204 [.d (kL kS) g.l_.Names,.d (kL (kI .u32)) g.l_.Up,.d ki g.s_.Pc.V,.d ki g.s_.Pc.L,.d (kL (kR aH)) g.s_.Code,.d (kL (kR aB)) g.s_.Mem,.v 410600,.d (kL (kR aB)) g.s_.Out,.d ki g.x_.Op,.d ki g.x_.N,.d ki g.x_.L,.d kB g.a_.Ret,.d ki g.a_.V,.d ki g.a_.L,.d kB g.b_.Ret,.d ki g.b_.V,.d ki g.b_.L,.d kB g.r_.Ret,.d ki g.r_.V,.d ki g.r_.L,.d ki g.below_,.d ki g.one_.x0_,.d ki g.one_.x1_,.d ki g.one_.x2_]]) (out':=.d (tup [])) [(70000,70000),(70007,3505006)] [(70007,410600)] [1,0] [] [1,0] u (cA.ok Q) b185 (oE1 tm (oE1 tm (oE1 tm oE0))) u u u u u u u u) (s3 u u u)<|.nil)<|pBlkN<|pFrzR (n:=0) (id:=410600) [] u u tv<|pJ2 _ _ (so h) (sb u) u
     ·refine we t u<|sx (c2<|.nil)<|jx h (fun w h=>?_) fun w h=>?_
      ·exact wd w u<|wSeq<|bx h fun qc R h=>rx (c4<|c1<|lK 1 5 u u (by kernel_rfl) t32 u<|cm (oCallS (rest:=[.row 3505006 88 (kR aD) F,.box 70000 204 [.d (kL kS) a.l_.Names,.d (kL (kI .u32)) a.l_.Up,.d ki a.s_.Pc.V,.d ki a.s_.Pc.L,.d (kL (kR aH)) a.s_.Code,.d (kL (kR aB)) a.s_.Mem,.v 3505006,.d (kL (kR aB)) a.s_.Out,.d ki a.x_.Op,.d ki a.x_.N,.d ki a.x_.L,.d kB a.a_.Ret,.d ki a.a_.V,.d ki a.a_.L,.d kB a.b_.Ret,.d ki a.b_.V,.d ki a.b_.L,.d kB a.r_.Ret,.d ki a.r_.V,.d ki a.r_.L,.d ki a.below_,.d ki a.one_.x0_,.d ki a.one_.x1_,.d ki a.one_.x2_]]) (R':=[.row 430240 30 (kR aB) qc,.row 3505006 88 (kR aD) F,.box 70000 204 [.d (kL kS) a.l_.Names,.d (kL (kI .u32)) a.l_.Up,.d ki a.s_.Pc.V,.d ki a.s_.Pc.L,.d (kL (kR aH)) a.s_.Code,.d (kL (kR aB)) a.s_.Mem,.v 3505006,.d (kL (kR aB)) a.s_.Out,.d ki a.x_.Op,.d ki a.x_.N,.d ki a.x_.L,.d kB a.a_.Ret,.d ki a.a_.V,.d ki a.a_.L,.d kB a.b_.Ret,.d ki a.b_.V,.d ki a.b_.L,.d kB a.r_.Ret,.d ki a.r_.V,.d ki a.r_.L,.d ki a.below_,.d ki a.one_.x0_,.d ki a.one_.x1_,.d ki a.one_.x2_]]) (out':=.v 430240) [] [(80000,430240)] [] [0,1] [0,1,2] u (br.ok R) b95 (oE1 tm oE0) u u u u u u u u) (s1 u)<|c3<|cwn (oStN (n:=2) (m:=0) (k:=5) u u u u z32 u tm tm) (s2 u u)<|.nil)<|pSeq<|bx h fun qe G h=>rdx hm (c4<|lN 2 5 u u u t32 u<|c4<|lK 2 12 u u (by kernel_rfl) t3 u<|c4<|lK 2 15 u u (by kernel_rfl) t3 u<|c1<|cp (oBuild (fs:=aB) (u:=⟨a.b_.V,a1⟩) u ze30 pl30 po30 (qI tm u (qI tm u .nil))) (s2 u u)<|cr (oIdxR (n:=0) u32 z30 u G tm tm) (s2 u u)<|cwn (oStE (n:=0) u G u z30 tm tm) (s2 u u)<|.nil)<|pBlkN<|pFrzR (n:=0) (id:=430240) [] u u tv<|pFrzR (n:=0) (id:=3505006) [] u u tv<|pJ2 _ _ (so h) (sb u) u
      ·refine we w u<|sx (c2<|.nil)<|jx h (fun x h=>?_) fun x h=>?_
       ·exact wd x u<|bx h fun J S h=>ix h fun T h=>rgL hm (c4<|c1<|cl [] u (oLdK (n:=1) (k:=7) u u (by kernel_rfl) t32 tm) (s1 u)<|cnm (oCallS (rest:=[.row 3505006 88 (kR aD) F,.box 70000 204 [.d (kL kS) a.l_.Names,.d (kL (kI .u32)) a.l_.Up,.d ki a.s_.Pc.V,.d ki a.s_.Pc.L,.d (kL (kR aH)) a.s_.Code,.d (kL (kR aB)) a.s_.Mem,.v 3505006,.d (kL (kR aB)) a.s_.Out,.d ki a.x_.Op,.d ki a.x_.N,.d ki a.x_.L,.d kB a.a_.Ret,.d ki a.a_.V,.d ki a.a_.L,.d kB a.b_.Ret,.d ki a.b_.V,.d ki a.b_.L,.d kB a.r_.Ret,.d ki a.r_.V,.d ki a.r_.L,.d ki a.below_,.d ki a.one_.x0_,.d ki a.one_.x1_,.d ki a.one_.x2_]]) (R':=[.row 460240 30 (kR aB) J,.row 3505006 88 (kR aD) F,.box 70000 204 [.d (kL kS) a.l_.Names,.d (kL (kI .u32)) a.l_.Up,.d ki a.s_.Pc.V,.d ki a.s_.Pc.L,.d (kL (kR aH)) a.s_.Code,.d (kL (kR aB)) a.s_.Mem,.v 3505006,.d (kL (kR aB)) a.s_.Out,.d ki a.x_.Op,.d ki a.x_.N,.d ki a.x_.L,.d kB a.a_.Ret,.d ki a.a_.V,.d ki a.a_.L,.d kB a.b_.Ret,.d ki a.b_.V,.d ki a.b_.L,.d kB a.r_.Ret,.d ki a.r_.V,.d ki a.r_.L,.d ki a.below_,.d ki a.one_.x0_,.d ki a.one_.x1_,.d ki a.one_.x2_]]) (out':=.v 460240) [] [(80000,460240)] [] [0,1] [0,1,2] u (br.ok S) b95 (oE1 tm oE0) u u u u u u u u) (s1 u)<|c4<|cl [.row 460240 30 (kR aB) J] u (oLdK (n:=1) (k:=12) u u (by kernel_rfl) t3 tm) (s1 u)<|c1<|cp (oBuild (fs:=aB) (u:=⟨a.a_.V,a1⟩) u ze30 pl30 po30 (qI tm u (qI tm u .nil))) (s2 u u)<|cp (oLit (d:=(kR aB)) el32 (by decide) u u u (e1 tm e0)) (s1 u)<|cw (oApp (n:=0) (id':=142) el32 (by decide) u (by decide) T tm tm) (s2 u u)<|c3<|cwn (oStN (n:=2) (m:=0) (k:=7) u u u u z32 u tm tm) (s2 u u)<|.nil) (by kernel_rfl) (by kernel_rfl) (by kernel_rfl)<|pBlkN<|pFrzR (n:=1) (id:=3505006) [] u u tv<|pFrzR (n:=0) (id:=142) [] u u tv<|pJ2 _ _ (so h) (sb u) u
       ·refine we x u<|sx (c2<|.nil)<|jx h (fun y h=>?_) fun y h=>?_
        ·exact wd y u<|rx (c4<|lK 1 12 u u (by kernel_rfl) t3 u<|c1<|.nil)<|pBlkN<|pFrzR (n:=0) (id:=3505006) [] u u tv<|pJ2 _ _ (so h) (sb u) u
        ·refine we y u<|sx (c2<|.nil)<|jx h (fun z h=>?_) fun z h=>?_
         ·refine wd z u<|sx (c4<|lK 1 12 u u (by kernel_rfl) t3 u<|c1<|.nil)<|jx h (fun A h=>?_) fun A h=>?_
          ·exact wh A u<|wSkip<|pBlkN<|pFrzR (n:=0) (id:=3505006) [] u u tv<|pJ2 _ _ (so h) (sb u) u
          ·exact wg A u<|rx (c4<|lK 1 9 u u (by kernel_rfl) t3 u<|c1<|.nil)<|pBlkN<|pFrzR (n:=0) (id:=3505006) [] u u tv<|pJ2 _ _ (so h) (sb u) u
         ·refine we z u<|sx (c2<|.nil)<|jx h (fun B h=>?_) fun B h=>?_
          ·exact wd B u<|wSeq<|ix h fun C h=>rdx hm (c4<|lK 1 20 u u (by kernel_rfl) t3 u<|c4<|lK 1 9 u u (by kernel_rfl) t3 u<|c4<|lK 1 20 u u (by kernel_rfl) t3 u<|cp (oCut u33 z88 C.1 C.2.1 C.2.2 tm tm tm) (s3 u u u)<|c1<|.nil)<|pSeq<|wSeq<|ix h fun H h=>bx h fun qf U h=>rdx hm (c4<|c1<|lK 1 20 u u (by kernel_rfl) t3 u<|c4<|lK 1 9 u u (by kernel_rfl) t3 u<|c1<|cp (oCutHi u33 z88 H.1 H.2 tm tm) (s2 u u)<|c6<|lK 1 3 u u (by kernel_rfl) t3 u<|cp (oBuild (fs:=aD) (u:=⟨true,IntKind.i64.wrap (a.s_.Pc.V+1),a.s_.Pc.L⟩) u ze88 pl88 po88 (.op (zc:=[(.bool false)]) cB u (qI tm u (qI tm u .nil)))) (s2 u u)<|cp (oLit (d:=(kR aD)) el33 (by decide) u u u (e1 tm e0)) (s1 u)<|c1<|cp (oLit (d:=(kL (kR aD))) el147 (by decide) u u u (e1 tm (e1 tm (e1 tm e0)))) (s3 u u u)<|cC (aT.ok U)<|c3<|cwn (oStK (n:=1) (k:=6) u u u (by kernel_rfl) z33 tm tm) (s2 u u)<|.nil)<|pSeq<|rx (c4<|lK 1 12 u u (by kernel_rfl) t3 u<|c1<|.nil)<|pBlkN<|pDrop (.cons _ (.cons_cons _ .slnil))<|pJ2 _ _ (so h) (sb u) u
          ·refine we B u<|sx (c2<|.nil)<|jx h (fun D h=>?_) fun D h=>?_
           ·refine wd D u<|wSeq<|sx (c4<|lK 1 9 u u (by kernel_rfl) t3 u<|c1<|.nil)<|jx h (fun E h=>?_) fun E h=>?_
            ·exact wd E u<|bx h fun i W h=>rx (c4<|c1<|lK 1 12 u u (by kernel_rfl) t3 u<|c1<|cm (oCallS (rest:=[]) (R':=[.row 580280 88 (kR aD) i.s_.Stack,.box 70000 204 [.d (kL kS) i.l_.Names,.d (kL (kI .u32)) i.l_.Up,.d ki i.s_.Pc.V,.d ki i.s_.Pc.L,.d (kL (kR aH)) i.s_.Code,.d (kL (kR aB)) i.s_.Mem,.v 580280,.d (kL (kR aB)) i.s_.Out,.d ki i.x_.Op,.d ki i.x_.N,.d ki i.x_.L,.d kB i.a_.Ret,.d ki i.a_.V,.d ki i.a_.L,.d kB i.b_.Ret,.d ki i.b_.V,.d ki i.b_.L,.d kB i.r_.Ret,.d ki i.r_.V,.d ki i.r_.L,.d ki i.below_,.d ki i.one_.x0_,.d ki i.one_.x1_,.d ki i.one_.x2_]]) (out':=.d (tup [])) [(70000,70000),(70007,3505006)] [(70007,580280)] [1,0] [] [1,0] u (cA.ok W) b185 (oE1 tm (oE1 tm (oE1 tm oE0))) u u u u u u u u) (s3 u u u)<|.nil)<|pSeq<|rx (c4<|lK 1 18 u u (by kernel_rfl) t3 u<|c1<|.nil)<|pBlkN<|pFrzR (n:=0) (id:=580280) [] u u tv<|pJ2 _ _ (so h) (sb u) u
            ·exact we E u<|wSkip<|pSeq<|rx (c4<|lK 1 18 u u (by kernel_rfl) t3 u<|c1<|.nil)<|pBlkN<|pFrzR (n:=0) (id:=3505006) [] u u tv<|pJ2 _ _ (so h) (sb u) u
           ·exact we D u<|wSkip<|pBlkN<|pFrzR (n:=0) (id:=3505006) [] u u tv<|pJ2 _ _ (so h) (sb u) u
 ·rintro j l rfl
  replace h:=Z
  refine pSeq<|rx (c6<|cwn (oStK (n:=0) (k:=2) u u u (by kernel_rfl) z3 tm tm) (s2 u u)<|.nil) ?_
  obtain rfl:=so h
  exact pSn [0] u u (.inr u) u u (.nil)
theorem dO.ok(h:dO.f e a1 a2=some r):FnA PP 125 [(kR aC).sig e,(kR bn).sig a1,(kR av).sig a2] (tup [(kR av).sig r.1,ki.sig r.2]):=by
 unfold dO.f at h
 obtain⟨z,hB,hr⟩:=bd h
 clear h
 obtain rfl:=so hr
 replace h:=hB
 refine fnDefer (Γ:=[(0,.d ((kR aC).sig e)),(1,.d ((kR bn).sig a1)),(2,.d ((kR av).sig a2)),(3,.d (sP (kR aC) e)),(4,.d (sP (kR bn) a1)),(5,.d (sP (kR av) a2)),(6,.p 6 0),(7,.p 7 0)]) (R:=[.box 7 3 [.d ki 0],.box 6 35 [.d ki 0,.d ki 0,.d (kL (kR aH)) [],.d (kL (kR aB)) [],.d (kL (kR aD)) [],.d (kL (kR aB)) []]]) (n6:=1) (n7:=0) Tryz.func125 u (by kernel_rfl) (by kernel_rfl) u Tryz.func154 ((u:Tryz.f154.body=some (recX _ _ _ _ _ _ _ _ _ _ _ _ _ _ _ _ _ _ _)).trans (congrArg some (recX_eq (A:=20) (E:=199) (S:=35) (I:=3) ⟨u,u,u⟩ ⟨u,u,u⟩ ⟨u,u,u⟩ ⟨u,u,u⟩ ⟨u,u,u⟩ ⟨u,u,u⟩ ⟨u,u,u⟩ ⟨u,u,u⟩ ⟨u,u,u⟩ ⟨u,u,u⟩ ⟨u,u,u⟩))) u u u20 cb199 b154 t35 z35 t3 z3 u u u u u u (fun H0 w0 Q hpost=>?_) (fun X H0 w0 pv ds=>?_)
 ·exact rx (c3<|aL 6 Z35 ze35 zl35<|cw (oAlloc (id:=7) (ls:=[.d ki 0]) ze3 (fun g=>⟨[(.int .i64 0)],_,u,zI_i64 g.H,u⟩)) tv<|.nil)<|pSub (Γ':=[(0,.d ((kR aC).sig e)),(1,.d ((kR bn).sig a1)),(2,.d ((kR av).sig a2)),(3,.d (sP (kR aC) e)),(4,.d (sP (kR bn) a1)),(5,.d (sP (kR av) a2)),(6,.p 6 0),(7,.p 7 0)]) (sb u) hpost
 ·unfold dO.B at h
  refine wSeq<|wT0<|wTk 0 7 (c6<|c1<|.nil) (by kernel_rfl) u ?_
  obtain⟨K,t,h⟩:=bd h
  rcases K with Z|y3
  ·refine wTx (Γp:=[(6,.p 6 0),(7,.p 7 0)]) 7 u (oCallX (rest:=[.box 7 3 [.d ki 0],.box 6 35 [.d ki 0,.d ki 0,.d (kL (kR aH)) [],.d (kL (kR aB)) [],.d (kL (kR aD)) [],.d (kL (kR aB)) []]]) [] [] [0,1] u (cc.okP t) b155 (oE1 tm oE0) u u) u u (s1 u) ⟨u,u,tv⟩<|pThenP ?_
   obtain rfl:=so h
   exact pDpan (n6:=1) (n7:=0) u u u (by kernel_rfl) (by kernel_rfl)
  ·refine wTe 7 (cm (oCallS (rest:=[.box 7 3 [.d ki 0],.box 6 35 [.d ki 0,.d ki 0,.d (kL (kR aH)) [],.d (kL (kR aB)) [],.d (kL (kR aD)) [],.d (kL (kR aB)) []]]) (R':=[.box 7 3 [.d ki 0],.box 6 35 [.d ki 0,.d ki 0,.d (kL (kR aH)) [],.d (kL (kR aB)) [],.d (kL (kR aD)) [],.d (kL (kR aB)) []]]) (out':=.d (tup [])) [] [] [] [0,1] [0,1] u (cc.okR t) b155 (oE1 tm oE0) u u u u u u u u) (s1 u)<|.nil) (by kernel_rfl)<|pSeq<|wSeq<|bx h fun c F h=>rx (c1<|cC (dI.ok F)<|c4<|c1<|.nil)<|pSeq<|wSeq<|bx h fun s G h=>rdx hm (c6<|c1<|iX u31 z73 G u u<|c4<|cp (oBuildA (fs:=kD) (u:=⟨c.1,c.1,c.1⟩) u ze202 u202 z3 po202 (qI tm u (qI tm u (qI tm u .nil)))) (s3 u u u)<|cp (oBuild (fs:=gv) (u:=⟨e,a2,s,(⟨false,0,0⟩:aF),(⟨false,0,0⟩:aF),(⟨false,0,0⟩:aF),0,(⟨c.1,c.1,c.1⟩:S202)⟩) u ze204 pl204 po204 (.op (zc:=[(.slice none 0 0),(.slice none 0 0)]) tm u (qT tm u (.op (zc:=[(.int .i64 0),(.int .i64 0),(.int .i64 0)]) tm u (gS dV (gS dV (gS dV (gI zI_i64 (.op (zc:=[(.int .i64 0),(.int .i64 0),(.int .i64 0)]) tm u .nil))))))))) ⟨u,u,u,u,tv⟩<|cw (oBoxP (id:=47) (d:=(kR gv)) (ls:=[.d (kL kS) e.Names,.d (kL (kI .u32)) e.Up,.d ki a2.Pc.V,.d ki a2.Pc.L,.d (kL (kR aH)) a2.Code,.d (kL (kR aB)) a2.Mem,.d (kL (kR aD)) a2.Stack,.d (kL (kR aB)) a2.Out,.d ki s.Op,.d ki s.N,.d ki s.L,.d kB false,.d ki 0,.d ki 0,.d kB false,.d ki 0,.d ki 0,.d kB false,.d ki 0,.d ki 0,.d ki 0,.d ki c.1,.d ki c.1,.d ki c.1]) pt204 u tm) (s1 u)<|c1<|.nil)<|pSeq<|wSeq<|wT0<|wTk 0 1 (c1<|.nil) (by kernel_rfl) u ?_
   obtain⟨M,v,h⟩:=bd h
   rcases M with p7|O
   ·refine wTx (Γp:=[(6,.p 6 0),(7,.p 7 0)]) 1 u (oCallX (rest:=[.box 7 3 [.d ki 0],.box 6 35 [.d ki 0,.d ki 0,.d (kL (kR aH)) [],.d (kL (kR aB)) [],.d (kL (kR aD)) [],.d (kL (kR aB)) []]]) [(70000,47)] [0] [1,2] u (b9.okP v) b157 (oE1 tm oE0) u u) u u (s1 u) ⟨u,u,tv⟩<|pThenP ?_
    obtain rfl:=so h
    exact pDpan (n6:=1) (n7:=0) u u u (by kernel_rfl) (by kernel_rfl)
   ·refine wTe 1 (cm (oCallS (rest:=[.box 7 3 [.d ki 0],.box 6 35 [.d ki 0,.d ki 0,.d (kL (kR aH)) [],.d (kL (kR aB)) [],.d (kL (kR aD)) [],.d (kL (kR aB)) []]]) (R':=[.box 47 204 (L204 O),.box 7 3 [.d ki 0],.box 6 35 [.d ki 0,.d ki 0,.d (kL (kR aH)) [],.d (kL (kR aB)) [],.d (kL (kR aD)) [],.d (kL (kR aB)) []]]) (out':=.d (tup [])) [(70000,47)] [] [0] [1,2] [0,1,2] u (b9.okR v) b157 (oE1 tm oE0) u u u u u u u u) (s1 u)<|.nil) (by kernel_rfl)<|pSeq<|wSeq<|sx (c4<|lK 0 8 u u (by kernel_rfl) t3 u<|c1<|.nil)<|jx h (fun l h=>?_) fun l h=>?_
    ·refine wd l u<|wT0<|wTk 0 1 (cp (oMkX 1 cb199 (cI (by decide))) tv<|.nil) (by kernel_rfl) u<|wTx (Γp:=[(6,.p 6 0),(7,.p 7 0)]) 1 u (oPanic tm) u u (s1 u) ⟨u,u,tv⟩<|pThenP ?_
     obtain rfl:=so h
     exact pDpan (n6:=2) (n7:=1) u u u (by kernel_rfl) (by kernel_rfl)
    ·refine we l u<|wSkip<|pSeq<|wSeq<|bx h fun i w h=>rgL hm (c6<|cl [] u (oLdK (n:=0) (k:=8) u u (by kernel_rfl) t3 tm) (s1 u)<|iX u26 z58 w u u<|c1<|cn (oAlloc (id:=11) (ls:=Z58) ze58 zl58) tv<|sA 0 bj u u z58 u u<|.nil) (by kernel_rfl) (by kernel_rfl) (by kernel_rfl)<|pSeq<|wSeq<|rdx hm (c6<|cp (oIdxA 0 0 u u202 z3 u tm (cI (by decide))) (s1 u)<|lK 1 21 u u (by kernel_rfl) t3 u<|c3<|cp (oIdxA 1 1 u u202 z3 u tm (cI (by decide))) (s1 u)<|lK 1 22 u u (by kernel_rfl) t3 u<|c3<|cp (oIdxA 2 2 u u202 z3 u tm (cI (by decide))) (s1 u)<|lK 1 23 u u (by kernel_rfl) t3 u<|cp (oLit (d:=ki) el56 (by decide) u u u (e1 tm (e1 tm (e1 tm (e1 tm e0))))) ⟨u,u,u,u,tv⟩<|c1<|.nil)<|pSeq<|wSeq<|wSeq<|bx h fun P x h=>rx (c2<|lB 0 0 u u u t56 u<|c1<|cC (fb.ok x)<|c4<|c1<|.nil)<|pSeq<|sx (c2<|.nil)<|jx h (fun j h=>?_) fun j h=>?_
     ·refine wb j u<|wT0<|wTk 0 1 (cp (oMkX 2 cb199 (cI (by decide))) tv<|.nil) (by kernel_rfl) u<|wTx (Γp:=[(6,.p 6 0),(7,.p 7 0)]) 1 u (oPanic tm) u u (s1 u) ⟨u,u,tv⟩<|pThenP ?_
      obtain rfl:=so h
      exact pDpan (n6:=3) (n7:=2) u u u (by kernel_rfl) (by kernel_rfl)
     ·refine wc j u<|wSkip<|pSeq<|wSeq<|bx h fun T y h=>rx (c2<|lB 0 1 u u u t56 u<|c1<|cC (dJ.ok y)<|c4<|c1<|.nil)<|pSeq<|wSeq<|bx h fun b C h=>rx (c2<|lB 0 2 u u u t56 u<|c1<|cC (dJ.ok C)<|c4<|c1<|.nil)<|pSeq<|wSeq<|bx h fun a D h=>rx (c2<|cm (oCallS (rest:=[.box 11 58 (L58 i),.box 7 3 [.d ki 0],.box 6 35 [.d ki 0,.d ki 0,.d (kL (kR aH)) [],.d (kL (kR aB)) [],.d (kL (kR aD)) [],.d (kL (kR aB)) []]]) (R':=[.box 11 58 (L58 i),.box 47 204 (L204 a),.box 7 3 [.d ki 0],.box 6 35 [.d ki 0,.d ki 0,.d (kL (kR aH)) [],.d (kL (kR aB)) [],.d (kL (kR aD)) [],.d (kL (kR aB)) []]]) (out':=.d (tup [])) [(70000,47)] [] [1] [0,2,3] [1,0,2,3] u (eC.ok D) b160 (oE1 tm (oE1 tm oE0)) u u u u u u u u) (s2 u u)<|.nil)<|pSeq<|sx (c6<|cwn (oStK (n:=1) (k:=3) u u u (by kernel_rfl) z3 tm tm) (s2 u u)<|.nil)<|wSeq ?_
      obtain⟨U,o,h⟩:=bd h
      obtain⟨J,q,h⟩:=bd h
      rcases J with W|Y
      ·refine rgXD (Γp:=[(6,.p 6 0),(7,.p 7 0)]) hm (c4<|cr (oLdPK (n:=1) (k:=2) (m:=6) (d:=(kR av)) (u:=(⟨⟨a.s_.Pc.V,b.1⟩,a.s_.Code,a.s_.Mem,a.s_.Stack,a.s_.Out⟩:al)) pt35 u u (by kernel_rfl) t35 tm) (s1 u)<|cC (fe.ok o)<|cb (oCallX (rest:=[.box 11 58 (L58 i),.box 47 204 [.d (kL kS) a.l_.Names,.d (kL (kI .u32)) a.l_.Up,.d ki a.s_.Pc.V,.d ki b.1,.d (kL (kR aH)) a.s_.Code,.d (kL (kR aB)) a.s_.Mem,.d (kL (kR aD)) a.s_.Stack,.d (kL (kR aB)) a.s_.Out,.d ki a.x_.Op,.d ki a.x_.N,.d ki a.x_.L,.d kB a.a_.Ret,.d ki a.a_.V,.d ki a.a_.L,.d kB a.b_.Ret,.d ki a.b_.V,.d ki a.b_.L,.d kB a.r_.Ret,.d ki a.r_.V,.d ki a.r_.L,.d ki a.below_,.d ki a.one_.x0_,.d ki a.one_.x1_,.d ki a.one_.x2_],.box 7 3 [.d ki 0],.box 6 35 [.d ki 0,.d ki 0,.d (kL (kR aH)) [],.d (kL (kR aB)) [],.d (kL (kR aD)) [],.d (kL (kR aB)) []]]) [] [] [0,1,2,3] u (cc.okP q) b155 (oE1 tm oE0) u u) (s1 u)<|.nil) (by kernel_rfl) (by kernel_rfl) ⟨u,u,tv⟩<|pThenP ?_
       obtain rfl:=so h
       exact pDpan (n6:=3) (n7:=2) u u u (by kernel_rfl) (by kernel_rfl)
      ·refine rdx hm (c4<|cr (oLdPK (n:=1) (k:=2) (m:=6) (d:=(kR av)) (u:=(⟨⟨a.s_.Pc.V,b.1⟩,a.s_.Code,a.s_.Mem,a.s_.Stack,a.s_.Out⟩:al)) pt35 u u (by kernel_rfl) t35 tm) (s1 u)<|cC (fe.ok o)<|cm (oCallS (rest:=[.box 11 58 (L58 i),.box 47 204 [.d (kL kS) a.l_.Names,.d (kL (kI .u32)) a.l_.Up,.d ki a.s_.Pc.V,.d ki b.1,.d (kL (kR aH)) a.s_.Code,.d (kL (kR aB)) a.s_.Mem,.d (kL (kR aD)) a.s_.Stack,.d (kL (kR aB)) a.s_.Out,.d ki a.x_.Op,.d ki a.x_.N,.d ki a.x_.L,.d kB a.a_.Ret,.d ki a.a_.V,.d ki a.a_.L,.d kB a.b_.Ret,.d ki a.b_.V,.d ki a.b_.L,.d kB a.r_.Ret,.d ki a.r_.V,.d ki a.r_.L,.d ki a.below_,.d ki a.one_.x0_,.d ki a.one_.x1_,.d ki a.one_.x2_],.box 7 3 [.d ki 0],.box 6 35 [.d ki 0,.d ki 0,.d (kL (kR aH)) [],.d (kL (kR aB)) [],.d (kL (kR aD)) [],.d (kL (kR aB)) []]]) (R':=[.box 11 58 (L58 i),.box 47 204 [.d (kL kS) a.l_.Names,.d (kL (kI .u32)) a.l_.Up,.d ki a.s_.Pc.V,.d ki b.1,.d (kL (kR aH)) a.s_.Code,.d (kL (kR aB)) a.s_.Mem,.d (kL (kR aD)) a.s_.Stack,.d (kL (kR aB)) a.s_.Out,.d ki a.x_.Op,.d ki a.x_.N,.d ki a.x_.L,.d kB a.a_.Ret,.d ki a.a_.V,.d ki a.a_.L,.d kB a.b_.Ret,.d ki a.b_.V,.d ki a.b_.L,.d kB a.r_.Ret,.d ki a.r_.V,.d ki a.r_.L,.d ki a.below_,.d ki a.one_.x0_,.d ki a.one_.x1_,.d ki a.one_.x2_],.box 7 3 [.d ki 0],.box 6 35 [.d ki 0,.d ki 0,.d (kL (kR aH)) [],.d (kL (kR aB)) [],.d (kL (kR aD)) [],.d (kL (kR aB)) []]]) (out':=.d (tup [])) [] [] [] [0,1,2,3] [0,1,2,3] u (cc.okR q) b155 (oE1 tm oE0) u u u u u u u u) (s1 u)<|.nil)<|pSeq<|sx (c3<|cr (oLdPK (n:=1) (k:=2) (m:=6) (d:=(kR av)) (u:=(⟨⟨a.s_.Pc.V,b.1⟩,a.s_.Code,a.s_.Mem,a.s_.Stack,a.s_.Out⟩:al)) pt35 u u (by kernel_rfl) t35 tm) (s1 u)<|cwn (oStP (n:=3) (k:=0) (m:=6) (d:=(kR av)) (u:=(⟨⟨a.s_.Pc.V,b.1⟩,a.s_.Code,a.s_.Mem,a.s_.Stack,a.s_.Out⟩:al)) pt35 u u u z35 tm tm) (s2 u u)<|cwn (oSt (n:=2) (k:=0) u u u u z3 tm (cI (by decide))) (s1 u)<|.nil)<|wRet ?_
       obtain rfl:=so h
       exact pDret (.inl u) (.boxP (n:=3) (d:=(kR av)) (u:=(⟨⟨a.s_.Pc.V,b.1⟩,a.s_.Code,a.s_.Mem,a.s_.Stack,a.s_.Out⟩:al)) u u pt35 u t35<|.boxV (n:=2) u u t3<|.nil)
theorem eT.ok(h:eT.f o a1 a2=some r):FnA PP 74 [(kR aC).sig o,(kR bn).sig a1,(kR av).sig a2] (tup [(kR av).sig r.1,ki.sig r.2.1,ki.sig r.2.2]):=by
 refine fJ Tryz.func74 u fun H0 w0=>?_
 unfold eT.f at h
 refine sx (c3<|aL 6 Z35 ze35 zl35<|c2<|.nil)<|wSeq<|wSeq<|bx h fun p g h=>rx (c1<|cC (ck.ok g)<|c1<|.nil)<|pSeq<|sx (c2<|.nil)<|jx h (fun a h=>?_) fun a h=>?_
 ·refine wh a u<|wSkip<|pSeq<|wSeq<|wSeq<|bx h fun q i h=>rx (c1<|cC (er.ok i)<|c4<|c1<|.nil)<|pSeq<|sx (c2<|.nil)<|jx h (fun b h=>?_) fun b h=>?_
  ·refine wh b u<|wSkip<|pSeq<|wSeq<|wSeq<|bx h fun s j h=>rx (c2<|cC (fe.ok j)<|c1<|.nil)<|pSeq<|jx h (fun c h=>?_) fun c h=>?_
   ·refine wb c u<|sx (cp (oBuild (fs:=av) (u:=⟨(⟨0,0⟩:aG),[],[],[],[]⟩) u ze35 pl35 po35 (.ze (zc:=[(.int .i64 0),(.int .i64 0)]) gx (gL zL (gL zL (gL zL (gL zL .nil)))))) tv<|cwn (oStP (n:=0) (k:=0) (m:=6) (d:=(kR av)) (u:=(⟨(⟨0,0⟩:aG),[],[],[],[]⟩:al)) pt35 u u u z35 tm tm) (s2 u u)<|c2<|.nil)<|wRet<|pThenR ?_
    obtain rfl:=so h
    exact pRn (.inl u) u u (.boxP (n:=0) (d:=(kR av)) (u:=(⟨⟨0,0⟩,[],[],[],[]⟩:al)) u u pt35 u t35<|.tmp u<|.tmp u<|.nil)
   ·refine wc c u<|wSkip<|pSeq<|wSeq<|bx h fun e l h=>rx (c3<|cC (dO.ok l)<|c3<|aL 12 Z35 ze35 zl35<|cwn (oStP (n:=0) (k:=0) (m:=6) (d:=(kR av)) (u:=e.1) pt35 u u u z35 tm tm) (s2 u u)<|c1<|.nil)<|pSeq<|sx (lP 0 0 6 (kR av) e.1 pt35 u u u t35 u<|c1<|cwn (oStP (n:=1) (k:=0) (m:=6) (d:=(kR av)) (u:=e.1) pt35 u u u z35 tm tm) (s2 u u)<|c2<|.nil)<|wRet ?_
    obtain rfl:=so h
    exact pRn (.inl u) u u (.boxP (n:=1) (d:=(kR av)) (u:=e.1) u u pt35 u t35<|.tmp u<|.tmp u<|.nil)
  ·refine wg b u<|sx (cp (oBuild (fs:=av) (u:=⟨(⟨0,0⟩:aG),[],[],[],[]⟩) u ze35 pl35 po35 (.ze (zc:=[(.int .i64 0),(.int .i64 0)]) gx (gL zL (gL zL (gL zL (gL zL .nil)))))) tv<|c1<|cwn (oStP (n:=0) (k:=0) (m:=6) (d:=(kR av)) (u:=(⟨(⟨0,0⟩:aG),[],[],[],[]⟩:al)) pt35 u u u z35 tm tm) (s2 u u)<|c2<|.nil)<|wRet<|pThenR ?_
   obtain rfl:=so h
   exact pRn (.inl u) u u (.boxP (n:=0) (d:=(kR av)) (u:=(⟨⟨0,0⟩,[],[],[],[]⟩:al)) u u pt35 u t35<|.tmp u<|.tmp u<|.nil)
 ·refine wg a u<|sx (cp (oBuild (fs:=av) (u:=⟨(⟨0,0⟩:aG),[],[],[],[]⟩) u ze35 pl35 po35 (.ze (zc:=[(.int .i64 0),(.int .i64 0)]) gx (gL zL (gL zL (gL zL (gL zL .nil)))))) tv<|c1<|cwn (oStP (n:=0) (k:=0) (m:=6) (d:=(kR av)) (u:=(⟨(⟨0,0⟩:aG),[],[],[],[]⟩:al)) pt35 u u u z35 tm tm) (s2 u u)<|c2<|.nil)<|wRet<|pThenR ?_
  obtain rfl:=so h
  exact pRn (.inl u) u u (.boxP (n:=0) (d:=(kR av)) (u:=(⟨⟨0,0⟩,[],[],[],[]⟩:al)) u u pt35 u t35<|.tmp u<|.tmp u<|.nil)
theorem gj.ok(h:gj.f j a1 a2 a3=some r):FnA PP 36 [(kR aC).sig j,(kR bn).sig a1,(kR av).sig a2,ki.sig a3] (ki.sig r):=by
 refine fJ Tryz.func36 u fun H0 w0=>?_
 unfold gj.f at h
 refine sx (c4<|.nil)<|wSeq<|wSeq<|bx h fun e g h=>rx (c3<|cC (eT.ok g)<|c4<|aL 9 Z35 ze35 zl35<|cwn (oStP (n:=0) (k:=0) (m:=6) (d:=(kR av)) (u:=e.1) pt35 u u u z35 tm tm) (s2 u u)<|c2<|.nil)<|pSeq<|sx (c2<|.nil)<|jx h (fun a h=>?_) fun a h=>?_
 ·refine wh a u<|wSkip<|pSeq<|wSeq<|wB h (fun c=>[(28,.d (kB.sig c))]) (fun c=>[.box 9 35 (L35 e.1)]) (fun l h=>?_) fun c h=>?_
  ·refine jx h (fun i h=>?_) fun i h=>?_
   ·exact ej (c6<|.nil) (so h) (sb u) u
   ·exact ej (c6<|.nil) (so h) (sb u) u
  ·refine jx h (fun b h=>?_) fun b h=>?_
   ·refine wb b u<|sx (c1<|.nil)<|wRet<|pThenR ?_
    obtain rfl:=so h
    exact pT u u
   ·refine wc b u<|wSkip<|pSeq<|sx (c1<|.nil)<|wRet ?_
    obtain rfl:=so h
    exact pT u u
 ·refine wg a u<|sx (c2<|.nil)<|wRet<|pThenR ?_
  obtain rfl:=so h
  exact pT u u
theorem bR.ok{a1:Int} {a2:az} {a3:ct} {a4:al}:FnYN PP 75 (fun z=>(kR av).sig z) (fun z=>ki.sig z) [.d (sP ki a1),.d (sP (kR aC) a2),.d (sP (kR bn) a3),.p 70400 0] [.box 70400 35 (L35 a4)] (fun {σ} a_y a_s=>bR.f a_y a_s a1 a2 a3 a4):=by
 refine fnIntroYN 7777 Tryz.func75 u (by kernel_rfl) u (fun σ A a_y a_s a_r h bs X H0 w0=>?_)
 replace h:bR.f a_y a_s a1 a2 a3 a4=some a_r:=h
 unfold bR.f at h
 refine wSeq<|sx (c2<|.nil) ?_
 obtain⟨x,h,s⟩:=bd h
 refine wK2 (fun b e=>.inr (b,e)=x) (fun b e=>[(0,.d (sYield PP A a_y (fun z=>(kR av).sig z) (fun z=>ki.sig z))),(4,.p 70400 0)]) (fun b e=>[.abs 7777 A e,.box 70400 35 (L35 b)]) ?_ ?_
 ·refine wBlock (wLoop ?_)
  refine lW (pc3 x (fun a q c=>[(0,.d (sYield PP A a_y (fun z=>(kR av).sig z) (fun z=>ki.sig z))),(2,.d (sP (kR aC) a2)),(3,.d (sP (kR bn) a3)),(4,.p 70400 0),(9,.d (ki.sig a1)),(10,.d (ki.sig c))]) (fun a q c=>[.abs 7777 A q,.box 70400 35 (L35 a)]) (bR.l0.partial_correctness a_y a1 a2 a3) ?_ _ _ _ h) ⟨u,u,u,u,u,u,tv⟩ u
  clear h
  intro f' ih a q c h
  refine sx (c1<|.nil)<|wSeq<|jx h (fun l h=>?_) fun l h=>?_
  ·refine wd l u<|wSkip<|pSeq<|wSeq<|wBlock<|wSeq<|bx h fun g t h=>rx (c2<|lP 1 0 6 (kR av) a pt35 u u u t35 u<|cC (eT.ok t)<|c4<|aL 6 Z35 ze35 zl35<|cwn (oStP (n:=0) (k:=0) (m:=6) (d:=(kR av)) (u:=g.1) pt35 u u u z35 tm tm) (s2 u u)<|c2<|.nil)<|pSeq<|wSeq ?_
   obtain⟨B,h,y⟩:=bd h
   refine wJ2 (fun i j=>(i,j)=B) (fun i j=>[(0,.d (sYield PP A a_y (fun z=>(kR av).sig z) (fun z=>ki.sig z))),(2,.d (sP (kR aC) a2)),(3,.d (sP (kR bn) a3)),(4,.p 70400 0),(6,.p 6 0),(9,.d (ki.sig a1)),(10,.d (ki.sig c)),(28,.d (kB.sig j))]) (fun i j=>[.box 6 35 (L35 g.1),.abs 7777 A i,.box 70400 35 (L35 a)]) ?_ ?_
   ·refine bx h fun C r h=>jx h (fun v h=>?_) fun v h=>?_
    ·exact rx (c1<|lP 2 0 6 (kR av) a pt35 u u u t35 u<|c1<|cm (oYield (n:=1) (id':=23) u r tm tm tm) (s3 u u u)<|c4<|c1<|.nil)<|pSub (Γ':=[(0,.d (sYield PP A a_y (fun z=>(kR av).sig z) (fun z=>ki.sig z))),(2,.d (sP (kR aC) a2)),(3,.d (sP (kR bn) a3)),(4,.p 70400 0),(6,.p 6 0),(9,.d (ki.sig a1)),(10,.d (ki.sig c)),(28,.d (kB.sig true))]) (sb u)<|pRen 23 7777 u<|pJ2 _ _ (so h) (sb u) u
    ·exact rx (c1<|lP 2 0 6 (kR av) a pt35 u u u t35 u<|c1<|cm (oYield (n:=1) (id':=23) u r tm tm tm) (s3 u u u)<|c4<|c1<|.nil)<|pSub (Γ':=[(0,.d (sYield PP A a_y (fun z=>(kR av).sig z) (fun z=>ki.sig z))),(2,.d (sP (kR aC) a2)),(3,.d (sP (kR bn) a3)),(4,.p 70400 0),(6,.p 6 0),(9,.d (ki.sig a1)),(10,.d (ki.sig c)),(28,.d (kB.sig (!decide (g.2.1=0))))]) (sb u)<|pRen 23 7777 u<|pJ2 _ _ (so h) (sb u) u
   ·rintro i j rfl
    replace h:=y
    refine jx h (fun o h=>?_) fun o h=>?_
    ·refine wb o u<|wRet<|pThenR<|pBlkR<|pThenR<|pThenR<|pBlkR<|pThenR ?_
     obtain rfl:=so h
     replace h:=s
     refine pThenR ?_
     obtain rfl:=so h
     exact pRYN (n:=1) (.inl u) u u u
    ·exact wc o u<|wSkip<|pSeq<|rx (lP 0 0 6 (kR av) g.1 pt35 u u u t35 u<|cwn (oStP (n:=2) (k:=0) (m:=6) (d:=(kR av)) (u:=g.1) pt35 u u u z35 tm tm) (s2 u u)<|.nil)<|pBlkN<|pSeq<|rx (c2<|.nil)<|pDrop (.cons _ (.cons_cons _ (.cons_cons _ .slnil)))<|pLoop (lW (ih _ _ _ h) ⟨u,u,u,u,u,u,tv⟩ u)
  ·exact we l u<|wExit<|pThenX<|pThenX<|pBlkX<|pJ2 _ _ (so h) (sb u) u
 ·rintro b e rfl
  replace h:=s
  refine pSeq<|bx h fun D w h=>rx (c1<|lP 1 0 6 (kR av) b pt35 u u u t35 u<|cm (oYield (n:=0) (id':=33) u w tm tm (cI (by decide))) (s2 u u)<|.nil) ?_
  obtain rfl:=so h
  exact pRYN (n:=0) (.inr u) u u u
theorem gh.ok(h:gh.f a a1 a2 a3=some r):FnS PP 37 [.d ((kR aC).sig a),.d ((kR bn).sig a1),.d ((kR av).sig a2),.d (ki.sig a3)] [] [] (.f [6] (sCloN 75 [some (sP ki r.1),some (sP (kR aC) r.2.1),some (sP (kR bn) r.2.2.1),none])) [.box 6 35 (L35 r.2.2.2)]:=by
 refine fnIntroS Tryz.func37 u (by kernel_rfl) fun X H0 w0 pv=>?_
 unfold gh.f at h
 refine sx (c2<|cw (oBoxP (id:=6) (d:=(kR av)) (ls:=[.d ki a2.Pc.V,.d ki a2.Pc.L,.d (kL (kR aH)) a2.Code,.d (kL (kR aB)) a2.Mem,.d (kL (kR aD)) a2.Stack,.d (kL (kR aB)) a2.Out]) pt35 u tm) (s1 u)<|c1<|cp (oAs cV) tv<|.nil)<|sx (cp (oMkN (ids:=[6]) (caps:=[some (sP ki a3),some (sP (kR aC) a),some (sP (kR bn) a1),none]) u (oNs tm (oNs tm (oNs tm (oNp tm oN0))))) ⟨u,u,u,u,tv⟩<|c1<|.nil)<|wRet ?_
 obtain rfl:=so h
 exact pSF [0] u u (.inl u) u u
theorem dL.ok(h:dL.f v a1 a2 a3=some r):FnA PP 18 [(kR aC).sig v,(kR bn).sig a1,(kR av).sig a2,ki.sig a3] (tup [(kR av).sig r.1,ki.sig r.2.1,ki.sig r.2.2]):=by
 refine fJ Tryz.func18 u fun H0 w0=>?_
 unfold dL.f at h
 refine sx (c2<|cw (oBoxP (id:=6) (d:=(kR av)) (ls:=[.d ki a2.Pc.V,.d ki a2.Pc.L,.d (kL (kR aH)) a2.Code,.d (kL (kR aB)) a2.Mem,.d (kL (kR aD)) a2.Stack,.d (kL (kR aB)) a2.Out]) pt35 u tm) (s1 u)<|aL 8 Z35 ze35 zl35<|c2<|.nil)<|wSeq<|wSeq<|bx h fun w q h=>rx (c2<|lP 1 0 6 (kR av) a2 pt35 u u u t35 u<|c1<|cC (gj.ok q)<|c1<|.nil)<|pSeq<|sx (c2<|.nil)<|jx h (fun e h=>?_) fun e h=>?_
 ·refine wh e u<|wSkip<|pSeq<|sx (cw (oAlloc (id:=12) (ls:=[.d ki 0]) ze3 (fun g=>⟨[(.int .i64 0)],_,u,zI_i64 g.H,u⟩)) tv<|cwn (oSt (n:=0) (k:=0) u u u u z3 tm (cI (by decide))) (s1 u)<|.nil)<|wSeq<|wSeq<|bx h fun a s h=>rx (c2<|lP 2 0 6 (kR av) a2 pt35 u u u t35 u<|c1<|cm (oCallS (rest:=[.box 12 3 [.d ki 0],.box 8 35 [.d ki 0,.d ki 0,.d (kL (kR aH)) [],.d (kL (kR aB)) [],.d (kL (kR aD)) [],.d (kL (kR aB)) []],.box 6 35 (L35 a2)]) (R':=[.box 350160 35 (L35 a.2.2.2),.box 12 3 [.d ki 0],.box 8 35 [.d ki 0,.d ki 0,.d (kL (kR aH)) [],.d (kL (kR aB)) [],.d (kL (kR aD)) [],.d (kL (kR aB)) []],.box 6 35 (L35 a2)]) (out':=.f [350160] (sCloN 75 [some (sP ki a.1),some (sP (kR aC) a.2.1),some (sP (kR bn) a.2.2.1),none])) [] [(6,350160)] [] [0,1,2] [0,1,2,3] u (gh.ok s) b37 (oE1 tm (oE1 tm (oE1 tm (oE1 tm oE0)))) u u u u u u u u) ⟨u,u,u,u,tv⟩<|.nil)<|pSeq<|wBlock<|wPick (R':=[.box 12 3 [.d ki 0],.box 8 35 [.d ki 0,.d ki 0,.d (kL (kR aH)) [],.d (kL (kR aB)) [],.d (kL (kR aD)) [],.d (kL (kR aB)) []],.box 6 35 (L35 a2),.box 350160 35 (L35 a.2.2.2)]) [1,2,3,0] u u<|bx h fun j t h=>wRangeN (Γ':=[(6,.p 6 0),(8,.p 8 0),(12,.p 12 0)]) (Γ2:=fun b i=>[(6,.p 6 0),(8,.p 8 0),(12,.p 12 0),(13,.p 13 0),(14,.d (ki.sig i))]) (caps:=[some (sP ki a.1),some (sP (kR aC) a.2.1),some (sP (kR bn) a.2.2.1),none]) (kn:=[70400]) (Rc:=[.box 70400 35 (L35 a.2.2.2)]) [(70400,350160)] (fun(c:al×Int×Int×Int×(List aI)×(List aG)×(List aF)×(List aG))=>[.box 12 3 [.d ki c.2.1],.box 8 35 [.d ki 0,.d ki 0,.d (kL (kR aH)) [],.d (kL (kR aB)) [],.d (kL (kR aD)) [],.d (kL (kR aB)) []],.box 6 35 (L35 c.1)]) (fun(c:al×Int×Int×Int×(List aI)×(List aG)×(List aF)×(List aG)) b i=>[.box 13 35 (L35 b),.box 12 3 [.d ki c.2.1],.box 8 35 [.d ki 0,.d ki 0,.d (kL (kR aH)) [],.d (kL (kR aB)) [],.d (kL (kR aD)) [],.d (kL (kR aB)) []],.box 6 35 (L35 c.1)]) [] [6,8,12] (dL.y0) (a2,0,a2.Pc.V,a2.Pc.L,a2.Code,a2.Mem,a2.Stack,a2.Out) u (bR.ok (a1:=a.1) (a2:=a.2.1) (a3:=a.2.2.1) (a4:=a.2.2.2)) u b75 t u ⟨u,u,u,tv⟩ u u u ?_ ?_ ?_
  ·intro X H0 w0 l pv c b i
   exact sx (aL 13 Z35 ze35 zl35<|cwn (oStP (n:=0) (k:=0) (m:=6) (d:=(kR av)) (u:=b) pt35 u u u z35 tm tm) (s2 u u)<|.nil)<|rx (c1<|.nil)<|qA ⟨u,u,u,u,u,tv⟩
  ·intro X H0 w0 l pv c b i o h
   unfold dL.y0 at h
   refine wBlock<|rx (lP 0 0 6 (kR av) b pt35 u u u t35 u<|c1<|cwn (oStP (n:=3) (k:=0) (m:=6) (d:=(kR av)) (u:=b) pt35 u u u z35 tm tm) (s2 u u)<|cwn (oSt (n:=1) (k:=0) u u u u z3 tm tm) (s2 u u)<|.nil)<|pBlkN<|pDrop (.cons _ (.cons_cons _ (.cons_cons _ (.cons_cons _ .slnil)))) ?_
   obtain rfl:=so h
   exact qN
  ·obtain⟨hj7,h⟩|⟨hj7,h⟩:=ic h
   ·refine jp0 hj7<|pBlkN<|pSeq<|wSeq<|wFrzV 12 (n:=0) (id:=12) u u u<|rdx hm (lP 1 0 6 (kR av) j.1.1 pt35 u u u t35 u<|c1<|cwn (oStP (n:=0) (k:=0) (m:=6) (d:=(kR av)) (u:=j.1.1) pt35 u u u z35 tm tm) (s2 u u)<|c2<|.nil)<|pSeq<|wRet ?_
    obtain rfl:=so h
    exact pRn (.inl u) u u (.boxP (n:=0) (d:=(kR av)) (u:=j.1.1) u u pt35 u t35<|.tmp u<|.tmp u<|.nil)
   ·cases h
 ·refine wg e u<|sx (cp (oBuild (fs:=av) (u:=⟨(⟨0,0⟩:aG),[],[],[],[]⟩) u ze35 pl35 po35 (.ze (zc:=[(.int .i64 0),(.int .i64 0)]) gx (gL zL (gL zL (gL zL (gL zL .nil)))))) tv<|c1<|cwn (oStP (n:=0) (k:=0) (m:=6) (d:=(kR av)) (u:=(⟨(⟨0,0⟩:aG),[],[],[],[]⟩:al)) pt35 u u u z35 tm tm) (s2 u u)<|c2<|.nil)<|wRet<|pThenR ?_
  obtain rfl:=so h
  exact pRn (.inl u) u u (.boxP (n:=0) (d:=(kR av)) (u:=(⟨⟨0,0⟩,[],[],[],[]⟩:al)) u u pt35 u t35<|.tmp u<|.tmp u<|.nil)
theorem b8.ok(h:b8.f b a1=some r):FnA PP 70 [(kR cR).sig b,(kR av).sig a1] (kB.sig r):=by
 refine fJ Tryz.func70 u fun H0 w0=>?_
 unfold b8.f at h
 refine sx (c3<|.nil)<|wSeq<|bx h fun c a h=>rx (c6<|c1<|cC (eE.ok a)<|c4<|c1<|.nil)<|pSeq<|sx (c2<|.nil)<|wRet ?_
 obtain rfl:=so h
 exact pT u u
theorem et.ok(h:et.f e a1=some r):FnA PP 78 [(kR aH).sig e,(kR aH).sig a1] (kB.sig r):=by
 refine fJ Tryz.func78 u fun H0 w0=>?_
 unfold et.f at h
 refine sx (c3<|.nil)<|wB h (fun a=>[(4,.d (kB.sig a))]) (fun a=>[]) (fun g h=>?_) fun a h=>?_
 ·refine jx h (fun b h=>?_) fun b h=>?_
  ·refine jx h (fun c h=>?_) fun c h=>?_
   ·exact ej (c12<|c6<|.nil) (so h) (sb u) u
   ·exact ej (c12<|c6<|.nil) (so h) (sb u) u
  ·exact ej (c8<|c2<|csU u u<|csU u u<|csU u u<|csU u u<|csU u u<|c3<|.nil) (so h) (sb u) u
 ·refine wRet ?_
  obtain rfl:=so h
  exact pT u u
theorem eQ.ok(h:eQ.f a=some r):FnA PP 79 [(kR aH).sig a] (ki.sig r):=by
 refine fJ Tryz.func79 u fun H0 w0=>?_
 unfold eQ.f at h
 refine sx (c2<|.nil)<|sx (c3<|.nil)<|wRet ?_
 obtain rfl:=so h
 exact pT u u
theorem fc.ok(h:fc.f a a1=some r):FnA PP 80 [(kR aH).sig a,(kR aH).sig a1] (kB.sig r):=by
 refine fJ Tryz.func80 u fun H0 w0=>?_
 unfold fc.f at h
 refine sx (c3<|.nil)<|sx (c6<|.nil)<|wRet ?_
 obtain rfl:=so h
 exact pT u u
theorem dW.ok(h:dW.f=some r):FnA PP 43 [] ((kR dX).sig r):=by
 refine fJ Tryz.func43 u fun H0 w0=>?_
 unfold dW.f at h
 refine sx (aL 0 Z98 ze98 zl98<|.nil)<|sx (cp (oBuild (fs:=dX) (u:=⟨(some et.f),(some eQ.f),(some fc.f)⟩) u ze98 pl98 po98 (.op (zc:=[.nilFunc]) (oSome (oFn b78 (rl2n et.ok))) u (.op (zc:=[.nilFunc]) (oSome (oFn b79 (rl1n eQ.ok))) u (.op (zc:=[.nilFunc]) (oSome (oFn b80 (rl2n fc.ok))) u .nil)))) tv<|sA 0 dX u u z98 u u<|.nil)<|wRet ?_
 obtain rfl:=so h
 exact pR1 (.inl u) u (.box (n:=0) (fs:=dX) (u:=⟨(some et.f),(some eQ.f),(some fc.f)⟩) u u ⟨u,u,u,tv⟩ t98<|.nil)
theorem bi.ok(h:bi.f c a1=some r):FnA PP 42 [(kR dX).sig c,(kL (kL (kR aH))).sig a1] ((kL ki).sig r):=by
 refine fJ Tryz.func42 u fun H0 w0=>?_
 unfold bi.f at h
 refine sx (c1<|cp (oAs cV) tv<|.nil)<|sx (cp (oAs cV) tv<|.nil)<|wSeq<|sx (c3<|.nil)<|wNil ki 3 1005 5 u u<|kX h (fun j=>[(5,.v 1005)]) (fun j=>[.row 1005 3 ki j]) (fun y h=>?_) fun j h=>?_
 ·refine wBlock (wLoop ?_)
  refine lW (pc2 y (fun k a=>[(2,.d (sP (kR dX) c)),(5,.v 1005),(10,.d ((kL (kL (kR aH))).sig a1)),(11,.d (ki.sig (a1.length:Int))),(12,.d (ki.sig a))]) (fun k a=>[.row 1005 3 ki k]) (bi.l2.partial_correctness c a1) ?_ _ _ h) ⟨u,u,u,u,u,tv⟩ u
  clear h
  intro f' ih k a h
  refine sx (c1<|.nil)<|wSeq<|jx h (fun e h=>?_) fun e h=>?_
  ·refine wd e u<|wSkip<|pSeq<|wSeq<|wBlock<|wSeq<|bx h fun b p h=>rx (iX u145 z31 p u u<|c2<|.nil)<|pSeq<|sx (c3<|.nil)<|kX h (fun l=>[(2,.d (sP (kR dX) c)),(5,.v 1005),(10,.d ((kL (kL (kR aH))).sig a1)),(11,.d (ki.sig (a1.length:Int))),(12,.d (ki.sig a))]) (fun l=>[.row 1005 3 ki l]) (fun z h=>?_) fun l h=>?_
   ·refine wBlock (wLoop ?_)
    refine lW (pc2 z (fun m i=>[(2,.d (sP (kR dX) c)),(5,.v 1005),(10,.d ((kL (kL (kR aH))).sig a1)),(11,.d (ki.sig (a1.length:Int))),(12,.d (ki.sig a)),(16,.d ((kL (kR aH)).sig b)),(17,.d (ki.sig (b.length:Int))),(18,.d (ki.sig i))]) (fun m i=>[.row 1005 3 ki m]) (bi.l3.partial_correctness c b) ?_ _ _ h) ⟨u,u,u,u,u,u,u,u,tv⟩ u
    clear h
    intro f' ih m i h
    refine sx (c1<|.nil)<|wSeq<|jx h (fun g h=>?_) fun g h=>?_
    ·exact wd g u<|wSkip<|pSeq<|wSeq<|wBlock<|wSeq<|bx h fun o q h=>rx (iX u31 z73 q u u<|c1<|aL 9 Z73 ze73 zl73<|sA 0 aH u u z73 u u<|.nil)<|pSeq<|bx h fun x s h=>bx h fun A t h=>ix h fun w h=>rx (c3<|lA 0 aH ⟨o.Op,o.N,o.L⟩ u ⟨u,u,u,tv⟩ t73 u<|cp (oCallV u (rl1i (f:=x) t) (oGot s tm) (oc tm o0)) (s2 u u)<|cp (oLit (d:=ki) el56 (by decide) u u u (e1 tm e0)) (s1 u)<|cw (oApp (n:=1) (id':=28) el56 (by decide) u (by decide) w tm tm) (s2 u u)<|c1<|.nil)<|pBlkN<|pSeq<|rx (c2<|.nil)<|pDrop (.cons _ (.cons_cons _ .slnil))<|pSub (Γ':=[(2,.d (sP (kR dX) c)),(5,.v 28),(10,.d ((kL (kL (kR aH))).sig a1)),(11,.d (ki.sig (a1.length:Int))),(12,.d (ki.sig a)),(16,.d ((kL (kR aH)).sig b)),(17,.d (ki.sig (b.length:Int))),(18,.d (ki.sig (IntKind.i64.wrap (i+1))))]) (sb u)<|pRen 28 1005 u<|pLoop (lW (ih _ _ h) ⟨u,u,u,u,u,u,u,u,tv⟩ u)
    ·exact we g u<|wExit<|pThenX<|pThenX<|pBlkX<|pJ1 _ (so h) (sb u) u
   ·exact pBlkN<|pSeq<|rx (c2<|.nil)<|pLoop (lW (ih _ _ h) ⟨u,u,u,u,u,tv⟩ u)
  ·exact we e u<|wExit<|pThenX<|pThenX<|pBlkX<|pJ1 _ (so h) (sb u) u
 ·refine pSeq<|sx (c2<|.nil)<|wFrzR (n:=0) (id:=1005) [4] u u ⟨u,tv⟩<|wRet ?_
  obtain rfl:=so h
  exact pT u u
theorem gl.ok(h:gl.f a a1=some r):FnA PP 81 [(kR aB).sig a,(kR aB).sig a1] (kB.sig r):=by
 refine fJ Tryz.func81 u fun H0 w0=>?_
 unfold gl.f at h
 refine sx (c3<|.nil)<|sx (c1<|.nil)<|wRet ?_
 obtain rfl:=so h
 exact pT u u
theorem f7.ok(h:f7.f a=some r):FnA PP 82 [(kR aB).sig a] (ki.sig r):=by
 refine fJ Tryz.func82 u fun H0 w0=>?_
 unfold f7.f at h
 refine sx (c2<|.nil)<|sx (c3<|.nil)<|wRet ?_
 obtain rfl:=so h
 exact pT u u
theorem gm.ok(h:gm.f a a1=some r):FnA PP 83 [(kR aB).sig a,(kR aB).sig a1] (kB.sig r):=by
 refine fJ Tryz.func83 u fun H0 w0=>?_
 unfold gm.f at h
 refine sx (c3<|.nil)<|sx (c6<|.nil)<|wRet ?_
 obtain rfl:=so h
 exact pT u u
theorem fO.ok(h:fO.f=some r):FnA PP 45 [] ((kR dY).sig r):=by
 refine fJ Tryz.func45 u fun H0 w0=>?_
 unfold fO.f at h
 refine sx (aL 0 Z104 ze104 zl104<|.nil)<|sx (cp (oBuild (fs:=dY) (u:=⟨(some gl.f),(some f7.f),(some gm.f)⟩) u ze104 pl104 po104 (.op (zc:=[.nilFunc]) (oSome (oFn b81 (rl2n gl.ok))) u (.op (zc:=[.nilFunc]) (oSome (oFn b82 (rl1n f7.ok))) u (.op (zc:=[.nilFunc]) (oSome (oFn b83 (rl2n gm.ok))) u .nil)))) tv<|sA 0 dY u u z104 u u<|.nil)<|wRet ?_
 obtain rfl:=so h
 exact pR1 (.inl u) u (.box (n:=0) (fs:=dY) (u:=⟨(some gl.f),(some f7.f),(some gm.f)⟩) u u ⟨u,u,u,tv⟩ t104<|.nil)
theorem bg.ok(h:bg.f c a1=some r):FnA PP 44 [(kR dY).sig c,(kL (kL (kR aB))).sig a1] ((kL ki).sig r):=by
 refine fJ Tryz.func44 u fun H0 w0=>?_
 unfold bg.f at h
 refine sx (c1<|cp (oAs cV) tv<|.nil)<|sx (cp (oAs cV) tv<|.nil)<|wSeq<|sx (c3<|.nil)<|wNil ki 3 1005 5 u u<|kX h (fun j=>[(5,.v 1005)]) (fun j=>[.row 1005 3 ki j]) (fun y h=>?_) fun j h=>?_
 ·refine wBlock (wLoop ?_)
  refine lW (pc2 y (fun k a=>[(2,.d (sP (kR dY) c)),(5,.v 1005),(10,.d ((kL (kL (kR aB))).sig a1)),(11,.d (ki.sig (a1.length:Int))),(12,.d (ki.sig a))]) (fun k a=>[.row 1005 3 ki k]) (bg.l2.partial_correctness c a1) ?_ _ _ h) ⟨u,u,u,u,u,tv⟩ u
  clear h
  intro f' ih k a h
  refine sx (c1<|.nil)<|wSeq<|jx h (fun e h=>?_) fun e h=>?_
  ·refine wd e u<|wSkip<|pSeq<|wSeq<|wBlock<|wSeq<|bx h fun b p h=>rx (iX u146 z32 p u u<|c2<|.nil)<|pSeq<|sx (c3<|.nil)<|kX h (fun l=>[(2,.d (sP (kR dY) c)),(5,.v 1005),(10,.d ((kL (kL (kR aB))).sig a1)),(11,.d (ki.sig (a1.length:Int))),(12,.d (ki.sig a))]) (fun l=>[.row 1005 3 ki l]) (fun z h=>?_) fun l h=>?_
   ·refine wBlock (wLoop ?_)
    refine lW (pc2 z (fun m i=>[(2,.d (sP (kR dY) c)),(5,.v 1005),(10,.d ((kL (kL (kR aB))).sig a1)),(11,.d (ki.sig (a1.length:Int))),(12,.d (ki.sig a)),(16,.d ((kL (kR aB)).sig b)),(17,.d (ki.sig (b.length:Int))),(18,.d (ki.sig i))]) (fun m i=>[.row 1005 3 ki m]) (bg.l3.partial_correctness c b) ?_ _ _ h) ⟨u,u,u,u,u,u,u,u,tv⟩ u
    clear h
    intro f' ih m i h
    refine sx (c1<|.nil)<|wSeq<|jx h (fun g h=>?_) fun g h=>?_
    ·exact wd g u<|wSkip<|pSeq<|wSeq<|wBlock<|wSeq<|bx h fun o q h=>rx (iX u32 z30 q u u<|c1<|aL 9 Z30 ze30 zl30<|sA 0 aB u u z30 u u<|.nil)<|pSeq<|bx h fun x s h=>bx h fun A t h=>ix h fun w h=>rx (c3<|lA 0 aB ⟨o.V,o.L⟩ u ⟨u,u,tv⟩ t30 u<|cp (oCallV u (rl1i (f:=x) t) (oGot s tm) (oc tm o0)) (s2 u u)<|cp (oLit (d:=ki) el56 (by decide) u u u (e1 tm e0)) (s1 u)<|cw (oApp (n:=1) (id':=28) el56 (by decide) u (by decide) w tm tm) (s2 u u)<|c1<|.nil)<|pBlkN<|pSeq<|rx (c2<|.nil)<|pDrop (.cons _ (.cons_cons _ .slnil))<|pSub (Γ':=[(2,.d (sP (kR dY) c)),(5,.v 28),(10,.d ((kL (kL (kR aB))).sig a1)),(11,.d (ki.sig (a1.length:Int))),(12,.d (ki.sig a)),(16,.d ((kL (kR aB)).sig b)),(17,.d (ki.sig (b.length:Int))),(18,.d (ki.sig (IntKind.i64.wrap (i+1))))]) (sb u)<|pRen 28 1005 u<|pLoop (lW (ih _ _ h) ⟨u,u,u,u,u,u,u,u,tv⟩ u)
    ·exact we g u<|wExit<|pThenX<|pThenX<|pBlkX<|pJ1 _ (so h) (sb u) u
   ·exact pBlkN<|pSeq<|rx (c2<|.nil)<|pLoop (lW (ih _ _ h) ⟨u,u,u,u,u,tv⟩ u)
  ·exact we e u<|wExit<|pThenX<|pThenX<|pBlkX<|pJ1 _ (so h) (sb u) u
 ·refine pSeq<|sx (c2<|.nil)<|wFrzR (n:=0) (id:=1005) [4] u u ⟨u,tv⟩<|wRet ?_
  obtain rfl:=so h
  exact pT u u
theorem gn.ok(h:gn.f a a1=some r):FnA PP 84 [(kR aD).sig a,(kR aD).sig a1] (kB.sig r):=by
 refine fJ Tryz.func84 u fun H0 w0=>?_
 unfold gn.f at h
 refine sx (c3<|.nil)<|sx (c4<|cp (oBEq u4 u tm tm) (s2 u u)<|c1<|.nil)<|wRet ?_
 obtain rfl:=so h
 exact pT u u
theorem f8.ok(h:f8.f a=some r):FnA PP 85 [(kR aD).sig a] (ki.sig r):=by
 refine fJ Tryz.func85 u fun H0 w0=>?_
 unfold f8.f at h
 refine sx (c2<|.nil)<|sx (c3<|.nil)<|wRet ?_
 obtain rfl:=so h
 exact pT u u
theorem gp.ok(h:gp.f a a1=some r):FnA PP 86 [(kR aD).sig a,(kR aD).sig a1] (kB.sig r):=by
 refine fJ Tryz.func86 u fun H0 w0=>?_
 unfold gp.f at h
 refine sx (c3<|.nil)<|sx (c6<|.nil)<|wRet ?_
 obtain rfl:=so h
 exact pT u u
theorem fD.ok(h:fD.f=some r):FnA PP 47 [] ((kR dZ).sig r):=by
 refine fJ Tryz.func47 u fun H0 w0=>?_
 unfold fD.f at h
 refine sx (aL 0 Z110 ze110 zl110<|.nil)<|sx (cp (oBuild (fs:=dZ) (u:=⟨(some gn.f),(some f8.f),(some gp.f)⟩) u ze110 pl110 po110 (.op (zc:=[.nilFunc]) (oSome (oFn b84 (rl2n gn.ok))) u (.op (zc:=[.nilFunc]) (oSome (oFn b85 (rl1n f8.ok))) u (.op (zc:=[.nilFunc]) (oSome (oFn b86 (rl2n gp.ok))) u .nil)))) tv<|sA 0 dZ u u z110 u u<|.nil)<|wRet ?_
 obtain rfl:=so h
 exact pR1 (.inl u) u (.box (n:=0) (fs:=dZ) (u:=⟨(some gn.f),(some f8.f),(some gp.f)⟩) u u ⟨u,u,u,tv⟩ t110<|.nil)
theorem bk.ok(h:bk.f c a1=some r):FnA PP 46 [(kR dZ).sig c,(kL (kL (kR aD))).sig a1] ((kL ki).sig r):=by
 refine fJ Tryz.func46 u fun H0 w0=>?_
 unfold bk.f at h
 refine sx (c1<|cp (oAs cV) tv<|.nil)<|sx (cp (oAs cV) tv<|.nil)<|wSeq<|sx (c3<|.nil)<|wNil ki 3 1005 5 u u<|kX h (fun j=>[(5,.v 1005)]) (fun j=>[.row 1005 3 ki j]) (fun y h=>?_) fun j h=>?_
 ·refine wBlock (wLoop ?_)
  refine lW (pc2 y (fun k a=>[(2,.d (sP (kR dZ) c)),(5,.v 1005),(10,.d ((kL (kL (kR aD))).sig a1)),(11,.d (ki.sig (a1.length:Int))),(12,.d (ki.sig a))]) (fun k a=>[.row 1005 3 ki k]) (bk.l2.partial_correctness c a1) ?_ _ _ h) ⟨u,u,u,u,u,tv⟩ u
  clear h
  intro f' ih k a h
  refine sx (c1<|.nil)<|wSeq<|jx h (fun e h=>?_) fun e h=>?_
  ·refine wd e u<|wSkip<|pSeq<|wSeq<|wBlock<|wSeq<|bx h fun b p h=>rx (iX u147 z33 p u u<|c2<|.nil)<|pSeq<|sx (c3<|.nil)<|kX h (fun l=>[(2,.d (sP (kR dZ) c)),(5,.v 1005),(10,.d ((kL (kL (kR aD))).sig a1)),(11,.d (ki.sig (a1.length:Int))),(12,.d (ki.sig a))]) (fun l=>[.row 1005 3 ki l]) (fun z h=>?_) fun l h=>?_
   ·refine wBlock (wLoop ?_)
    refine lW (pc2 z (fun m i=>[(2,.d (sP (kR dZ) c)),(5,.v 1005),(10,.d ((kL (kL (kR aD))).sig a1)),(11,.d (ki.sig (a1.length:Int))),(12,.d (ki.sig a)),(16,.d ((kL (kR aD)).sig b)),(17,.d (ki.sig (b.length:Int))),(18,.d (ki.sig i))]) (fun m i=>[.row 1005 3 ki m]) (bk.l3.partial_correctness c b) ?_ _ _ h) ⟨u,u,u,u,u,u,u,u,tv⟩ u
    clear h
    intro f' ih m i h
    refine sx (c1<|.nil)<|wSeq<|jx h (fun g h=>?_) fun g h=>?_
    ·exact wd g u<|wSkip<|pSeq<|wSeq<|wBlock<|wSeq<|bx h fun o q h=>rx (iX u33 z88 q u u<|c1<|aL 9 Z88 ze88 zl88<|sA 0 aD u u z88 u u<|.nil)<|pSeq<|bx h fun x s h=>bx h fun A t h=>ix h fun w h=>rx (c3<|lA 0 aD ⟨o.Ret,o.V,o.L⟩ u ⟨u,u,u,tv⟩ t88 u<|cp (oCallV u (rl1i (f:=x) t) (oGot s tm) (oc tm o0)) (s2 u u)<|cp (oLit (d:=ki) el56 (by decide) u u u (e1 tm e0)) (s1 u)<|cw (oApp (n:=1) (id':=28) el56 (by decide) u (by decide) w tm tm) (s2 u u)<|c1<|.nil)<|pBlkN<|pSeq<|rx (c2<|.nil)<|pDrop (.cons _ (.cons_cons _ .slnil))<|pSub (Γ':=[(2,.d (sP (kR dZ) c)),(5,.v 28),(10,.d ((kL (kL (kR aD))).sig a1)),(11,.d (ki.sig (a1.length:Int))),(12,.d (ki.sig a)),(16,.d ((kL (kR aD)).sig b)),(17,.d (ki.sig (b.length:Int))),(18,.d (ki.sig (IntKind.i64.wrap (i+1))))]) (sb u)<|pRen 28 1005 u<|pLoop (lW (ih _ _ h) ⟨u,u,u,u,u,u,u,u,tv⟩ u)
    ·exact we g u<|wExit<|pThenX<|pThenX<|pBlkX<|pJ1 _ (so h) (sb u) u
   ·exact pBlkN<|pSeq<|rx (c2<|.nil)<|pLoop (lW (ih _ _ h) ⟨u,u,u,u,u,tv⟩ u)
  ·exact we e u<|wExit<|pThenX<|pThenX<|pBlkX<|pJ1 _ (so h) (sb u) u
 ·refine pSeq<|sx (c2<|.nil)<|wFrzR (n:=0) (id:=1005) [4] u u ⟨u,tv⟩<|wRet ?_
  obtain rfl:=so h
  exact pT u u
theorem eX.ok(h:eX.f a1=some r):FnS PP 77 [.d (sV (.slice none 0 0)),.d (ki.sig a1)] [] [] (.v 80000) [.row 80000 3 ki r]:=by
 refine fnIntroS Tryz.func77 u (by kernel_rfl) fun X H0 w0 pv=>?_
 unfold eX.f at h
 refine sx (cp (oAs cV) tv<|.nil)<|wSeq<|sx (c2<|.nil)<|jx h (fun a h=>?_) fun a h=>?_
 ·refine wd a u ?_
  cases h
 ·refine we a u<|wSkip<|pSeq<|wSeq<|sx (c2<|cp (oCapN u56 tm) (s1 u)<|c1<|cp (oLenL u56 (tmN (d:=ki))) (s1 u)<|c3<|.nil)<|sx (c2<|.nil)<|jx h (fun b h=>?_) fun b h=>?_
  ·refine wd b u<|ix h fun c h=>ix h fun e h=>rx (c2<|cp (oCapN u56 tm) (s1 u)<|cp (oCutN u56 z3 u tm tm) (s2 u u)<|c1<|cw (oAppZ (id:=22) (d:=ki) el56 u3 (by decide) (by decide) ze3 zI_i64 c.1 c.2 tm tm) (s2 u u)<|c1<|cp (oLenL u56 (tmN (d:=ki))) (s1 u)<|cw (oCutR (n:=0) (id':=25) u56 z3 u e.1 e.2 tm tm) (s2 u u)<|c1<|.nil)<|pSeq<|sx (c2<|.nil)<|wRet ?_
   obtain rfl:=so h
   exact pSub (Γ':=[(4,.v 25)]) (sb u)<|pRen 25 80000 u<|pSv [0] u u (.inl u) u u
  ·refine we b u<|wSkip<|pSeq<|sx (c2<|.nil)<|wNil ki 3 9004 4 u u<|wRet ?_
   obtain rfl:=so h
   exact pSub (Γ':=[(4,.v 9004)]) (sb u)<|pRen 9004 80000 u<|pSv [0] u u (.inl u) u u
theorem bp.ok(h:bp.f a=some r):FnA PP 41 [(kL (kL ki)).sig a] ((kL ki).sig r):=by
 refine fJ Tryz.func41 u fun H0 w0=>?_
 unfold bp.f at h
 refine sx (cp (oAs cV) tv<|.nil)<|sx (c1<|.nil)<|wSeq<|sx (c3<|.nil)<|kX h (fun j=>[(0,.d ((kL (kL ki)).sig a)),(3,.d (ki.sig j))]) (fun j=>[]) (fun p h=>?_) fun j h=>?_
 ·refine wBlock (wLoop ?_)
  refine lW (pc2 p (fun g k=>[(0,.d ((kL (kL ki)).sig a)),(3,.d (ki.sig k)),(9,.d ((kL (kL ki)).sig a)),(10,.d (ki.sig (a.length:Int))),(11,.d (ki.sig g))]) (fun g k=>[]) (bp.l0.partial_correctness a) ?_ _ _ h) ⟨u,u,u,u,u,tv⟩ u
  clear h
  intro f' ih g k h
  refine sx (c1<|.nil)<|wSeq<|jx h (fun b h=>?_) fun b h=>?_
  ·refine wd b u<|wSkip<|pSeq<|wB h (fun l=>[(0,.d ((kL (kL ki)).sig a)),(3,.d (ki.sig l)),(9,.d ((kL (kL ki)).sig a)),(10,.d (ki.sig (a.length:Int))),(11,.d (ki.sig g))]) (fun l=>[]) (fun A h=>?_) fun l h=>?_
   ·refine wBlock<|wSeq<|bx h fun y q h=>rx (iX u143 z56 q u u<|c2<|.nil)<|pSeq<|sx (c4<|c1<|.nil)<|sx (c2<|.nil)<|jx h (fun c h=>?_) fun c h=>?_
    ·refine wd c u ?_
     cases h
    ·exact we c u<|wSkip<|pBlkN<|pJ1 _ (so h) (sb u) u
   ·exact rx (c2<|.nil)<|pLoop (lW (ih _ _ h) ⟨u,u,u,u,u,tv⟩ u)
  ·exact we b u<|wExit<|pThenX<|pThenX<|pBlkX<|pJ1 _ (so h) (sb u) u
 ·refine pSeq<|wSeq<|bx h fun x s h=>rx (c1<|cm (oCallS (rest:=[]) (R':=[.row 390040 3 ki x]) (out':=.v 390040) [] [(80000,390040)] [] [] [0] u (eX.ok s) b77 (oE1 cV (oE1 tm oE0)) u u u u u u u u) (s1 u)<|c1<|.nil)<|pSeq<|wSeq<|sx (c3<|.nil)<|wWeak (Γ':=[(6,.v 390040),(25,.d ((kL (kL ki)).sig a)),(26,.d (ki.sig (a.length:Int))),(27,.d (ki.sig 0))]) (sb u)<|wRen 390040 1006 u<|kX h (fun m=>[(6,.v 1006)]) (fun m=>[.row 1006 3 ki m]) (fun p h=>?_) fun m h=>?_
  ·refine wBlock (wLoop ?_)
   refine lW (pc2 p (fun o i=>[(6,.v 1006),(25,.d ((kL (kL ki)).sig a)),(26,.d (ki.sig (a.length:Int))),(27,.d (ki.sig i))]) (fun o i=>[.row 1006 3 ki o]) (bp.l1.partial_correctness a) ?_ _ _ h) ⟨u,u,u,u,tv⟩ u
   clear h
   intro f' ih o i h
   refine sx (c1<|.nil)<|wSeq<|jx h (fun e h=>?_) fun e h=>?_
   ·exact wd e u<|wSkip<|pSeq<|wSeq<|wBlock<|wSeq<|bx h fun z t h=>rx (iX u143 z56 t u u<|c2<|.nil)<|pSeq<|ix h fun w h=>rx (c2<|cw (oApp (n:=0) (id':=33) el56 (by decide) u (by decide) w tm tm) (s2 u u)<|c1<|.nil)<|pBlkN<|pSeq<|rx (c2<|.nil)<|pSub (Γ':=[(6,.v 33),(25,.d ((kL (kL ki)).sig a)),(26,.d (ki.sig (a.length:Int))),(27,.d (ki.sig (IntKind.i64.wrap (i+1))))]) (sb u)<|pRen 33 1006 u<|pLoop (lW (ih _ _ h) ⟨u,u,u,u,tv⟩ u)
   ·exact we e u<|wExit<|pThenX<|pThenX<|pBlkX<|pJ1 _ (so h) (sb u) u
  ·refine pSeq<|sx (c2<|.nil)<|wFrzR (n:=0) (id:=1006) [2] u u ⟨u,tv⟩<|wRet ?_
   obtain rfl:=so h
   exact pT u u
theorem gN.ok(h:gN.f c a1=some r):FnA PP 87 [ki.sig c,sP (kR aC) a1] (kB.sig r):=by
 refine fJ Tryz.func87 u fun H0 w0=>?_
 unfold gN.f at h
 refine sx (c1<|.nil)<|wB h (fun a=>[(3,.d (kB.sig a))]) (fun a=>[]) (fun e h=>?_) fun a h=>?_
 ·refine jx h (fun b h=>?_) fun b h=>?_
  ·exact ej (c8<|c2<|.nil) (so h) (sb u) u
  ·exact ej (c8<|c2<|.nil) (so h) (sb u) u
 ·refine wRet ?_
  obtain rfl:=so h
  exact pT u u
theorem gE.ok(h:gE.f c a1=some r):FnA PP 48 [(kR aC).sig c,(kL ki).sig a1] (ki.sig r):=by
 refine fJ Tryz.func48 u fun H0 w0=>?_
 unfold gE.f at h
 refine sx (c2<|.nil)<|wSeq<|wSeq<|bx h fun i d h=>rx (c1<|cC (ck.ok d)<|c1<|.nil)<|pSeq<|sx (c2<|.nil)<|jx h (fun a h=>?_) fun a h=>?_
 ·refine wh a u<|wSkip<|pSeq<|wSeq<|wSeq<|bx h fun j e h=>rx (c1<|cp (oMkF (Rl:=rl1 ki kB (fun g=>gN.f g c)) u b87 (rl1e gN.ok) (oc tm o0)) (s1 u)<|cC (ce.ok e)<|.nil)<|pSeq<|jx h (fun b h=>?_) fun b h=>?_
  ·refine wb b u<|sx (c1<|.nil)<|wRet<|pThenR ?_
   obtain rfl:=so h
   exact pT u u
  ·refine wc b u<|wSkip<|pSeq<|sx (c1<|.nil)<|wRet ?_
   obtain rfl:=so h
   exact pT u u
 ·refine wg a u<|sx (c2<|.nil)<|wRet<|pThenR ?_
  obtain rfl:=so h
  exact pT u u
theorem bF.ok(h:bF.f b a1=some r):FnA PP 52 [(kR bX).sig b,ki.sig a1] (kB.sig r):=by
 refine fJ Tryz.func52 u fun H0 w0=>?_
 unfold bF.f at h
 refine sx (c2<|.nil)<|wSeq<|bx h fun c a h=>rx (c4<|c1<|cC (eE.ok a)<|c4<|c1<|.nil)<|pSeq<|sx (c2<|.nil)<|wRet ?_
 obtain rfl:=so h
 exact pT u u
theorem aK.ok{a2:aI->aI->Option Bool}(h:aK.f j a1 a2=some r):FnA PP 88 [(kL (kR aH)).sig j,(kL (kR aH)).sig a1,(sFun PP (rl2 (kR aH) (kR aH) kB a2))] (kB.sig r):=by
 refine fJ Tryz.func88 u fun H0 w0=>?_
 unfold aK.f at h
 refine sx (c1<|.nil)<|wSeq<|sx (c4<|c1<|.nil)<|jx h (fun c h=>?_) fun c h=>?_
 ·refine wh c u<|wSkip<|pSeq<|wSeq<|sx (c3<|.nil) ?_
  obtain⟨o,h,k⟩:=bd h
  refine wK0 (.inr ()=o) ([]) ([]) ?_ ?_
  ·refine wBlock (wLoop ?_)
   refine lW (pc1 o (fun e=>[(1,.d ((kL (kR aH)).sig a1)),(2,.d ((sFun PP (rl2 (kR aH) (kR aH) kB a2)))),(15,.d ((kL (kR aH)).sig j)),(16,.d (ki.sig (j.length:Int))),(17,.d (ki.sig e))]) (fun e=>[]) (aK.l0.partial_correctness j a1 a2) ?_ _ h) ⟨u,u,u,u,u,tv⟩ u
   clear h
   intro f' ih e h
   refine sx (c1<|.nil)<|wSeq<|jx h (fun a h=>?_) fun a h=>?_
   ·refine wd a u<|wSkip<|pSeq<|wSeq<|wBlock<|wSeq<|bx h fun g l h=>rx (c1<|iX u31 z73 l u u<|c1<|aL 8 Z73 ze73 zl73<|c1<|sA 0 aH u u z73 u u<|.nil)<|pSeq<|wSeq<|bx h fun i m h=>rx (c2<|iX u31 z73 m u u<|c1<|aL 9 Z73 ze73 zl73<|sA 0 aH u u z73 u u<|.nil)<|pSeq<|wSeq<|bx h fun p n h=>rx (c1<|lA 1 aH ⟨g.Op,g.N,g.L⟩ u ⟨u,u,u,tv⟩ t73 u<|lA 0 aH ⟨i.Op,i.N,i.L⟩ u ⟨u,u,u,tv⟩ t73 u<|cp (oCallV u (rl2i (f:=a2) n) tm (oc tm (oc tm o0))) (s3 u u u)<|c1<|.nil)<|pSeq<|jx h (fun b h=>?_) fun b h=>?_
    ·refine wb b u<|sx (c1<|.nil)<|wRet<|pBlkR<|pThenR<|pThenR<|pBlkR<|pThenR ?_
     obtain rfl:=so h
     replace h:=k
     refine pThenR ?_
     obtain rfl:=so h
     exact pT u u
    ·exact wc b u<|wSkip<|pBlkN<|pSeq<|rx (c2<|.nil)<|pDrop (.cons _ (.cons _ .slnil))<|pLoop (lW (ih _ h) ⟨u,u,u,u,u,tv⟩ u)
   ·exact we a u<|wExit<|pThenX<|pThenX<|pBlkX<|pJ0 (so h) tv u
  ·rintro rfl
   replace h:=k
   refine pSeq<|sx (c1<|.nil)<|wRet ?_
   obtain rfl:=so h
   exact pT u u
 ·refine wg c u<|sx (c1<|.nil)<|wRet<|pThenR ?_
  obtain rfl:=so h
  exact pT u u
theorem dw.ok(h:dw.f z a1 a2 a3=some r):FnA PP 89 [(kR aH).sig z,(kR aH).sig a1,sP (kR dX) a2,sP (kR bX) a3] (kB.sig r):=by
 refine fJ Tryz.func89 u fun H0 w0=>?_
 unfold dw.f at h
 refine sx (c3<|.nil)<|wB h (fun m=>[(6,.d (kB.sig m))]) (fun m=>[]) (fun G h=>?_) fun m h=>?_
 ·refine bx h fun l c h=>bx h fun A e h=>jx h (fun a h=>?_) fun a h=>?_
  ·refine bx h fun n g h=>bx h fun B i h=>bx h fun o j h=>bx h fun C k h=>jx h (fun b h=>?_) fun b h=>?_
   ·refine bx h fun v p h=>bx h fun D q h=>bx h fun E s h=>jx h (fun t h=>?_) fun t h=>?_
    ·exact rdx hm (c4<|cp (oCallV u (rl2i (f:=l) e) (oGot c tm) (oc tm (oc tm o0))) (s3 u u u)<|c4<|cgB a.1 u u (oCallV u (rl1i (f:=n) i) (oGot g tm) (oc tm o0)) (s2 u u)<|c3<|cgB a.1 u u (oCallV u (rl1i (f:=o) k) (oGot j tm) (oc tm o0)) (s2 u u)<|c6<|c1<|cgB (dT b.1) u u (oCallV u (rl1i (f:=v) q) (oGot p tm) (oc tm o0)) (s2 u u)<|cgB (dT b.1) u u (oCall u (bF.ok s) b52 (oc tm (oc tm o0))) (s2 u u)<|c8<|c2<|.nil)<|pJ1 _ (so h) (sb u) u
    ·exact bx h fun y w h=>bx h fun F x h=>rdx hm (c4<|cp (oCallV u (rl2i (f:=l) e) (oGot c tm) (oc tm (oc tm o0))) (s3 u u u)<|c4<|cgB a.1 u u (oCallV u (rl1i (f:=n) i) (oGot g tm) (oc tm o0)) (s2 u u)<|c3<|cgB a.1 u u (oCallV u (rl1i (f:=o) k) (oGot j tm) (oc tm o0)) (s2 u u)<|c6<|c1<|cgB (dT b.1) u u (oCallV u (rl1i (f:=v) q) (oGot p tm) (oc tm o0)) (s2 u u)<|cgB (dT b.1) u u (oCall u (bF.ok s) b52 (oc tm (oc tm o0))) (s2 u u)<|c6<|cgB (nb t.1) u u (oCallV u (rl2i (f:=y) x) (oGot w tm) (oc tm (oc tm o0))) (s3 u u u)<|c3<|.nil)<|pJ1 _ (so h) (sb u) u
   ·exact rdx hm (c4<|cp (oCallV u (rl2i (f:=l) e) (oGot c tm) (oc tm (oc tm o0))) (s3 u u u)<|c4<|cgB a.1 u u (oCallV u (rl1i (f:=n) i) (oGot g tm) (oc tm o0)) (s2 u u)<|c3<|cgB a.1 u u (oCallV u (rl1i (f:=o) k) (oGot j tm) (oc tm o0)) (s2 u u)<|c8<|c3<|csU u u<|csU u u<|csU u u<|csU u u<|csU u u<|c3<|.nil)<|pJ1 _ (so h) (sb u) u
  ·exact rdx hm (c4<|cp (oCallV u (rl2i (f:=l) e) (oGot c tm) (oc tm (oc tm o0))) (s3 u u u)<|c12<|c8<|csU u u<|csU u u<|csU u u<|csU u u<|csU u u<|c3<|.nil)<|pJ1 _ (so h) (sb u) u
 ·refine wRet ?_
  obtain rfl:=so h
  exact pT u u
theorem dy.ok(h:dy.f a a1 a2 a3=some r):FnA PP 49 [(kR bX).sig a,(kR dX).sig a1,(kL (kR aH)).sig a2,(kL (kR aH)).sig a3] (kB.sig r):=by
 refine fJ Tryz.func49 u fun H0 w0=>?_
 unfold dy.f at h
 refine sx (c3<|.nil)<|wSeq<|bx h fun e b h=>rx (c2<|cp (oMkF (Rl:=rl2 (kR aH) (kR aH) kB (fun c d=>dw.f c d a1 a)) u b89 (rl2e dw.ok) (oc tm (oc tm o0))) (s2 u u)<|cC (aK.ok b)<|c1<|.nil)<|pSeq<|wRet ?_
 obtain rfl:=so h
 exact pT u u
theorem aN.ok{a2:aG->aG->Option Bool}(h:aN.f g a1 a2=some r):FnA PP 90 [(kL (kR aB)).sig g,(kL (kR aB)).sig a1,(sFun PP (rl2 (kR aB) (kR aB) kB a2))] (kB.sig r):=by
 refine fJ Tryz.func90 u fun H0 w0=>?_
 unfold aN.f at h
 refine sx (c1<|.nil)<|wSeq<|sx (c4<|c1<|.nil)<|jx h (fun c h=>?_) fun c h=>?_
 ·refine wh c u<|wSkip<|pSeq<|wSeq<|sx (c3<|.nil) ?_
  obtain⟨o,h,i⟩:=bd h
  refine wK0 (.inr ()=o) ([]) ([]) ?_ ?_
  ·refine wBlock (wLoop ?_)
   refine lW (pc1 o (fun e=>[(1,.d ((kL (kR aB)).sig a1)),(2,.d ((sFun PP (rl2 (kR aB) (kR aB) kB a2)))),(15,.d ((kL (kR aB)).sig g)),(16,.d (ki.sig (g.length:Int))),(17,.d (ki.sig e))]) (fun e=>[]) (aN.l0.partial_correctness g a1 a2) ?_ _ h) ⟨u,u,u,u,u,tv⟩ u
   clear h
   intro f' ih e h
   refine sx (c1<|.nil)<|wSeq<|jx h (fun a h=>?_) fun a h=>?_
   ·refine wd a u<|wSkip<|pSeq<|wSeq<|wBlock<|wSeq<|bx h fun j l h=>rx (c1<|iX u32 z30 l u u<|c1<|aL 8 Z30 ze30 zl30<|c1<|sA 0 aB u u z30 u u<|.nil)<|pSeq<|wSeq<|bx h fun k m h=>rx (c2<|iX u32 z30 m u u<|c1<|aL 9 Z30 ze30 zl30<|sA 0 aB u u z30 u u<|.nil)<|pSeq<|wSeq<|bx h fun p n h=>rx (c1<|lA 1 aB ⟨j.V,j.L⟩ u ⟨u,u,tv⟩ t30 u<|lA 0 aB ⟨k.V,k.L⟩ u ⟨u,u,tv⟩ t30 u<|cp (oCallV u (rl2i (f:=a2) n) tm (oc tm (oc tm o0))) (s3 u u u)<|c1<|.nil)<|pSeq<|jx h (fun b h=>?_) fun b h=>?_
    ·refine wb b u<|sx (c1<|.nil)<|wRet<|pBlkR<|pThenR<|pThenR<|pBlkR<|pThenR ?_
     obtain rfl:=so h
     replace h:=i
     refine pThenR ?_
     obtain rfl:=so h
     exact pT u u
    ·exact wc b u<|wSkip<|pBlkN<|pSeq<|rx (c2<|.nil)<|pDrop (.cons _ (.cons _ .slnil))<|pLoop (lW (ih _ h) ⟨u,u,u,u,u,tv⟩ u)
   ·exact we a u<|wExit<|pThenX<|pThenX<|pBlkX<|pJ0 (so h) tv u
  ·rintro rfl
   replace h:=i
   refine pSeq<|sx (c1<|.nil)<|wRet ?_
   obtain rfl:=so h
   exact pT u u
 ·refine wg c u<|sx (c1<|.nil)<|wRet<|pThenR ?_
  obtain rfl:=so h
  exact pT u u
theorem dM.ok(h:dM.f z a1 a2 a3=some r):FnA PP 91 [(kR aB).sig z,(kR aB).sig a1,sP (kR dY) a2,sP (kR bX) a3] (kB.sig r):=by
 refine fJ Tryz.func91 u fun H0 w0=>?_
 unfold dM.f at h
 refine sx (c3<|.nil)<|wB h (fun m=>[(6,.d (kB.sig m))]) (fun m=>[]) (fun G h=>?_) fun m h=>?_
 ·refine bx h fun l c h=>bx h fun A e h=>jx h (fun a h=>?_) fun a h=>?_
  ·refine bx h fun n g h=>bx h fun B i h=>bx h fun o j h=>bx h fun C k h=>jx h (fun b h=>?_) fun b h=>?_
   ·refine bx h fun v p h=>bx h fun D q h=>bx h fun E s h=>jx h (fun t h=>?_) fun t h=>?_
    ·exact rdx hm (c4<|cp (oCallV u (rl2i (f:=l) e) (oGot c tm) (oc tm (oc tm o0))) (s3 u u u)<|c4<|cgB a.1 u u (oCallV u (rl1i (f:=n) i) (oGot g tm) (oc tm o0)) (s2 u u)<|c3<|cgB a.1 u u (oCallV u (rl1i (f:=o) k) (oGot j tm) (oc tm o0)) (s2 u u)<|c6<|c1<|cgB (dT b.1) u u (oCallV u (rl1i (f:=v) q) (oGot p tm) (oc tm o0)) (s2 u u)<|cgB (dT b.1) u u (oCall u (bF.ok s) b52 (oc tm (oc tm o0))) (s2 u u)<|c8<|c2<|.nil)<|pJ1 _ (so h) (sb u) u
    ·exact bx h fun y w h=>bx h fun F x h=>rdx hm (c4<|cp (oCallV u (rl2i (f:=l) e) (oGot c tm) (oc tm (oc tm o0))) (s3 u u u)<|c4<|cgB a.1 u u (oCallV u (rl1i (f:=n) i) (oGot g tm) (oc tm o0)) (s2 u u)<|c3<|cgB a.1 u u (oCallV u (rl1i (f:=o) k) (oGot j tm) (oc tm o0)) (s2 u u)<|c6<|c1<|cgB (dT b.1) u u (oCallV u (rl1i (f:=v) q) (oGot p tm) (oc tm o0)) (s2 u u)<|cgB (dT b.1) u u (oCall u (bF.ok s) b52 (oc tm (oc tm o0))) (s2 u u)<|c6<|cgB (nb t.1) u u (oCallV u (rl2i (f:=y) x) (oGot w tm) (oc tm (oc tm o0))) (s3 u u u)<|c3<|.nil)<|pJ1 _ (so h) (sb u) u
   ·exact rdx hm (c4<|cp (oCallV u (rl2i (f:=l) e) (oGot c tm) (oc tm (oc tm o0))) (s3 u u u)<|c4<|cgB a.1 u u (oCallV u (rl1i (f:=n) i) (oGot g tm) (oc tm o0)) (s2 u u)<|c3<|cgB a.1 u u (oCallV u (rl1i (f:=o) k) (oGot j tm) (oc tm o0)) (s2 u u)<|c8<|c3<|csU u u<|csU u u<|csU u u<|csU u u<|csU u u<|c3<|.nil)<|pJ1 _ (so h) (sb u) u
  ·exact rdx hm (c4<|cp (oCallV u (rl2i (f:=l) e) (oGot c tm) (oc tm (oc tm o0))) (s3 u u u)<|c12<|c8<|csU u u<|csU u u<|csU u u<|csU u u<|csU u u<|c3<|.nil)<|pJ1 _ (so h) (sb u) u
 ·refine wRet ?_
  obtain rfl:=so h
  exact pT u u
theorem eu.ok(h:eu.f a a1 a2 a3=some r):FnA PP 50 [(kR bX).sig a,(kR dY).sig a1,(kL (kR aB)).sig a2,(kL (kR aB)).sig a3] (kB.sig r):=by
 refine fJ Tryz.func50 u fun H0 w0=>?_
 unfold eu.f at h
 refine sx (c3<|.nil)<|wSeq<|bx h fun e b h=>rx (c2<|cp (oMkF (Rl:=rl2 (kR aB) (kR aB) kB (fun c d=>dM.f c d a1 a)) u b91 (rl2e dM.ok) (oc tm (oc tm o0))) (s2 u u)<|cC (aN.ok b)<|c1<|.nil)<|pSeq<|wRet ?_
 obtain rfl:=so h
 exact pT u u
theorem bt.ok(h:bt.f g a1=some r):FnA PP 93 [(kL (kR aB)).sig g,(kL (kR aB)).sig a1] (kB.sig r):=by
 refine fJ Tryz.func93 u fun H0 w0=>?_
 unfold bt.f at h
 refine sx (c1<|.nil)<|wSeq<|sx (c4<|c1<|.nil)<|jx h (fun c h=>?_) fun c h=>?_
 ·refine wh c u<|wSkip<|pSeq<|wSeq<|sx (c3<|.nil) ?_
  obtain⟨l,h,i⟩:=bd h
  refine wK0 (.inr ()=l) ([]) ([]) ?_ ?_
  ·refine wBlock (wLoop ?_)
   refine lW (pc1 l (fun e=>[(0,.d ((kL (kR aB)).sig g)),(1,.d ((kL (kR aB)).sig a1)),(12,.d (ki.sig (g.length:Int))),(13,.d (ki.sig e))]) (fun e=>[]) (bt.l0.partial_correctness g a1) ?_ _ h) ⟨u,u,u,u,tv⟩ u
   clear h
   intro f' ih e h
   refine sx (c1<|.nil)<|wSeq<|jx h (fun a h=>?_) fun a h=>?_
   ·refine wd a u<|wSkip<|pSeq<|wSeq<|wBlock<|sx (c2<|.nil)<|wSeq<|bx h fun m j h=>bx h fun n k h=>rdx hm (c2<|iX u32 z30 j u u<|c3<|iX u32 z30 k u u<|c1<|cp (oRNe eqk30 u eg30 u tm tm) (s2 u u)<|.nil)<|pSeq<|jx h (fun b h=>?_) fun b h=>?_
    ·exact wh b u<|wSkip<|pBlkN<|pSeq<|rx (c2<|.nil)<|pLoop (lW (ih _ h) ⟨u,u,u,u,tv⟩ u)
    ·refine wg b u<|sx (c1<|.nil)<|wRet<|pBlkR<|pThenR<|pThenR<|pBlkR<|pThenR ?_
     obtain rfl:=so h
     replace h:=i
     refine pThenR ?_
     obtain rfl:=so h
     exact pT u u
   ·exact we a u<|wExit<|pThenX<|pThenX<|pBlkX<|pJ0 (so h) tv u
  ·rintro rfl
   replace h:=i
   refine pSeq<|sx (c1<|.nil)<|wRet ?_
   obtain rfl:=so h
   exact pT u u
 ·refine wg c u<|sx (c1<|.nil)<|wRet<|pThenR ?_
  obtain rfl:=so h
  exact pT u u
theorem fp.ok(h:fp.f b a1=some r):FnA PP 92 [(kR aB).sig b,sP (kR bX) a1] (kB.sig r):=by
 refine fJ Tryz.func92 u fun H0 w0=>?_
 unfold fp.f at h
 refine sx (c2<|.nil)<|wSeq<|bx h fun c a h=>rx (c3<|cC (bF.ok a)<|c2<|.nil)<|pSeq<|wRet ?_
 obtain rfl:=so h
 exact pT u u
theorem aQ.ok{a1:aG->Option Bool}(h:aQ.f C a1=some r):FnS PP 94 [.v 90000,.d ((sFun PP (rl1 (kR aB) kB a1)))] [.row 90000 30 (kR aB) C] [] (.d ((kL (kR aB)).sig r)) []:=by
 refine fnIntroS Tryz.func94 u (by kernel_rfl) fun X H0 w0 pv=>?_
 unfold aQ.f at h
 refine sx (cp (oAs cV) tv<|.nil)<|wSeq<|bx h fun x y h=>rx (c2<|cr (oCallB u (aV.ok y) (fK fI) b126 (rc1 (rR (n:=0) u) (rc1 (rD tm) rn0))) (s2 u u)<|c1<|.nil)<|pSeq<|wSeq<|sx (c2<|.nil)<|jx h (fun m h=>?_) fun m h=>?_
 ·refine wd m u<|sx (c2<|.nil)<|wFrzR (n:=0) (id:=90000) [4] u u ⟨u,tv⟩<|wRet<|pThenR ?_
  obtain rfl:=so h
  exact pS1 [] u u (.inl u) u (.tmp u<|.nil)
 ·refine we m u<|wSkip<|pSeq<|wSeq<|sx (c3<|.nil)<|wWeak (Γ':=[(0,.v 90000),(1,.d ((sFun PP (rl1 (kR aB) kB a1)))),(5,.d (ki.sig x)),(6,.d (ki.sig (IntKind.i64.wrap (x+1))))]) (sb u)<|wRen 90000 1000 u ?_
  obtain⟨z,h,A⟩:=bd h
  refine wK2 (fun a b=>(a,b)=z) (fun a b=>[(0,.v 1000),(5,.d (ki.sig b))]) (fun a b=>[.row 1000 30 (kR aB) a]) ?_ ?_
  ·refine wBlock (wLoop ?_)
   refine lW (pc3 z (fun o p k=>[(0,.v 1000),(1,.d ((sFun PP (rl1 (kR aB) kB a1)))),(5,.d (ki.sig p)),(6,.d (ki.sig k))]) (fun o p k=>[.row 1000 30 (kR aB) o]) (aQ.l0.partial_correctness a1) ?_ _ _ _ h) ⟨u,u,u,u,tv⟩ u
   clear h
   intro f' ih o p k h
   refine wSeq<|sx (c2<|cr (oLenR (n:=0) u32 u tm) (s1 u)<|c1<|.nil)<|jx h (fun g h=>?_) fun g h=>?_
   ·refine wd g u<|wSkip<|pSeq ?_
    obtain⟨D,h,B⟩:=bd h
    refine wJ2 (fun c e=>(c,e)=D) (fun c e=>[(0,.v 1000),(1,.d ((sFun PP (rl1 (kR aB) kB a1)))),(5,.d (ki.sig e)),(6,.d (ki.sig k))]) (fun c e=>[.row 1000 30 (kR aB) c]) ?_ ?_
    ·refine wBlock<|wSeq<|bx h fun l q h=>rx (c2<|cr (oIdxR (n:=0) u32 z30 u q tm tm) (s2 u u)<|cr (oLdE (n:=0) u q u t30 tm) (s1 u)<|aL 7 Z30 ze30 zl30<|sA 0 aB u u z30 u u<|.nil)<|pSeq<|wSeq<|bx h fun E w h=>rx (c1<|lA 0 aB ⟨l.V,l.L⟩ u ⟨u,u,tv⟩ t30 u<|cp (oCallV u (rl1i (f:=a1) w) tm (oc tm o0)) (s2 u u)<|c1<|.nil)<|pSeq<|jx h (fun i h=>?_) fun i h=>?_
     ·exact wb i u<|wSeq<|bx h fun F s h=>rx (c2<|lA 0 aB ⟨l.V,l.L⟩ u ⟨u,u,tv⟩ t30 u<|cr (oIdxR (n:=1) u32 z30 u s tm tm) (s2 u u)<|cwn (oStE (n:=1) u s u z30 tm tm) (s2 u u)<|.nil)<|pSeq<|rx (c3<|.nil)<|pBlkN<|pDrop (.cons _ (.cons_cons _ .slnil))<|pJ2 _ _ (so h) (sb u) u
     ·exact wc i u<|wSkip<|pBlkN<|pDrop (.cons _ (.cons_cons _ .slnil))<|pJ2 _ _ (so h) (sb u) u
    ·rintro c e rfl
     replace h:=B
     exact rx (c3<|.nil)<|pLoop (lW (ih _ _ _ h) ⟨u,u,u,u,tv⟩ u)
   ·exact we g u<|wExit<|pThenX<|pThenX<|pBlkX<|pJ2 _ _ (so h) (sb u) u
  ·rintro a b rfl
   replace h:=A
   refine pSeq<|wSeq<|ix h fun j h=>rx (c2<|cr (oSlT (n:=0) u32 z30 u j.1 j.2 tm tm) (s2 u u)<|cwn (oClr (n:=0) u32 ze30 gx (by decide) u (by have:=j;omega) tm) (s1 u)<|.nil)<|pSeq<|wSeq<|ix h fun t h=>rx (c2<|cw (oCutR (n:=0) (id':=41) u32 z30 u t.1 t.2 tm tm) (s2 u u)<|c1<|.nil)<|pSeq<|wFrzR (n:=0) (id:=41) [4] u u ⟨u,tv⟩<|wRet ?_
   obtain rfl:=so h
   exact pS1 [] u u (.inl u) u (.tmp u<|.nil)
theorem gz.ok(h:gz.f a a1 a2=some r):FnA PP 51 [(kR bX).sig a,(kL (kR aB)).sig a1,(kL (kR aB)).sig a2] (kB.sig r):=by
 refine fJ Tryz.func51 u fun H0 w0=>?_
 unfold gz.f at h
 refine sx (c2<|.nil)<|sx (cp (oMkF (Rl:=rl1 (kR aB) kB (fun j=>fp.f j a)) u b92 (rl1e fp.ok) (oc tm o0)) (s1 u)<|c1<|.nil)<|wSeq<|bx h fun k b h=>bx h fun l c h=>bx h fun m e h=>bx h fun n g h=>bx h fun o i h=>rx (c1<|cm (oCallS (rest:=[]) (R':=[.row 320040 30 (kR aB) k]) (out':=.v 320040) [] [(80000,320040)] [] [] [0] u (br.ok b) b95 (oE1 tm oE0) u u u u u u u u) (s1 u)<|c1<|cm (oCallS (rest:=[]) (R':=[]) (out':=.d ((kL (kR aB)).sig l)) [(90000,320040)] [] [0] [] [] u (aQ.ok c) b94 (oE1 tm (oE1 tm oE0)) u u u u u u u u) (s2 u u)<|c1<|cm (oCallS (rest:=[]) (R':=[.row 320200 30 (kR aB) m]) (out':=.v 320200) [] [(80000,320200)] [] [] [0] u (br.ok e) b95 (oE1 tm oE0) u u u u u u u u) (s1 u)<|c1<|cm (oCallS (rest:=[]) (R':=[]) (out':=.d ((kL (kR aB)).sig n)) [(90000,320200)] [] [0] [] [] u (aQ.ok g) b94 (oE1 tm (oE1 tm oE0)) u u u u u u u u) (s2 u u)<|cC (bt.ok i)<|c1<|.nil)<|pSeq<|wRet ?_
 obtain rfl:=so h
 exact pT u u
theorem aO.ok{a2:aF->aF->Option Bool}(h:aO.f j a1 a2=some r):FnA PP 97 [(kL (kR aD)).sig j,(kL (kR aD)).sig a1,(sFun PP (rl2 (kR aD) (kR aD) kB a2))] (kB.sig r):=by
 refine fJ Tryz.func97 u fun H0 w0=>?_
 unfold aO.f at h
 refine sx (c1<|.nil)<|wSeq<|sx (c4<|c1<|.nil)<|jx h (fun c h=>?_) fun c h=>?_
 ·refine wh c u<|wSkip<|pSeq<|wSeq<|sx (c3<|.nil) ?_
  obtain⟨o,h,k⟩:=bd h
  refine wK0 (.inr ()=o) ([]) ([]) ?_ ?_
  ·refine wBlock (wLoop ?_)
   refine lW (pc1 o (fun e=>[(1,.d ((kL (kR aD)).sig a1)),(2,.d ((sFun PP (rl2 (kR aD) (kR aD) kB a2)))),(15,.d ((kL (kR aD)).sig j)),(16,.d (ki.sig (j.length:Int))),(17,.d (ki.sig e))]) (fun e=>[]) (aO.l0.partial_correctness j a1 a2) ?_ _ h) ⟨u,u,u,u,u,tv⟩ u
   clear h
   intro f' ih e h
   refine sx (c1<|.nil)<|wSeq<|jx h (fun a h=>?_) fun a h=>?_
   ·refine wd a u<|wSkip<|pSeq<|wSeq<|wBlock<|wSeq<|bx h fun g l h=>rx (c1<|iX u33 z88 l u u<|c1<|aL 8 Z88 ze88 zl88<|c1<|sA 0 aD u u z88 u u<|.nil)<|pSeq<|wSeq<|bx h fun i m h=>rx (c2<|iX u33 z88 m u u<|c1<|aL 9 Z88 ze88 zl88<|sA 0 aD u u z88 u u<|.nil)<|pSeq<|wSeq<|bx h fun p n h=>rx (c1<|lA 1 aD ⟨g.Ret,g.V,g.L⟩ u ⟨u,u,u,tv⟩ t88 u<|lA 0 aD ⟨i.Ret,i.V,i.L⟩ u ⟨u,u,u,tv⟩ t88 u<|cp (oCallV u (rl2i (f:=a2) n) tm (oc tm (oc tm o0))) (s3 u u u)<|c1<|.nil)<|pSeq<|jx h (fun b h=>?_) fun b h=>?_
    ·refine wb b u<|sx (c1<|.nil)<|wRet<|pBlkR<|pThenR<|pThenR<|pBlkR<|pThenR ?_
     obtain rfl:=so h
     replace h:=k
     refine pThenR ?_
     obtain rfl:=so h
     exact pT u u
    ·exact wc b u<|wSkip<|pBlkN<|pSeq<|rx (c2<|.nil)<|pDrop (.cons _ (.cons _ .slnil))<|pLoop (lW (ih _ h) ⟨u,u,u,u,u,tv⟩ u)
   ·exact we a u<|wExit<|pThenX<|pThenX<|pBlkX<|pJ0 (so h) tv u
  ·rintro rfl
   replace h:=k
   refine pSeq<|sx (c1<|.nil)<|wRet ?_
   obtain rfl:=so h
   exact pT u u
 ·refine wg c u<|sx (c1<|.nil)<|wRet<|pThenR ?_
  obtain rfl:=so h
  exact pT u u
theorem dN.ok(h:dN.f z a1 a2 a3=some r):FnA PP 98 [(kR aD).sig z,(kR aD).sig a1,sP (kR dZ) a2,sP (kR bX) a3] (kB.sig r):=by
 refine fJ Tryz.func98 u fun H0 w0=>?_
 unfold dN.f at h
 refine sx (c3<|.nil)<|wB h (fun m=>[(6,.d (kB.sig m))]) (fun m=>[]) (fun G h=>?_) fun m h=>?_
 ·refine bx h fun l c h=>bx h fun A e h=>jx h (fun a h=>?_) fun a h=>?_
  ·refine bx h fun n g h=>bx h fun B i h=>bx h fun o j h=>bx h fun C k h=>jx h (fun b h=>?_) fun b h=>?_
   ·refine bx h fun v p h=>bx h fun D q h=>bx h fun E s h=>jx h (fun t h=>?_) fun t h=>?_
    ·exact rdx hm (c4<|cp (oCallV u (rl2i (f:=l) e) (oGot c tm) (oc tm (oc tm o0))) (s3 u u u)<|c4<|cgB a.1 u u (oCallV u (rl1i (f:=n) i) (oGot g tm) (oc tm o0)) (s2 u u)<|c3<|cgB a.1 u u (oCallV u (rl1i (f:=o) k) (oGot j tm) (oc tm o0)) (s2 u u)<|c6<|c1<|cgB (dT b.1) u u (oCallV u (rl1i (f:=v) q) (oGot p tm) (oc tm o0)) (s2 u u)<|cgB (dT b.1) u u (oCall u (bF.ok s) b52 (oc tm (oc tm o0))) (s2 u u)<|c8<|c2<|.nil)<|pJ1 _ (so h) (sb u) u
    ·exact bx h fun y w h=>bx h fun F x h=>rdx hm (c4<|cp (oCallV u (rl2i (f:=l) e) (oGot c tm) (oc tm (oc tm o0))) (s3 u u u)<|c4<|cgB a.1 u u (oCallV u (rl1i (f:=n) i) (oGot g tm) (oc tm o0)) (s2 u u)<|c3<|cgB a.1 u u (oCallV u (rl1i (f:=o) k) (oGot j tm) (oc tm o0)) (s2 u u)<|c6<|c1<|cgB (dT b.1) u u (oCallV u (rl1i (f:=v) q) (oGot p tm) (oc tm o0)) (s2 u u)<|cgB (dT b.1) u u (oCall u (bF.ok s) b52 (oc tm (oc tm o0))) (s2 u u)<|c6<|cgB (nb t.1) u u (oCallV u (rl2i (f:=y) x) (oGot w tm) (oc tm (oc tm o0))) (s3 u u u)<|c3<|.nil)<|pJ1 _ (so h) (sb u) u
   ·exact rdx hm (c4<|cp (oCallV u (rl2i (f:=l) e) (oGot c tm) (oc tm (oc tm o0))) (s3 u u u)<|c4<|cgB a.1 u u (oCallV u (rl1i (f:=n) i) (oGot g tm) (oc tm o0)) (s2 u u)<|c3<|cgB a.1 u u (oCallV u (rl1i (f:=o) k) (oGot j tm) (oc tm o0)) (s2 u u)<|c8<|c3<|csU u u<|csU u u<|csU u u<|csU u u<|csU u u<|c3<|.nil)<|pJ1 _ (so h) (sb u) u
  ·exact rdx hm (c4<|cp (oCallV u (rl2i (f:=l) e) (oGot c tm) (oc tm (oc tm o0))) (s3 u u u)<|c12<|c8<|csU u u<|csU u u<|csU u u<|csU u u<|csU u u<|c3<|.nil)<|pJ1 _ (so h) (sb u) u
 ·refine wRet ?_
  obtain rfl:=so h
  exact pT u u
theorem dP.ok(h:dP.f a a1 a2 a3=some r):FnA PP 53 [(kR bX).sig a,(kR dZ).sig a1,(kL (kR aD)).sig a2,(kL (kR aD)).sig a3] (kB.sig r):=by
 refine fJ Tryz.func53 u fun H0 w0=>?_
 unfold dP.f at h
 refine sx (c3<|.nil)<|wSeq<|bx h fun e b h=>rx (c2<|cp (oMkF (Rl:=rl2 (kR aD) (kR aD) kB (fun c d=>dN.f c d a1 a)) u b98 (rl2e dN.ok) (oc tm (oc tm o0))) (s2 u u)<|cC (aO.ok b)<|c1<|.nil)<|pSeq<|wRet ?_
 obtain rfl:=so h
 exact pT u u
theorem ez.ok(h:ez.f k a1=some r):FnA PP 54 [(kR bX).sig k,(kL (kR aD)).sig a1] ((kL (kR aD)).sig r):=by
 refine fJ Tryz.func54 u fun H0 w0=>?_
 unfold ez.f at h
 refine sx (c1<|cp (oAs cV) tv<|.nil)<|wSeq<|sx (c4<|.nil) ?_
 obtain⟨p,h,l⟩:=bd h
 refine wK0 (.inr ()=p) ([]) ([]) ?_ ?_
 ·refine wBlock (wLoop ?_)
  refine lW (pc1 p (fun e=>[(1,.d ((kL (kR aD)).sig a1)),(2,.d (sP (kR bX) k)),(5,.d (ki.sig e))]) (fun e=>[]) (ez.l0.partial_correctness k a1) ?_ _ h) ⟨u,u,u,tv⟩ u
  clear h
  intro f' ih e h
  refine wSeq<|sx (c2<|.nil)<|jx h (fun a h=>?_) fun a h=>?_
  ·refine wd a u<|wSkip<|pSeq<|wSeq<|wBlock<|wB h (fun g=>[(1,.d ((kL (kR aD)).sig a1)),(2,.d (sP (kR bX) k)),(5,.d (ki.sig e)),(26,.d (kB.sig g))]) (fun g=>[]) (fun v h=>?_) fun g h=>?_
   ·refine bx h fun q i h=>jx h (fun b h=>?_) fun b h=>?_
    ·exact bx h fun s m h=>bx h fun t o h=>rdx hm (c2<|iX u33 z88 i u u<|c6<|cgB b.1 u u (oIdx u33 z88 m tm tm) (s2 u u)<|c2<|cgB b.1 u u (oCall u (bF.ok o) b52 (oc tm (oc tm o0))) (s2 u u)<|c1<|.nil)<|pJ1 _ (so h) (sb u) u
    ·exact rdx hm (c2<|iX u33 z88 i u u<|c8<|c3<|.nil)<|pJ1 _ (so h) (sb u) u
   ·refine jx h (fun c h=>?_) fun c h=>?_
    ·refine wb c u<|wSeq<|ix h fun j h=>rx (c3<|cp (oCutHi u33 z88 j.1 j.2 tm tm) (s2 u u)<|c1<|.nil)<|pSeq<|wRet<|pBlkR<|pThenR<|pThenR<|pBlkR<|pThenR ?_
     obtain rfl:=so h
     replace h:=l
     refine pThenR ?_
     obtain rfl:=so h
     exact pT u u
    ·exact wc c u<|wSkip<|pBlkN<|pSeq<|rx (c3<|.nil)<|pLoop (lW (ih _ h) ⟨u,u,u,tv⟩ u)
  ·exact we a u<|wExit<|pThenX<|pThenX<|pBlkX<|pJ0 (so h) tv u
 ·rintro rfl
  replace h:=l
  refine pSeq<|sx (cp (oAs cV) tv<|.nil)<|wNil (kR aD) 88 9004 4 u u<|wFrzR (n:=0) (id:=9004) [4] u u ⟨u,tv⟩<|wRet ?_
  obtain rfl:=so h
  exact pT u u
theorem fy.ok(h:fy.f a a1 a2 a3=some r):FnA PP 20 [(kR aC).sig a,ki.sig a1,(kR av).sig a2,(kR av).sig a3] (tup [kB.sig r.1,ki.sig r.2]):=by
 refine fJ Tryz.func20 u fun H0 w0=>?_
 unfold fy.f at h
 refine sx (c4<|c1<|.nil)<|wSeq<|bx h fun y1 H h=>bx h fun y2 I h=>bx h fun y3 J h=>bx h fun y4 K h=>bx h fun y5 L h=>bx h fun y6 M h=>bx h fun y7 N h=>rdx hm (c6<|c1<|cp (oLit (d:=ki) el56 (by decide) u u u (e1 tm (e1 tm (e1 tm e0)))) (s3 u u u)<|cC (dW.ok H)<|c4<|cp (oLit (d:=(kL (kR aH))) el145 (by decide) u u u (e1 tm (e1 tm e0))) (s2 u u)<|cC (bi.ok I)<|cC (fO.ok J)<|c8<|cp (oLit (d:=(kL (kR aB))) el146 (by decide) u u u (e1 tm (e1 tm (e1 tm (e1 tm e0))))) ⟨u,u,u,u,tv⟩<|cC (bg.ok K)<|cC (fD.ok L)<|c4<|cp (oLit (d:=(kL (kR aD))) el147 (by decide) u u u (e1 tm (e1 tm e0))) (s2 u u)<|cC (bk.ok M)<|cp (oLit (d:=(kL ki)) el143 (by decide) u u u (e1 tm (e1 tm (e1 tm (e1 tm e0))))) ⟨u,u,u,u,tv⟩<|cC (bp.ok N)<|c1<|.nil)<|pSeq<|wSeq<|wSeq<|bx h fun y8 O h=>rx (c2<|cC (gE.ok O)<|c1<|.nil)<|pSeq<|sx (c2<|.nil)<|jx h (fun t h=>?_) fun t h=>?_
 ·refine wh t u<|wSkip<|pSeq<|sx (c2<|cp (oBuild (fs:=bX) (u:=⟨a,a1⟩) u ze113 pl113 po113 (.op (zc:=[(.slice none 0 0),(.slice none 0 0)]) tm u (qI tm u .nil))) (s2 u u)<|aL 12 Z113 ze113 zl113<|cwn (oStP (n:=0) (k:=0) (m:=3) (d:=(kR bX)) (u:=(⟨a,a1⟩:bY)) pt113 u u u z113 tm tm) (s2 u u)<|.nil)<|wSeq<|wB h (fun v=>[(6,.d (sP (kR av) a2)),(7,.d (sP (kR av) a3)),(12,.p 12 0),(85,.d (kB.sig v))]) (fun v=>[.box 12 113 [.d (kL kS) a.Names,.d (kL (kI .u32)) a.Up,.d ki a1]]) (fun P h=>?_) fun v h=>?_
  ·refine bx h fun R i h=>bx h fun S j h=>jx h (fun b h=>?_) fun b h=>?_
   ·exact rdx hm (lP 0 0 3 (kR bX) (⟨a,a1⟩:bY) pt113 u u u t113 u<|cC (dW.ok i)<|c4<|cC (dy.ok j)<|c12<|c8<|.nil)<|pJ1 _ (so h) (sb u) u
   ·refine bx h fun T w h=>bx h fun U x h=>jx h (fun l h=>?_) fun l h=>?_
    ·exact rdx hm (lP 0 0 3 (kR bX) (⟨a,a1⟩:bY) pt113 u u u t113 u<|cC (dW.ok i)<|c4<|cC (dy.ok j)<|c2<|crgB (nb b.1) u u (oLdP (n:=0) (k:=0) (m:=3) (d:=(kR bX)) (u:=(⟨a,a1⟩:bY)) pt113 u u u t113 tm) (s1 u)<|cgB (nb b.1) u u (oCall u (fO.ok w) b45 o0) tv<|c4<|cgB (nb b.1) u u (oCall u (eu.ok x) b50 (oc tm (oc tm (oc tm (oc tm o0))))) ⟨u,u,u,u,tv⟩<|c8<|c3<|.nil)<|pJ1 _ (so h) (sb u) u
    ·exact bx h fun V y h=>rdx hm (lP 0 0 3 (kR bX) (⟨a,a1⟩:bY) pt113 u u u t113 u<|cC (dW.ok i)<|c4<|cC (dy.ok j)<|c2<|crgB (nb b.1) u u (oLdP (n:=0) (k:=0) (m:=3) (d:=(kR bX)) (u:=(⟨a,a1⟩:bY)) pt113 u u u t113 tm) (s1 u)<|cgB (nb b.1) u u (oCall u (fO.ok w) b45 o0) tv<|c4<|cgB (nb b.1) u u (oCall u (eu.ok x) b50 (oc tm (oc tm (oc tm (oc tm o0))))) ⟨u,u,u,u,tv⟩<|c3<|crgB (nb l.1) u u (oLdP (n:=0) (k:=0) (m:=3) (d:=(kR bX)) (u:=(⟨a,a1⟩:bY)) pt113 u u u t113 tm) (s1 u)<|c4<|cgB (nb l.1) u u (oCall u (gz.ok y) b51 (oc tm (oc tm (oc tm o0)))) (s3 u u u)<|c2<|.nil)<|pJ1 _ (so h) (sb u) u
  ·refine jx h (fun o h=>?_) fun o h=>?_
   ·refine wb o u<|sx (c2<|.nil)<|wRet<|pThenR ?_
    obtain rfl:=so h
    exact pRn (.inl u) u u (.tmp u<|.tmp u<|.nil)
   ·refine wc o u<|wSkip<|pSeq<|wSeq<|bx h fun W z h=>bx h fun X A h=>rdx hm (lP 0 0 3 (kR bX) (⟨a,a1⟩:bY) pt113 u u u t113 u<|c3<|cC (bF.ok z)<|lP 0 0 3 (kR bX) (⟨a,a1⟩:bY) pt113 u u u t113 u<|c3<|cC (bF.ok A)<|c2<|.nil)<|pSeq<|wSeq<|wBlock<|sx (c2<|cp (oBNe u4 u tm tm) (s2 u u)<|c1<|.nil)<|jx h (fun q h=>?_) fun q h=>?_
    ·refine wh q u<|sx (c2<|.nil)<|jx h (fun s h=>?_) fun s h=>?_
     ·refine wb s u ?_
      obtain⟨P,h,Q⟩:=bd h
      refine wJ2 (fun e g=>(e,g)=P) (fun e g=>[(8,.d (kB.sig e)),(9,.d (ki.sig g))]) (fun e g=>[.box 12 113 [.d (kL kS) a.Names,.d (kL (kI .u32)) a.Up,.d ki a1]]) ?_ ?_
      ·refine jx h (fun c h=>?_) fun c h=>?_
       ·exact bx h fun Y B h=>bx h fun Z C h=>rdx hm (c4<|cp (oREq eqk30 u eg30 u tm tm) (s2 u u)<|c1<|crgB (dT c.1) u u (oLdP (n:=0) (k:=0) (m:=3) (d:=(kR bX)) (u:=(⟨a,a1⟩:bY)) pt113 u u u t113 tm) (s1 u)<|cgB (dT c.1) u u (oCall u (fD.ok B) b47 o0) tv<|c4<|cgB (dT c.1) u u (oCall u (dP.ok C) b53 (oc tm (oc tm (oc tm (oc tm o0))))) ⟨u,u,u,u,tv⟩<|c3<|.nil)<|pJ2 _ _ (so h) (sb u) u
       ·exact rdx hm (c4<|cp (oREq eqk30 u eg30 u tm tm) (s2 u u)<|c8<|c3<|.nil)<|pJ2 _ _ (so h) (sb u) u
      ·rintro e g rfl
       replace h:=Q
       refine wRet<|pBlkR<|pThenR ?_
       obtain rfl:=so h
       exact pRn (.inl u) u u (.tmp u<|.tmp u<|.nil)
     ·refine wc s u<|wSkip<|pBlkN<|pSeq<|wSeq<|bx h fun qc D h=>bx h fun qd E h=>bx h fun qe F h=>bx h fun qf G h=>rdx hm (lP 0 0 3 (kR bX) (⟨a,a1⟩:bY) pt113 u u u t113 u<|cC (fD.ok D)<|lP 0 0 3 (kR bX) (⟨a,a1⟩:bY) pt113 u u u t113 u<|c2<|cC (ez.ok E)<|lP 0 0 3 (kR bX) (⟨a,a1⟩:bY) pt113 u u u t113 u<|c2<|cC (ez.ok F)<|cC (dP.ok G)<|c2<|.nil)<|pSeq<|wRet ?_
      obtain rfl:=so h
      exact pRn (.inl u) u u (.tmp u<|.tmp u<|.nil)
    ·refine wg q u<|sx (c2<|.nil)<|wRet<|pBlkR<|pThenR ?_
     obtain rfl:=so h
     exact pRn (.inl u) u u (.tmp u<|.tmp u<|.nil)
 ·refine wg t u<|sx (c3<|.nil)<|wRet<|pThenR ?_
  obtain rfl:=so h
  exact pRn (.inl u) u u (.tmp u<|.tmp u<|.nil)
theorem dB.ok(h:dB.f c a1 a2=some r):FnA PP 76 [(kR cR).sig c,(kR av).sig a1,(kR av).sig a2] (ki.sig r):=by
 refine fJ Tryz.func76 u fun H0 w0=>?_
 unfold dB.f at h
 refine sx (c4<|.nil)<|wSeq<|wSeq<|bx h fun d b h=>rx (c6<|cC (fy.ok b)<|c4<|c1<|.nil)<|pSeq<|sx (c1<|.nil)<|jx h (fun a h=>?_) fun a h=>?_
 ·refine wb a u<|sx (c1<|.nil)<|wRet<|pThenR ?_
  obtain rfl:=so h
  exact pT u u
 ·refine wc a u<|wSkip<|pSeq<|sx (c1<|.nil)<|wRet ?_
  obtain rfl:=so h
  exact pT u u
theorem eG.ok(h:eG.f q=some r):FnA PP 38 [(kR cR).sig q] (ki.sig r):=by
 refine fJ Tryz.func38 u fun H0 w0=>?_
 unfold eG.f at h
 refine sx (c2<|.nil)<|wSeq<|bx h fun e s h=>rx (c8<|cC (dL.ok s)<|c4<|aL 3 Z35 ze35 zl35<|cwn (oStP (n:=0) (k:=0) (m:=6) (d:=(kR av)) (u:=e.1) pt35 u u u z35 tm tm) (s2 u u)<|c2<|.nil)<|pSeq<|wSeq<|bx h fun i t h=>rx (c8<|cC (dL.ok t)<|c4<|aL 6 Z35 ze35 zl35<|cwn (oStP (n:=0) (k:=0) (m:=6) (d:=(kR av)) (u:=i.1) pt35 u u u z35 tm tm) (s2 u u)<|c2<|.nil)<|pSeq<|wSeq<|wB h (fun j=>[(1,.d (sP (kR cR) q)),(3,.p 3 0),(6,.p 6 0),(52,.d (kB.sig j))]) (fun j=>[.box 6 35 (L35 i.1),.box 3 35 (L35 e.1)]) (fun z h=>?_) fun j h=>?_
 ·refine jx h (fun v h=>?_) fun v h=>?_
  ·refine jx h (fun a h=>?_) fun a h=>?_
   ·refine bx h fun w g h=>jx h (fun b h=>?_) fun b h=>?_
    ·exact ej (c8<|crgB (nf a.1) u u (oLdP (n:=1) (k:=0) (m:=6) (d:=(kR av)) (u:=e.1) pt35 u u u t35 tm) (s1 u)<|cgB (nf a.1) u u (oCall u (b8.ok g) b70 (oc tm (oc tm o0))) (s2 u u)<|c8<|.nil) (so h) (sb u) u
    ·exact bx h fun x l h=>ej (c8<|crgB (nf a.1) u u (oLdP (n:=1) (k:=0) (m:=6) (d:=(kR av)) (u:=e.1) pt35 u u u t35 tm) (s1 u)<|cgB (nf a.1) u u (oCall u (b8.ok g) b70 (oc tm (oc tm o0))) (s2 u u)<|c4<|crgB (nb b.1) u u (oLdP (n:=0) (k:=0) (m:=6) (d:=(kR av)) (u:=i.1) pt35 u u u t35 tm) (s1 u)<|cgB (nb b.1) u u (oCall u (b8.ok l) b70 (oc tm (oc tm o0))) (s2 u u)<|c2<|.nil) (so h) (sb u) u
   ·exact ej (c12<|c6<|.nil) (so h) (sb u) u
  ·exact ej (c12<|c6<|.nil) (so h) (sb u) u
 ·refine jx h (fun c h=>?_) fun c h=>?_
  ·refine wb c u<|sx (c1<|.nil)<|wRet<|pThenR ?_
   obtain rfl:=so h
   exact pT u u
  ·refine wc c u<|wSkip<|pSeq<|wSeq<|bx h fun y o h=>rx (c1<|lP 1 0 6 (kR av) e.1 pt35 u u u t35 u<|lP 0 0 6 (kR av) i.1 pt35 u u u t35 u<|cC (dB.ok o)<|c1<|.nil)<|pSeq<|wRet ?_
   obtain rfl:=so h
   exact pT u u
theorem iS.ok(h:iS.f w a1 a2 a3=some r):FnA PP 67 [(kR aC).sig w,(kR bn).sig a1,(kR av).sig a2,ki.sig a3] (tup [(kL (kR av)).sig r.1,ki.sig r.2.1,ki.sig r.2.2]):=by
 refine fJ Tryz.func67 u fun H0 w0=>?_
 unfold iS.f at h
 refine sx (c3<|cp (oAs cV) tv<|c2<|.nil)<|wSeq<|wSeq<|bx h fun y q h=>rx (c4<|cC (gj.ok q)<|c1<|.nil)<|pSeq<|sx (c2<|.nil)<|jx h (fun e h=>?_) fun e h=>?_
 ·refine wh e u<|wSkip<|pSeq<|sx (cw (oAlloc (id:=12) (ls:=[.d (kN al) []]) ze49 (fun g=>⟨[(.slice none 0 0)],_,u,zN g.H,u⟩)) tv<|.nil)<|sx (cw (oAlloc (id:=13) (ls:=[.d ki 0]) ze3 (fun g=>⟨[(.int .i64 0)],_,u,zI_i64 g.H,u⟩)) tv<|cwn (oSt (n:=0) (k:=0) u u u u z3 tm (cI (by decide))) (s1 u)<|.nil)<|wSeq<|wSeq<|bx h fun a s h=>rx (c4<|cm (oCallS (rest:=[.box 13 3 [.d ki 0],.box 12 49 [.d (kN al) []]]) (R':=[.box 360160 35 (L35 a.2.2.2),.box 13 3 [.d ki 0],.box 12 49 [.d (kN al) []]]) (out':=.f [360160] (sCloN 75 [some (sP ki a.1),some (sP (kR aC) a.2.1),some (sP (kR bn) a.2.2.1),none])) [] [(6,360160)] [] [0,1] [0,1,2] u (gh.ok s) b37 (oE1 tm (oE1 tm (oE1 tm (oE1 tm oE0)))) u u u u u u u u) ⟨u,u,u,u,tv⟩<|.nil)<|pSeq<|wBlock<|wPick (R':=[.box 13 3 [.d ki 0],.box 12 49 [.d (kN al) []],.box 360160 35 (L35 a.2.2.2)]) [1,2,0] u u<|wNilL (kR av) 35 5600 (n:=1) (k:=0) u u u<|bx h fun x j h=>wRangeN (Γ':=[(12,.p 12 0),(13,.p 13 0)]) (Γ2:=fun c i=>[(12,.p 12 0),(13,.p 13 0),(14,.p 14 0),(15,.d (ki.sig i))]) (caps:=[some (sP ki a.1),some (sP (kR aC) a.2.1),some (sP (kR bn) a.2.2.1),none]) (kn:=[70400]) (Rc:=[.box 70400 35 (L35 a.2.2.2)]) [(70400,360160)] (fun(b:Int×(List al))=>[.row 5600 35 (kR av) b.2,.box 13 3 [.d ki b.1],.box 12 49 [.v 5600]]) (fun(b:Int×(List al)) c i=>[.box 14 35 (L35 c),.row 5600 35 (kR av) b.2,.box 13 3 [.d ki b.1],.box 12 49 [.v 5600]]) [] [12,13] (iS.y0) (0,([]:List al)) u (bR.ok (a1:=a.1) (a2:=a.2.1) (a3:=a.2.2.1) (a4:=a.2.2.2)) u b75 j u ⟨u,u,tv⟩ u u u ?_ ?_ ?_
  ·intro X H0 w0 l pv b c i
   exact sx (aL 14 Z35 ze35 zl35<|cwn (oStP (n:=0) (k:=0) (m:=6) (d:=(kR av)) (u:=c) pt35 u u u z35 tm tm) (s2 u u)<|.nil)<|rx (c1<|.nil)<|qA ⟨u,u,u,u,tv⟩
  ·intro X H0 w0 l pv b c i o h
   unfold iS.y0 at h
   refine wBlock<|ix h fun t h=>rx (lN 3 0 u u u t49 u<|lP 0 0 6 (kR av) c pt35 u u u t35 u<|cp (oLit (d:=(kR av)) el49 (by decide) u u u (e1 tm e0)) (s1 u)<|cw (oApp (n:=1) (id':=34) el49 (by decide) u (by decide) t tm tm) (s2 u u)<|c1<|cwn (oStN (n:=3) (m:=1) (k:=0) u u u u z49 u tm tm) (s2 u u)<|cwn (oSt (n:=2) (k:=0) u u u u z3 tm tm) (s2 u u)<|.nil)<|pBlkN<|pDrop (.cons _ (.cons_cons _ (.cons_cons _ (.cons_cons _ .slnil))))<|pSub (Γ':=[]) tv<|pRen 34 5600 u ?_
   obtain rfl:=so h
   exact qN
  ·obtain⟨hj10,h⟩|⟨hj10,h⟩:=ic h
   ·refine jp0 hj10<|pBlkN<|pSeq<|wSeq<|rdx hm (lN 2 0 u u u t49 u<|lB 1 0 u u u t3 u<|c3<|.nil)<|pSeq<|wFrzR (n:=0) (id:=5600) [8] u u ⟨u,tv⟩<|wRet ?_
    obtain rfl:=so h
    exact pRn (.inl u) u u (.tmp u<|.tmp u<|.tmp u<|.nil)
   ·cases h
 ·refine wg e u<|sx (c1<|cp (oAs cV) tv<|c2<|.nil)<|wNil (kR av) 35 9008 8 u u<|wFrzR (n:=0) (id:=9008) [8] u u ⟨u,tv⟩<|wRet<|pThenR ?_
  obtain rfl:=so h
  exact pRn (.inl u) u u (.tmp u<|.tmp u<|.tmp u<|.nil)
theorem ba.ok{a1:al->Option Bool}(h:ba.f c a1=some r):FnA PP 113 [(kL (kR av)).sig c,(sFun PP (rl1 (kR av) kB a1))] (ki.sig r):=by
 refine fJ Tryz.func113 u fun H0 w0=>?_
 unfold ba.f at h
 refine sx (c1<|.nil)<|wSeq<|sx (c3<|.nil) ?_
 obtain⟨k,h,e⟩:=bd h
 refine wK0 (.inr ()=k) ([]) ([]) ?_ ?_
 ·refine wBlock (wLoop ?_)
  refine lW (pc1 k (fun g=>[(0,.d ((kL (kR av)).sig c)),(1,.d ((sFun PP (rl1 (kR av) kB a1)))),(7,.d (ki.sig (c.length:Int))),(8,.d (ki.sig g))]) (fun g=>[]) (ba.l0.partial_correctness c a1) ?_ _ h) ⟨u,u,u,u,tv⟩ u
  clear h
  intro f' ih g h
  refine sx (c1<|.nil)<|wSeq<|jx h (fun a h=>?_) fun a h=>?_
  ·refine wd a u<|wSkip<|pSeq<|wSeq<|wBlock<|sx (c2<|.nil)<|wSeq<|bx h fun l i h=>bx h fun m j h=>rx (c3<|iX u49 z35 i u u<|c1<|cp (oCallV u (rl1i (f:=a1) j) tm (oc tm o0)) (s2 u u)<|.nil)<|pSeq<|jx h (fun b h=>?_) fun b h=>?_
   ·refine wb b u<|sx (c2<|.nil)<|wRet<|pBlkR<|pThenR<|pThenR<|pBlkR<|pThenR ?_
    obtain rfl:=so h
    replace h:=e
    refine pThenR ?_
    obtain rfl:=so h
    exact pT u u
   ·exact wc b u<|wSkip<|pBlkN<|pSeq<|rx (c2<|.nil)<|pLoop (lW (ih _ h) ⟨u,u,u,u,tv⟩ u)
  ·exact we a u<|wExit<|pThenX<|pThenX<|pBlkX<|pJ0 (so h) tv u
 ·rintro rfl
  replace h:=e
  refine pSeq<|sx (c1<|.nil)<|wRet ?_
  obtain rfl:=so h
  exact pT u u
theorem db.ok(h:db.f y a1 a2 a3=some r):FnS PP 67 [.d ((kR aC).sig y),.d ((kR bn).sig a1),.d ((kR av).sig a2),.d (ki.sig a3)] [] [] (.f [80000] (sTR [ki.sig r.2.1,ki.sig r.2.2])) [.row 80000 35 (kR av) r.1]:=by
 refine fnIntroS Tryz.func67 u (by kernel_rfl) fun X H0 w0 pv=>?_
 unfold db.f at h
 refine sx (c3<|cp (oAs cV) tv<|c2<|.nil)<|wSeq<|wSeq<|bx h fun z q h=>rx (c4<|cC (gj.ok q)<|c1<|.nil)<|pSeq<|sx (c2<|.nil)<|jx h (fun e h=>?_) fun e h=>?_
 ·refine wh e u<|wSkip<|pSeq<|sx (cw (oAlloc (id:=12) (ls:=[.d (kN al) []]) ze49 (fun g=>⟨[(.slice none 0 0)],_,u,zN g.H,u⟩)) tv<|.nil)<|sx (cw (oAlloc (id:=13) (ls:=[.d ki 0]) ze3 (fun g=>⟨[(.int .i64 0)],_,u,zI_i64 g.H,u⟩)) tv<|cwn (oSt (n:=0) (k:=0) u u u u z3 tm (cI (by decide))) (s1 u)<|.nil)<|wSeq<|wSeq<|bx h fun a s h=>rx (c4<|cm (oCallS (rest:=[.box 13 3 [.d ki 0],.box 12 49 [.d (kN al) []]]) (R':=[.box 360160 35 (L35 a.2.2.2),.box 13 3 [.d ki 0],.box 12 49 [.d (kN al) []]]) (out':=.f [360160] (sCloN 75 [some (sP ki a.1),some (sP (kR aC) a.2.1),some (sP (kR bn) a.2.2.1),none])) [] [(6,360160)] [] [0,1] [0,1,2] u (gh.ok s) b37 (oE1 tm (oE1 tm (oE1 tm (oE1 tm oE0)))) u u u u u u u u) ⟨u,u,u,u,tv⟩<|.nil)<|pSeq<|wBlock<|wPick (R':=[.box 13 3 [.d ki 0],.box 12 49 [.d (kN al) []],.box 360160 35 (L35 a.2.2.2)]) [1,2,0] u u<|wNilL (kR av) 35 5600 (n:=1) (k:=0) u u u<|bx h fun w j h=>wRangeN (Γ':=[(12,.p 12 0),(13,.p 13 0)]) (Γ2:=fun c i=>[(12,.p 12 0),(13,.p 13 0),(14,.p 14 0),(15,.d (ki.sig i))]) (caps:=[some (sP ki a.1),some (sP (kR aC) a.2.1),some (sP (kR bn) a.2.2.1),none]) (kn:=[70400]) (Rc:=[.box 70400 35 (L35 a.2.2.2)]) [(70400,360160)] (fun(b:Int×(List al))=>[.row 5600 35 (kR av) b.2,.box 13 3 [.d ki b.1],.box 12 49 [.v 5600]]) (fun(b:Int×(List al)) c i=>[.box 14 35 (L35 c),.row 5600 35 (kR av) b.2,.box 13 3 [.d ki b.1],.box 12 49 [.v 5600]]) [] [12,13] (db.y0) (0,([]:List al)) u (bR.ok (a1:=a.1) (a2:=a.2.1) (a3:=a.2.2.1) (a4:=a.2.2.2)) u b75 j u ⟨u,u,tv⟩ u u u ?_ ?_ ?_
  ·intro X H0 w0 l pv b c i
   exact sx (aL 14 Z35 ze35 zl35<|cwn (oStP (n:=0) (k:=0) (m:=6) (d:=(kR av)) (u:=c) pt35 u u u z35 tm tm) (s2 u u)<|.nil)<|rx (c1<|.nil)<|qA ⟨u,u,u,u,tv⟩
  ·intro X H0 w0 l pv b c i o h
   unfold db.y0 at h
   refine wBlock<|ix h fun x h=>rx (lN 3 0 u u u t49 u<|lP 0 0 6 (kR av) c pt35 u u u t35 u<|cp (oLit (d:=(kR av)) el49 (by decide) u u u (e1 tm e0)) (s1 u)<|cw (oApp (n:=1) (id':=34) el49 (by decide) u (by decide) x tm tm) (s2 u u)<|c1<|cwn (oStN (n:=3) (m:=1) (k:=0) u u u u z49 u tm tm) (s2 u u)<|cwn (oSt (n:=2) (k:=0) u u u u z3 tm tm) (s2 u u)<|.nil)<|pBlkN<|pDrop (.cons _ (.cons_cons _ (.cons_cons _ (.cons_cons _ .slnil))))<|pSub (Γ':=[]) tv<|pRen 34 5600 u ?_
   obtain rfl:=so h
   exact qN
  ·obtain⟨hj10,h⟩|⟨hj10,h⟩:=ic h
   ·refine jp0 hj10<|pBlkN<|pSeq<|wSeq<|rdx hm (lN 2 0 u u u t49 u<|lB 1 0 u u u t3 u<|c3<|.nil)<|pSeq<|wRet ?_
    obtain rfl:=so h
    exact pSub (Γ':=[(8,.v 5600),(9,.d (ki.sig w.1.1)),(10,.d (ki.sig 0))]) (sb u)<|pRen 5600 80000 u<|pSvn (t:=8) (id:=80000) [0] u u (.inl u) u u u (fun _=>.tmp u<|.tmp u<|.tmp u<|.nil)
   ·cases h
 ·refine wg e u<|sx (c1<|cp (oAs cV) tv<|c2<|.nil)<|wNil (kR av) 35 9008 8 u u<|wRet<|pThenR ?_
  obtain rfl:=so h
  exact pSub (Γ':=[(8,.v 9008),(9,.d (ki.sig 0)),(10,.d (ki.sig z))]) (sb u)<|pRen 9008 80000 u<|pSvn (t:=8) (id:=80000) [0] u u (.inl u) u u u (fun _=>.tmp u<|.tmp u<|.tmp u<|.nil)
theorem eJ.ok(h:eJ.f b a1=some r):FnA PP 69 [(kR av).sig b,sP (kR cR) a1] (kB.sig r):=by
 refine fJ Tryz.func69 u fun H0 w0=>?_
 unfold eJ.f at h
 refine sx (c2<|.nil)<|wSeq<|bx h fun c a h=>rx (c2<|cC (b8.ok a)<|c2<|.nil)<|pSeq<|wRet ?_
 obtain rfl:=so h
 exact pT u u
theorem aR.ok{a1:al->Option Bool}(h:aR.f E a1=some r):FnS PP 68 [.v 90000,.d ((sFun PP (rl1 (kR av) kB a1)))] [.row 90000 35 (kR av) E] [] (.d ((kL (kR av)).sig r)) []:=by
 refine fnIntroS Tryz.func68 u (by kernel_rfl) fun X H0 w0 pv=>?_
 unfold aR.f at h
 refine sx (cp (oAs cV) tv<|.nil)<|wSeq<|bx h fun z A h=>rx (c2<|cr (oCallB u (ba.ok A) (fK fI) b113 (rc1 (rR (n:=0) u) (rc1 (rD tm) rn0))) (s2 u u)<|c1<|.nil)<|pSeq<|wSeq<|sx (c2<|.nil)<|jx h (fun o h=>?_) fun o h=>?_
 ·refine wd o u<|sx (c2<|.nil)<|wFrzR (n:=0) (id:=90000) [4] u u ⟨u,tv⟩<|wRet<|pThenR ?_
  obtain rfl:=so h
  exact pS1 [] u u (.inl u) u (.tmp u<|.nil)
 ·refine we o u<|wSkip<|pSeq<|wSeq<|sx (c3<|.nil)<|wWeak (Γ':=[(0,.v 90000),(1,.d ((sFun PP (rl1 (kR av) kB a1)))),(5,.d (ki.sig z)),(6,.d (ki.sig (IntKind.i64.wrap (z+1))))]) (sb u)<|wRen 90000 1000 u ?_
  obtain⟨B,h,C⟩:=bd h
  refine wK2 (fun a b=>(a,b)=B) (fun a b=>[(0,.v 1000),(5,.d (ki.sig b))]) (fun a b=>[.row 1000 35 (kR av) a]) ?_ ?_
  ·refine wBlock (wLoop ?_)
   refine lW (pc3 B (fun p q l=>[(0,.v 1000),(1,.d ((sFun PP (rl1 (kR av) kB a1)))),(5,.d (ki.sig q)),(6,.d (ki.sig l))]) (fun p q l=>[.row 1000 35 (kR av) p]) (aR.l0.partial_correctness a1) ?_ _ _ _ h) ⟨u,u,u,u,tv⟩ u
   clear h
   intro f' ih p q l h
   refine wSeq<|sx (c2<|cr (oLenR (n:=0) u49 u tm) (s1 u)<|c1<|.nil)<|jx h (fun g h=>?_) fun g h=>?_
   ·refine wd g u<|wSkip<|pSeq ?_
    obtain⟨F,h,D⟩:=bd h
    refine wJ2 (fun c e=>(c,e)=F) (fun c e=>[(0,.v 1000),(1,.d ((sFun PP (rl1 (kR av) kB a1)))),(5,.d (ki.sig e)),(6,.d (ki.sig l))]) (fun c e=>[.row 1000 35 (kR av) c]) ?_ ?_
    ·refine wBlock<|wSeq<|bx h fun s t h=>rx (c2<|cr (oIdxR (n:=0) u49 z35 u t tm tm) (s2 u u)<|cr (oLdE (n:=0) u t u t35 tm) (s1 u)<|aL 7 Z35 ze35 zl35<|cwn (oStP (n:=0) (k:=0) (m:=6) (d:=(kR av)) (u:=s) pt35 u u u z35 tm tm) (s2 u u)<|.nil)<|pSeq<|wSeq<|bx h fun G y h=>rx (c1<|lP 0 0 6 (kR av) s pt35 u u u t35 u<|cp (oCallV u (rl1i (f:=a1) y) tm (oc tm o0)) (s2 u u)<|c1<|.nil)<|pSeq<|jx h (fun i h=>?_) fun i h=>?_
     ·exact wb i u<|wSeq<|bx h fun H w h=>rx (c2<|lP 0 0 6 (kR av) s pt35 u u u t35 u<|cr (oIdxR (n:=1) u49 z35 u w tm tm) (s2 u u)<|cwn (oStE (n:=1) u w u z35 tm tm) (s2 u u)<|.nil)<|pSeq<|rx (c3<|.nil)<|pBlkN<|pDrop (.cons _ (.cons_cons _ .slnil))<|pJ2 _ _ (so h) (sb u) u
     ·exact wc i u<|wSkip<|pBlkN<|pDrop (.cons _ (.cons_cons _ .slnil))<|pJ2 _ _ (so h) (sb u) u
    ·rintro c e rfl
     replace h:=D
     exact rx (c3<|.nil)<|pLoop (lW (ih _ _ _ h) ⟨u,u,u,u,tv⟩ u)
   ·exact we g u<|wExit<|pThenX<|pThenX<|pBlkX<|pJ2 _ _ (so h) (sb u) u
  ·rintro a b rfl
   replace h:=C
   refine pSeq<|wSeq<|ix h fun j h=>rx (c2<|cr (oSlT (n:=0) u49 z35 u j.1 j.2 tm tm) (s2 u u)<|cwn (oClr (n:=0) u49 ze35 nE (by decide) u (by have:=j;omega) tm) (s1 u)<|.nil)<|pSeq<|wSeq<|ix h fun x h=>rx (c2<|cw (oCutR (n:=0) (id':=41) u49 z35 u x.1 x.2 tm tm) (s2 u u)<|c1<|.nil)<|pSeq<|wFrzR (n:=0) (id:=41) [4] u u ⟨u,tv⟩<|wRet ?_
   obtain rfl:=so h
   exact pS1 [] u u (.inl u) u (.tmp u<|.nil)
theorem eA.ok(h:eA.f b a1=some r):FnA PP 30 [(kR cR).sig b,(kR av).sig a1] ((kL (kR av)).sig r):=by
 refine fJ Tryz.func30 u fun H0 w0=>?_
 unfold eA.f at h
 refine sx (c2<|cp (oAs cV) tv<|.nil)<|wSeq<|bx h fun a c h=>rx (c6<|c1<|cm (oCallS (rest:=[]) (R':=[.row 310280 35 (kR av) a.1]) (out':=.f [310280] (sTR [ki.sig a.2.1,ki.sig a.2.2])) [] [(80000,310280)] [] [] [0] u (db.ok c) b67 (oE1 tm (oE1 tm (oE1 tm (oE1 tm oE0)))) u u u u u u u u) ⟨u,u,u,u,tv⟩<|c1<|cp (oExT0 tm) (s1 u)<|cp (oExTk (k:=0) u tm) (s1 u)<|cp (oExTk (k:=1) u tm) (s1 u)<|c3<|.nil)<|pSeq<|wSeq<|bx h fun g e h=>rx (c1<|cp (oMkF (Rl:=rl1 (kR av) kB (fun i=>eJ.f i b)) u b69 (rl1e eJ.ok) (oc tm o0)) (s1 u)<|cm (oCallS (rest:=[]) (R':=[]) (out':=.d ((kL (kR av)).sig g)) [(90000,310280)] [] [0] [] [] u (aR.ok e) b68 (oE1 tm (oE1 tm oE0)) u u u u u u u u) (s2 u u)<|c1<|.nil)<|pSeq<|wRet ?_
 obtain rfl:=so h
 exact pT u u
theorem bV.ok(h:bV.f l=some r):FnA PP 39 [(kR cR).sig l] (ki.sig r):=by
 refine fJ Tryz.func39 u fun H0 w0=>?_
 unfold bV.f at h
 refine sx (c2<|.nil)<|wSeq<|bx h fun p v h=>rx (c3<|cC (eA.ok v)<|c1<|.nil)<|pSeq<|wSeq<|wSeq<|bx h fun g w h=>rx (c3<|cC (eA.ok w)<|c2<|.nil)<|pSeq ?_
 obtain⟨x,h,o⟩:=bd h
 refine wK0 (.inr ()=x) ([]) ([]) ?_ ?_
 ·refine wBlock (wLoop ?_)
  refine lW (pc1 x (fun e=>[(1,.d (sP (kR cR) l)),(3,.d ((kL (kR av)).sig p)),(13,.d ((kL (kR av)).sig g)),(14,.d (ki.sig (g.length:Int))),(15,.d (ki.sig e))]) (fun e=>[]) (bV.l0.partial_correctness l p g) ?_ _ h) ⟨u,u,u,u,u,tv⟩ u
  clear h
  intro f' ih e h
  refine sx (c1<|.nil)<|wSeq<|jx h (fun b h=>?_) fun b h=>?_
  ·refine wd b u<|wSkip<|pSeq<|wSeq<|wBlock<|wSeq<|bx h fun i q h=>rx (c1<|iX u49 z35 q u u<|c1<|aL 5 Z35 ze35 zl35<|c1<|cwn (oStP (n:=0) (k:=0) (m:=6) (d:=(kR av)) (u:=i) pt35 u u u z35 tm tm) (s2 u u)<|.nil)<|pSeq<|wB h (fun j=>[(1,.d (sP (kR cR) l)),(3,.d ((kL (kR av)).sig p)),(13,.d ((kL (kR av)).sig g)),(14,.d (ki.sig (g.length:Int))),(15,.d (ki.sig e)),(33,.d (kB.sig j))]) (fun j=>[.box 5 35 (L35 i)]) (fun A h=>?_) fun j h=>?_
   ·refine jx h (fun a h=>?_) fun a h=>?_
    ·exact bx h fun y s h=>bx h fun z t h=>rdx hm (c6<|crgB (dT a.1) u u (oLdP (n:=0) (k:=0) (m:=6) (d:=(kR av)) (u:=i) pt35 u u u t35 tm) (s1 u)<|c2<|cgB (dT a.1) u u (oIdx u49 z35 s tm tm) (s2 u u)<|c1<|cgB (dT a.1) u u (oCall u (dB.ok t) b76 (oc tm (oc tm (oc tm o0)))) (s3 u u u)<|c2<|.nil)<|pJ1 _ (so h) (sb u) u
    ·exact rdx hm (c12<|c2<|.nil)<|pJ1 _ (so h) (sb u) u
   ·refine jx h (fun c h=>?_) fun c h=>?_
    ·refine wb c u<|sx (c1<|.nil)<|wRet<|pBlkR<|pThenR<|pThenR<|pBlkR<|pThenR ?_
     obtain rfl:=so h
     replace h:=o
     refine pThenR ?_
     obtain rfl:=so h
     exact pT u u
    ·exact wc c u<|wSkip<|pBlkN<|pSeq<|rx (c2<|.nil)<|pDrop (.cons _ .slnil)<|pLoop (lW (ih _ h) ⟨u,u,u,u,u,tv⟩ u)
  ·exact we b u<|wExit<|pThenX<|pThenX<|pBlkX<|pJ0 (so h) tv u
 ·rintro rfl
  replace h:=o
  refine pSeq<|sx (c1<|.nil)<|wRet ?_
  obtain rfl:=so h
  exact pT u u
theorem eB.ok(h:eB.f t=some r):FnA PP 40 [(kR cR).sig t] (ki.sig r):=by
 refine fJ Tryz.func40 u fun H0 w0=>?_
 unfold eB.f at h
 refine sx (c2<|.nil)<|wSeq<|bx h fun g A h=>rx (c6<|cC (eT.ok A)<|c4<|aL 3 Z35 ze35 zl35<|cwn (oStP (n:=0) (k:=0) (m:=6) (d:=(kR av)) (u:=g.1) pt35 u u u z35 tm tm) (s2 u u)<|c2<|.nil)<|pSeq<|wSeq<|bx h fun i B h=>rx (c6<|cC (eT.ok B)<|c4<|aL 6 Z35 ze35 zl35<|cwn (oStP (n:=0) (k:=0) (m:=6) (d:=(kR av)) (u:=i.1) pt35 u u u z35 tm tm) (s2 u u)<|c2<|.nil)<|pSeq<|wSeq<|wBlock<|sx (c3<|.nil)<|jx h (fun j h=>?_) fun j h=>?_
 ·refine wh j u<|wB h (fun v=>[(1,.d (sP (kR cR) t)),(3,.p 3 0),(6,.p 6 0),(7,.d (ki.sig i.2.1)),(34,.d (kB.sig v))]) (fun v=>[.box 6 35 (L35 i.1),.box 3 35 (L35 g.1)]) (fun C h=>?_) fun v h=>?_
  ·refine bx h fun I s h=>jx h (fun l h=>?_) fun l h=>?_
   ·exact bx h fun D w h=>ej (c3<|cC (b8.ok s)<|c3<|crgB l.1 u u (oLdP (n:=1) (k:=0) (m:=6) (d:=(kR av)) (u:=g.1) pt35 u u u t35 tm) (s1 u)<|cgB l.1 u u (oCall u (b8.ok w) b70 (oc tm (oc tm o0))) (s2 u u)<|c3<|.nil) (so h) (sb u) u
   ·exact ej (c3<|cC (b8.ok s)<|c8<|.nil) (so h) (sb u) u
  ·refine jx h (fun a h=>?_) fun a h=>?_
   ·refine wb a u<|wSeq<|bx h fun E x h=>rx (c3<|lP 1 0 6 (kR av) g.1 pt35 u u u t35 u<|cC (dB.ok x)<|c1<|.nil)<|pSeq<|wRet<|pBlkR<|pThenR ?_
    obtain rfl:=so h
    exact pT u u
   ·refine wc a u<|wB h (fun o=>[(1,.d (sP (kR cR) t)),(3,.p 3 0),(6,.p 6 0),(51,.d (kB.sig o))]) (fun o=>[.box 6 35 (L35 i.1),.box 3 35 (L35 g.1)]) (fun C h=>?_) fun o h=>?_
    ·refine jx h (fun b h=>?_) fun b h=>?_
     ·refine bx h fun F q h=>jx h (fun c h=>?_) fun c h=>?_
      ·exact bx h fun G y h=>ej (c6<|cgB (nf b.1) u u (oCall u (b8.ok q) b70 (oc tm (oc tm o0))) (s2 u u)<|c3<|crgB c.1 u u (oLdP (n:=0) (k:=0) (m:=6) (d:=(kR av)) (u:=i.1) pt35 u u u t35 tm) (s1 u)<|cgB c.1 u u (oCall u (b8.ok y) b70 (oc tm (oc tm o0))) (s2 u u)<|c4<|.nil) (so h) (sb u) u
      ·exact ej (c6<|cgB (nf b.1) u u (oCall u (b8.ok q) b70 (oc tm (oc tm o0))) (s2 u u)<|c8<|c1<|.nil) (so h) (sb u) u
     ·exact ej (c8<|c1<|csU u u<|csU u u<|csU u u<|csU u u<|c3<|.nil) (so h) (sb u) u
    ·refine jx h (fun e h=>?_) fun e h=>?_
     ·refine wb e u<|sx (c1<|.nil)<|wRet<|pBlkR<|pThenR ?_
      obtain rfl:=so h
      exact pT u u
     ·refine wc e u<|wSkip<|pBlkN<|pSeq<|wSeq<|bx h fun H z h=>rx (c1<|lP 1 0 6 (kR av) g.1 pt35 u u u t35 u<|lP 0 0 6 (kR av) i.1 pt35 u u u t35 u<|cC (dB.ok z)<|c1<|.nil)<|pSeq<|wRet ?_
      obtain rfl:=so h
      exact pT u u
 ·refine wg j u<|sx (c1<|.nil)<|wRet<|pBlkR<|pThenR ?_
  obtain rfl:=so h
  exact pT u u
theorem gV.ok{r:List (Int×(Option (ed->Option Int)))}(h:gV.f=some r):FnA PP 19 [] ((sMap ki (kFn PP (rl1 (kR cR) ki)) r)):=by
 refine fJ Tryz.func19 u fun H0 w0=>?_
 unfold gV.f at h
 refine sx (cp (oAs cV) tv<|.nil)<|sx (cw (oMkMap (id:=1) (dk:=ki) (dv:=(kFn PP (rl1 (kR cR) ki)))) tv<|cwn (oInsert (n:=0) (dk:=ki) (dv:=(kFn PP (rl1 (kR cR) ki))) u u63 mk3 u u tm (cI (by decide)) (oSome (oFn b38 (rl1n eG.ok)))) (s1 u)<|cwn (oInsert (n:=0) (dk:=ki) (dv:=(kFn PP (rl1 (kR cR) ki))) u u63 mk3 u u tm (cI (by decide)) (oSome (oFn b39 (rl1n bV.ok)))) (s1 u)<|cwn (oInsert (n:=0) (dk:=ki) (dv:=(kFn PP (rl1 (kR cR) ki))) u u63 mk3 u u tm (cI (by decide)) (oSome (oFn b40 (rl1n eB.ok)))) (s1 u)<|c2<|.nil)<|wFrzM (n:=0) (id:=1) 0 u u<|wRet ?_
 obtain rfl:=so h
 exact pT u u
theorem dC.ok(h:dC.f j a1 a2 a3 a4 a b=some r):FnA PP 9 [(kR aC).sig j,(kR bn).sig a1,ki.sig a2,ki.sig a3,ki.sig a4,(kR av).sig a,(kR av).sig b] (tup [ki.sig r.1,ki.sig r.2]):=by
 refine fJ Tryz.func9 u fun H0 w0=>?_
 unfold dC.f at h
 refine sx (c6<|.nil)<|wSeq<|sx (c2<|cp (oLit (d:=(kR av)) el49 (by decide) u u u (e1 tm (e1 tm e0))) (s2 u u)<|c2<|.nil) ?_
 obtain⟨q,h,o⟩:=bd h
 refine wK0 (.inr ()=q) ([(2,.d (ki.sig a2)),(3,.d (ki.sig a3)),(4,.d (ki.sig a4)),(7,.d (sP (kR aC) j)),(8,.d (sP (kR bn) a1)),(12,.d (sP (kR av) a)),(13,.d (sP (kR av) b))]) ([]) ?_ ?_
 ·refine wBlock (wLoop ?_)
  refine lW (pc1 q (fun s=>[(2,.d (ki.sig a2)),(3,.d (ki.sig a3)),(4,.d (ki.sig a4)),(7,.d (sP (kR aC) j)),(8,.d (sP (kR bn) a1)),(12,.d (sP (kR av) a)),(13,.d (sP (kR av) b)),(27,.d ((kL (kR av)).sig ([a,b]:List al))),(28,.d (ki.sig (([a,b]:List al).length:Int))),(29,.d (ki.sig s))]) (fun s=>[]) (dC.l0.partial_correctness j a1 a4 a b) ?_ _ h) ⟨u,u,u,u,u,u,u,u,u,u,tv⟩ u
  clear h
  intro f' ih s h
  refine sx (c1<|.nil)<|wSeq<|jx h (fun c h=>?_) fun c h=>?_
  ·refine wd c u<|wSkip<|pSeq<|wSeq<|wBlock<|wSeq<|bx h fun p t h=>rx (iX u49 z35 t u u<|c1<|aL 17 Z35 ze35 zl35<|cwn (oStP (n:=0) (k:=0) (m:=6) (d:=(kR av)) (u:=p) pt35 u u u z35 tm tm) (s2 u u)<|.nil)<|pSeq<|wSeq<|bx h fun B v h=>rx (c2<|lP 0 0 6 (kR av) p pt35 u u u t35 u<|c1<|cC (dL.ok v)<|c4<|aL 18 Z35 ze35 zl35<|cwn (oStP (n:=0) (k:=0) (m:=6) (d:=(kR av)) (u:=B.1) pt35 u u u z35 tm tm) (s2 u u)<|c2<|.nil)<|pSeq<|sx (c2<|.nil)<|jx h (fun e h=>?_) fun e h=>?_
   ·exact wh e u<|wSkip<|pBlkN<|pSeq<|rx (c2<|.nil)<|pDrop (.cons _ (.cons _ .slnil))<|pLoop (lW (ih _ h) ⟨u,u,u,u,u,u,u,u,u,u,tv⟩ u)
   ·refine wg e u<|sx (c3<|.nil)<|wRet<|pBlkR<|pThenR<|pThenR<|pBlkR<|pThenR ?_
    obtain rfl:=so h
    replace h:=o
    refine pThenR ?_
    obtain rfl:=so h
    exact pRn (.inl u) u u (.tmp u<|.tmp u<|.nil)
  ·exact we c u<|wExit<|pThenX<|pThenX<|pBlkX<|pJ0 (so h) (sb u) u
 ·rintro rfl
  replace h:=o
  refine pSeq<|wSeq<|bx h fun C w h=>rx (cC (gV.ok w)<|c1<|cp (oLookup u63 mk3 zv61 zFn u tm tm) (s2 u u)<|c4<|c1<|.nil)<|pSeq<|wSeq<|sx (c2<|.nil)<|jx h (fun g h=>?_) fun g h=>?_
  ·refine wb g u<|sx (c2<|.nil)<|wRet<|pThenR ?_
   obtain rfl:=so h
   exact pRn (.inl u) u u (.tmp u<|.tmp u<|.nil)
  ·refine wc g u<|wSkip<|pSeq<|wSeq<|wSeq<|bx h fun E x h=>rx (c4<|cC (fy.ok x)<|c4<|c1<|.nil)<|pSeq<|wB h (fun l=>[(3,.d (ki.sig a3)),(4,.d (ki.sig a4)),(7,.d (sP (kR aC) j)),(8,.d (sP (kR bn) a1)),(12,.d (sP (kR av) a)),(13,.d (sP (kR av) b)),(21,.d ((kFn PP (rl1 (kR cR) ki)).sig ((mGet C none a2).1))),(67,.d (kB.sig l))]) (fun l=>[]) (fun q h=>?_) fun l h=>?_
   ·refine jx h (fun y h=>?_) fun y h=>?_
    ·exact ej (c6<|.nil) (so h) (sb u) u
    ·exact ej (c6<|.nil) (so h) (sb u) u
   ·refine jx h (fun i h=>?_) fun i h=>?_
    ·refine wb i u<|sx (c2<|.nil)<|wRet<|pThenR ?_
     obtain rfl:=so h
     exact pRn (.inl u) u u (.tmp u<|.tmp u<|.nil)
    ·refine wc i u<|wSkip<|pSeq<|wSeq<|bx h fun D z h=>bx h fun F A h=>rx (c6<|c1<|cp (oBuild (fs:=cR) (u:=⟨j,a1,a3,a4,a,b⟩) u ze68 pl68 po68 (.op (zc:=[(.slice none 0 0),(.slice none 0 0)]) tm u (qL tm u (qI tm u (qI tm u (qT tm u (qT tm u .nil))))))) ⟨u,u,u,u,u,u,tv⟩<|cp (oCallV u (rl1i (f:=D) A) (oGot z tm) (oc tm o0)) (s2 u u)<|c2<|.nil)<|pSeq<|wRet ?_
     obtain rfl:=so h
     exact pRn (.inl u) u u (.tmp u<|.tmp u<|.nil)
theorem cM.ok(h:cM.f g=some r):FnA PP 139 [kS.sig g] (kB.sig r):=by
 refine fJ Tryz.func139 u fun H0 w0=>?_
 unfold cM.f at h
 refine sx (c1<|.nil)<|wSeq<|sx (c1<|.nil) ?_
 obtain⟨o,h,n⟩:=bd h
 refine wK0 (.inr ()=o) ([(0,.d (kS.sig g))]) ([]) ?_ ?_
 ·refine wBlock (wLoop ?_)
  refine lW (pc1 o (fun e=>[(0,.d (kS.sig g)),(3,.d (ki.sig e))]) (fun e=>[]) (cM.l0.partial_correctness g) ?_ _ h) ⟨u,u,tv⟩ u
  clear h
  intro f' ih e h
  refine wSeq<|sx (c2<|cp (oLenS u9 tm) (s1 u)<|c1<|.nil)<|jx h (fun b h=>?_) fun b h=>?_
  ·refine wd b u<|wSkip<|pSeq<|wSeq<|wBlock<|wB h (fun i=>[(0,.d (kS.sig g)),(3,.d (ki.sig e)),(19,.d (kB.sig i))]) (fun i=>[]) (fun p h=>?_) fun i h=>?_
   ·refine ix h fun a h=>jx h (fun j h=>?_) fun j h=>?_
    ·exact ej (c2<|cp (oIdxS u9 a.1 a.2 tm tm) (s2 u u)<|c6<|c1<|.nil) (so h) (sb u) u
    ·exact ix h fun k h=>ej (c2<|cp (oIdxS u9 a.1 a.2 tm tm) (s2 u u)<|c4<|cgB (dF j.1) u u (oIdxS u9 k.1 k.2 tm tm) (s2 u u)<|c2<|.nil) (so h) (sb u) u
   ·refine jx h (fun c h=>?_) fun c h=>?_
    ·refine wb c u<|sx (c1<|.nil)<|wRet<|pBlkR<|pThenR<|pThenR<|pBlkR<|pThenR ?_
     obtain rfl:=so h
     replace h:=n
     refine pThenR ?_
     obtain rfl:=so h
     exact pT u u
    ·exact wc c u<|wSkip<|pBlkN<|pSeq<|rx (c3<|.nil)<|pLoop (lW (ih _ h) ⟨u,u,tv⟩ u)
  ·exact we b u<|wExit<|pThenX<|pThenX<|pBlkX<|pJ0 (so h) (sb u) u
 ·rintro rfl
  replace h:=n
  refine pSeq<|wB h (fun l=>[(2,.d (kB.sig l))]) (fun l=>[]) (fun o h=>?_) fun l h=>?_
  ·refine jx h (fun m h=>?_) fun m h=>?_
   ·exact ej (c1<|cp (oLenS u9 tm) (s1 u)<|c3<|cgB (dT m.1) u u (oLenS u9 tm) (s1 u)<|c3<|.nil) (so h) (sb u) u
   ·exact ej (c1<|cp (oLenS u9 tm) (s1 u)<|c6<|c1<|.nil) (so h) (sb u) u
  ·refine wRet ?_
   obtain rfl:=so h
   exact pT u u
theorem dH.ok(h:dH.f g a1=some r):FnA PP 140 [(kI .u32).sig g,ki.sig a1] (kB.sig r):=by
 refine fJ Tryz.func140 u fun H0 w0=>?_
 unfold dH.f at h
 refine sx (c1<|.nil)<|wSeq<|sx (c1<|.nil)<|kX h (fun b=>[(0,.d ((kI .u32).sig b))]) (fun b=>[]) (fun i h=>?_) fun b h=>?_
 ·refine wBlock (wLoop ?_)
  refine lW (pc2 i (fun c e=>[(0,.d ((kI .u32).sig c)),(1,.d (ki.sig a1)),(5,.d (ki.sig e))]) (fun c e=>[]) (dH.l0.partial_correctness a1) ?_ _ _ h) ⟨u,u,u,tv⟩ u
  clear h
  intro f' ih c e h
  refine wSeq<|sx (c3<|.nil)<|jx h (fun a h=>?_) fun a h=>?_
  ·exact wd a u<|wSkip<|pSeq<|wSeq<|wBlock<|rx (c1<|cp (oQuo (by decide) tm (cI (by decide))) (s1 u)<|c1<|.nil)<|pBlkN<|pSeq<|rx (c3<|.nil)<|pLoop (lW (ih _ _ h) ⟨u,u,u,tv⟩ u)
  ·exact we a u<|wExit<|pThenX<|pThenX<|pBlkX<|pJ1 _ (so h) (sb u) u
 ·refine pSeq<|sx (c3<|.nil)<|wRet ?_
  obtain rfl:=so h
  exact pT u u
theorem bQ.ok(h:bQ.f a=some r):FnA PP 114 [(kR aC).sig a] (kB.sig r):=by
 refine fJ Tryz.func114 u fun H0 w0=>?_
 unfold bQ.f at h
 refine sx (c2<|.nil)<|wSeq<|wB h (fun t=>[(1,.d (sP (kR aC) a)),(25,.d (kB.sig t))]) (fun t=>[]) (fun v h=>?_) fun t h=>?_
 ·refine jx h (fun B h=>?_) fun B h=>?_
  ·exact ej (c12<|c6<|c1<|.nil) (so h) (sb u) u
  ·refine jx h (fun C h=>?_) fun C h=>?_
   ·exact ej (c12<|c6<|c1<|.nil) (so h) (sb u) u
   ·exact ej (c12<|c6<|c1<|.nil) (so h) (sb u) u
 ·refine jx h (fun k h=>?_) fun k h=>?_
  ·refine wb k u<|sx (c1<|.nil)<|wRet<|pThenR ?_
   obtain rfl:=so h
   exact pT u u
  ·refine wc k u<|wSkip<|pSeq<|wSeq<|sx (c4<|.nil) ?_
   obtain⟨v,h,l⟩:=bd h
   refine wK0 (.inr ()=v) ([]) ([]) ?_ ?_
   ·refine wBlock (wLoop ?_)
    refine lW (pc1 v (fun b=>[(1,.d (sP (kR aC) a)),(27,.d ((kL kS).sig a.Names)),(28,.d (ki.sig (a.Names.length:Int))),(29,.d (ki.sig b))]) (fun b=>[]) (bQ.l2.partial_correctness a) ?_ _ h) ⟨u,u,u,u,tv⟩ u
    clear h
    intro f' ih b h
    refine sx (c1<|.nil)<|wSeq<|jx h (fun c h=>?_) fun c h=>?_
    ·refine wd c u<|wSkip<|pSeq<|wSeq<|wBlock<|wSeq<|bx h fun m w h=>rx (c1<|iX u22 z9 w u u<|c3<|.nil)<|pSeq<|wSeq<|wB h (fun n=>[(1,.d (sP (kR aC) a)),(3,.d (ki.sig b)),(4,.d (kS.sig m)),(27,.d ((kL kS).sig a.Names)),(28,.d (ki.sig (a.Names.length:Int))),(29,.d (ki.sig b)),(47,.d (kB.sig n))]) (fun n=>[]) (fun x h=>?_) fun n h=>?_
     ·refine bx h fun D o h=>jx h (fun e h=>?_) fun e h=>?_
      ·exact rdx hm (c1<|cC (cM.ok o)<|c12<|.nil)<|pJ1 _ (so h) (sb u) u
      ·exact bx h fun E y h=>bx h fun F z h=>rdx hm (c1<|cC (cM.ok o)<|c4<|c1<|cgB (nb e.1) u u (oIdx u23 z70 y tm tm) (s2 u u)<|c4<|cgB (nb e.1) u u (oCall u (dH.ok z) b140 (oc tm (oc tm o0))) (s2 u u)<|c1<|.nil)<|pJ1 _ (so h) (sb u) u
     ·refine jx h (fun g h=>?_) fun g h=>?_
      ·refine wb g u<|sx (c1<|.nil)<|wRet<|pThenR<|pBlkR<|pThenR<|pThenR<|pBlkR<|pThenR ?_
       obtain rfl:=so h
       replace h:=l
       refine pThenR ?_
       obtain rfl:=so h
       exact pT u u
      ·refine wc g u<|wSkip<|pSeq<|wSeq<|ix h fun p h=>rx (c3<|cp (oCutHi u22 z9 p.1 p.2 tm tm) (s2 u u)<|c2<|.nil)<|pSeq ?_
       obtain⟨x,h,s⟩:=bd h
       refine wK0 (.inr ()=x) ([(1,.d (sP (kR aC) a)),(27,.d ((kL kS).sig a.Names)),(28,.d (ki.sig (a.Names.length:Int))),(29,.d (ki.sig b))]) ([]) ?_ ?_
       ·refine wBlock (wLoop ?_)
        refine lW (pc1 x (fun q=>[(1,.d (sP (kR aC) a)),(4,.d (kS.sig m)),(27,.d ((kL kS).sig a.Names)),(28,.d (ki.sig (a.Names.length:Int))),(29,.d (ki.sig b)),(51,.d ((kL kS).sig (lCut a.Names 0 b))),(52,.d (ki.sig ((lCut a.Names 0 b).length:Int))),(53,.d (ki.sig q))]) (fun q=>[]) (bQ.l3.partial_correctness a b m) ?_ _ h) ⟨u,u,u,u,u,u,u,u,tv⟩ u
        clear h
        intro f' ih q h
        refine sx (c1<|.nil)<|wSeq<|jx h (fun i h=>?_) fun i h=>?_
        ·refine wd i u<|wSkip<|pSeq<|wSeq<|wBlock<|wSeq<|bx h fun G A h=>rx (iX u22 z9 A u u<|c2<|.nil)<|pSeq<|sx (c2<|cp (oSEq u tm tm) (s2 u u)<|.nil)<|jx h (fun j h=>?_) fun j h=>?_
         ·refine wd j u<|sx (c1<|.nil)<|wRet<|pBlkR<|pThenR<|pThenR<|pBlkR<|pThenR ?_
          obtain rfl:=so h
          replace h:=s
          refine pBlkR<|pThenR<|pThenR<|pBlkR<|pThenR ?_
          obtain rfl:=so h
          replace h:=l
          refine pThenR ?_
          obtain rfl:=so h
          exact pT u u
         ·exact we j u<|wSkip<|pBlkN<|pSeq<|rx (c2<|.nil)<|pLoop (lW (ih _ h) ⟨u,u,u,u,u,u,u,u,tv⟩ u)
        ·exact we i u<|wExit<|pThenX<|pThenX<|pBlkX<|pJ0 (so h) (sb u) u
       ·rintro rfl
        replace h:=s
        exact pBlkN<|pSeq<|rx (c2<|.nil)<|pLoop (lW (ih _ h) ⟨u,u,u,u,tv⟩ u)
    ·exact we c u<|wExit<|pThenX<|pThenX<|pBlkX<|pJ0 (so h) tv u
   ·rintro rfl
    replace h:=l
    refine pSeq<|sx (c1<|.nil)<|wRet ?_
    obtain rfl:=so h
    exact pT u u
theorem aP.ok(h:aP.f i a1 a2=some r):FnA PP 101 [(kR aC).sig i,ki.sig a1,ki.sig a2] (kB.sig r):=by
 refine fJ Tryz.func101 u fun H0 w0=>?_
 unfold aP.f at h
 refine sx (c2<|.nil)<|wSeq<|bx h fun k g h=>rx (c3<|iX u23 z70 g u u<|c2<|.nil)<|pSeq<|wSeq<|sx (c1<|.nil)<|kX h (fun b=>[(7,.d ((kI .u32).sig b))]) (fun b=>[]) (fun j h=>?_) fun b h=>?_
 ·refine wBlock (wLoop ?_)
  refine lW (pc2 j (fun c e=>[(2,.d (ki.sig a2)),(7,.d ((kI .u32).sig c)),(8,.d (ki.sig e))]) (fun c e=>[]) (aP.l0.partial_correctness a2) ?_ _ _ h) ⟨u,u,u,tv⟩ u
  clear h
  intro f' ih c e h
  refine wSeq<|sx (c3<|.nil)<|jx h (fun a h=>?_) fun a h=>?_
  ·exact wd a u<|wSkip<|pSeq<|wSeq<|wBlock<|rx (c1<|cp (oQuo (by decide) tm (cI (by decide))) (s1 u)<|c1<|.nil)<|pBlkN<|pSeq<|rx (c3<|.nil)<|pLoop (lW (ih _ _ h) ⟨u,u,u,tv⟩ u)
  ·exact we a u<|wExit<|pThenX<|pThenX<|pBlkX<|pJ1 _ (so h) (sb u) u
 ·refine pSeq<|sx (c1<|cp (oRem (by decide) tm (cI (by decide))) (s1 u)<|c2<|.nil)<|wRet ?_
  obtain rfl:=so h
  exact pT u u
end Go.Proofs.YtmjcpkmongafnaaGreatDoor.TT
