import Derived.Test.YtmjcpkmongafnaaGreatDoorDTT
set_option linter.unusedVariables false
set_option synthInstance.maxHeartbeats 400000
set_option synthInstance.maxSize 4000
set_option maxRecDepth 10000
namespace Go.Proofs.YtmjcpkmongafnaaGreatDoor.TT
open Go Go.Proofs.YtmjcpkmongafnaaGreatDoor.Ab
class LeC(k:Nat){α:Type}(b:Option α) where
 a:Option α
 h:∀r,a=some r->b=some r
theorem lB{α β:Type} {a b:Option α} {f g:α->Option β}(h:∀r,a=some r->b=some r)(k:∀y r,f y=some r->g y=some r):∀r,(a>>=f)=some r->(b>>=g)=some r:=fun r e=>by
 cases a with
 |none=>cases e
 |some y=>rw[h y rfl];exact k y r e
theorem lI{α:Type} {p:Prop}[Decidable p]{a b c d:Option α}(h:∀r,a=some r->b=some r)(k:∀r,c=some r->d=some r):∀r,(if p then a else c)=some r->(if p then b else d)=some r:=by
 by_cases q:p
 ·rw[if_pos q,if_pos q];exact h
 ·rw[if_neg q,if_neg q];exact k
instance(priority:=10) LeC.r{k:Nat} {α:Type} {b:Option α}:LeC k b:=⟨b,fun _ h=>h⟩
instance LeC.b{k:Nat} {α β:Type} {b:Option α} {f:α->Option β}[A:LeC k b][B:∀y,LeC k (f y)]:LeC k (b>>=f):=⟨A.a>>=fun y=>(B y).a,lB A.h fun y=>(B y).h⟩
instance LeC.i{k:Nat} {α:Type} {p:Prop}[Decidable p]{b c:Option α}[A:LeC k b][B:LeC k c]:LeC k (if p then b else c):=⟨if p then A.a else B.a,lI A.h B.h⟩
@[reducible] def LeC.of(k:Nat){α:Type} {b c:Option α}(e:c=b)(A:LeC k b){j:Nat}:LeC j c:=⟨A.a,fun r h=>e.trans (A.h r h)⟩
@[reducible] def LeC.n{k:Nat} {α:Type} {b:Option α}:LeC k b:=⟨none,fun _ h=>nomatch h⟩
@[reducible] def LeC.s{k:Nat} {α β:Type} {v:α} {f:α->Option β}(A:LeC k (f v)):LeC k (some v>>=f):=⟨A.a,A.h⟩
@[reducible] def it{k:Nat} {α:Type} {b:Option α}[A:LeC k b]:LeC k b:=A
@[reducible] def LeC.c{k:Nat} {α β:Type} {b:Option α} {f:α->Option β}(A:LeC k b)(B:∀y,LeC k (f y)):LeC k (b>>=f):=LeC.b
@[reducible] def LeC.j{k:Nat} {α:Type} {p:Prop}[Decidable p]{b c:Option α}(A:LeC k b)(B:LeC k c):LeC k (if p then b else c):=LeC.i
instance leY{k:Nat} {τ β γ:Type} {p:τ->β->γ->Option (Bool×(τ×Nat))}[A:∀a b c,LeC k (p a b c)](a:τ×Nat)(b:β)(c:γ):LeC k (yOf p a b c):=match a with
 |(s,0)=>(A s b c:LeC k (p s b c))
 |(s,n+1)=>.n
class LeL(k:Nat){α β:Type}(m:List (Int×Option (α->Option β))) where
 l:List (Int×Option (α->Option β))
 h:∀(γ:Type) (x:Int) (a:α) (q:β->Option γ) r,((mGet l none x).1>>=fun g=>g a>>=q)=some r->((mGet m none x).1>>=fun g=>g a>>=q)=some r
instance LeL.n{k:Nat} {α β:Type}:LeL k ([]:List (Int×Option (α->Option β))):=⟨[],fun _ _ _ _ _ h=>h⟩
theorem mG{α β:Type} {k x:Int} {f:Option (α->Option β)} {l:List (Int×Option (α->Option β))}:(mGet ((k,f)::l) none x).1=if x=k then f else (mGet l none x).1:=by
 simp only[mGet,mFind]
 by_cases e:x=k
 ·rw[if_pos e,if_pos e]
 ·rw[if_neg e,if_neg e]
instance LeL.c{k:Nat} {α β:Type} {x:Int} {f:α->Option β} {m:List (Int×Option (α->Option β))}[A:∀a,LeC k (f a)][B:LeL k m]:LeL k ((x,some f)::m):=⟨(x,some fun a=>(A a).a)::B.l,fun γ y a q r e=>by
 rw[mG] at e⊢
 by_cases c:y=x
 ·rw[if_pos c] at e⊢
  exact lB (A a).h (fun _ _ h=>h) r e
 ·rw[if_neg c] at e⊢
  exact B.h γ y a q r e⟩
instance(priority:=2000) leM{k:Nat} {α β γ:Type} {m:List (Int×Option (α->Option β))} {x:Int} {a:α} {q:β->Option γ}[A:LeL k m]:LeC k ((mGet m none x).1>>=fun g=>g a>>=q):=⟨(mGet A.l none x).1>>=fun g=>g a>>=q,A.h γ x a q⟩
instance bO.l0g:∀(k:Nat) a0 v19,LeC k (bO.l0 a0 v19)
 |0,_,_=>.n
 |k+1,a0,v19=>have:=bO.l0g k;.of k (bO.l0.eq_1 a0 v19) it
instance bO.fg{k:Nat} {a0}:LeC k (bO.f a0):=by delta bO.f;exact(.c it fun o=>(match o with|.inl r=>it|.inr ()=>it))
instance bg.l0g:∀(k:Nat) a0 a1 v7,LeC k (bg.l0 a0 a1 v7)
 |0,_,_,_=>.n
 |k+1,a0,a1,v7=>have:=bg.l0g k;.of k (bg.l0.eq_1 a0 a1 v7) it
instance bg.fg{k:Nat} {a0} {a1}:LeC k (bg.f a0 a1):=by delta bg.f;exact(.c it fun o=>(match o with|.inl r=>it|.inr ()=>it))
instance bI.fg{k:Nat} {a0} {a1}:LeC k (bI.f a0 a1):=by delta bI.f;exact it
instance bY.l0g:∀(k:Nat) a0 v43,LeC k (bY.l0 a0 v43)
 |0,_,_=>.n
 |k+1,a0,v43=>have:=bY.l0g k;.of k (bY.l0.eq_1 a0 v43) it
instance bY.fg{k:Nat} {a0}:LeC k (bY.f a0):=by delta bY.f;exact(.c it fun x3=>(.j it (.c it fun o=>(match o with|.inl r=>it|.inr ()=>it))))
@[reducible] def ba.l3g_{σ:Type}(a_y:σ->Int->Int->Option (Bool×σ)){K:Nat}[∀q0 q1 q2,LeC K (a_y q0 q1 q2)]:∀(k:Nat) a1 v28 v37 v38,LeC K (ba.l3 a_y a1 v28 v37 v38)
 |0,_,_,_,_=>.n
 |k+1,a1,v28,v37,v38=>have:=ba.l3g_ a_y (K:=K) k;.of K (ba.l3.eq_1 a_y a1 v28 v37 v38) it
instance ba.l3g{σ:Type}(a_y:σ->Int->Int->Option (Bool×σ)){k:Nat}[∀q0 q1 q2,LeC k (a_y q0 q1 q2)]{a1 v28 v37 v38}:LeC k (ba.l3 a_y a1 v28 v37 v38):=ba.l3g_ a_y k a1 v28 v37 v38
@[reducible] def ba.l2g_{σ:Type}(a_y:σ->Int->Int->Option (Bool×σ)){K:Nat}[∀q0 q1 q2,LeC K (a_y q0 q1 q2)]:∀(k:Nat) a1 v27 v28,LeC K (ba.l2 a_y a1 v27 v28)
 |0,_,_,_=>.n
 |k+1,a1,v27,v28=>have:=ba.l2g_ a_y (K:=K) k;.of K (ba.l2.eq_1 a_y a1 v27 v28) (.j (.c it fun o=>(match o with|.inl r=>it|.inr x39=>it)) it)
instance ba.l2g{σ:Type}(a_y:σ->Int->Int->Option (Bool×σ)){k:Nat}[∀q0 q1 q2,LeC k (a_y q0 q1 q2)]{a1 v27 v28}:LeC k (ba.l2 a_y a1 v27 v28):=ba.l2g_ a_y k a1 v27 v28
instance ba.fg{σ:Type} {k:Nat}(a_y:σ->Int->Int->Option (Bool×σ)){a_s} {a1}[∀q0 q1 q2,LeC k (a_y q0 q1 q2)]:LeC k (ba.f a_y a_s a1):=by delta ba.f;exact(.c it fun o=>(match o with|.inl r=>it|.inr x29=>it))
instance cG.fg{k:Nat} {a0}:LeC k (cG.f a0):=by delta cG.f;exact it
@[reducible] def aH.l0g_(a1:Int->Option Bool){K:Nat}[∀q0,LeC K (a1 q0)]:∀(k:Nat) a0 v9,LeC K (aH.l0 a0 a1 v9)
 |0,_,_=>.n
 |k+1,a0,v9=>have:=aH.l0g_ a1 (K:=K) k;.of K (aH.l0.eq_1 a0 a1 v9) it
instance aH.l0g(a1:Int->Option Bool){k:Nat}[∀q0,LeC k (a1 q0)]{a0 v9}:LeC k (aH.l0 a0 a1 v9):=aH.l0g_ a1 k a0 v9
instance aH.fg{k:Nat} {a0}(a1:Int->Option Bool)[∀q0,LeC k (a1 q0)]:LeC k (aH.f a0 a1):=by delta aH.f;exact(.c it fun o=>(match o with|.inl r=>it|.inr ()=>it))
instance dr.fg{k:Nat} {a0} {a1} {a2}:LeC k (dr.f a0 a1 a2):=by delta dr.f;exact it
instance bQ.l0g:∀(k:Nat) a0 a1 v8 v9,LeC k (bQ.l0 a0 a1 v8 v9)
 |0,_,_,_,_=>.n
 |k+1,a0,a1,v8,v9=>have:=bQ.l0g k;.of k (bQ.l0.eq_1 a0 a1 v8 v9) it
instance bQ.fg{k:Nat} {a0} {a1}:LeC k (bQ.f a0 a1):=by delta bQ.f;exact it
instance bN.l0g:∀(k:Nat) a0 y1 y2 v9,LeC k (bN.l0 a0 y1 y2 v9)
 |0,_,_,_,_=>.n
 |k+1,a0,y1,y2,v9=>have:=bN.l0g k;.of k (bN.l0.eq_1 a0 y1 y2 v9) it
instance bN.fg{k:Nat} {a0} {a1} {a2}:LeC k (bN.f a0 a1 a2):=by delta bN.f;exact(.c it fun y1=>(.c it fun y2=>(.c it fun o=>(match o with|.inl r=>it|.inr ()=>it))))
instance bE.y0g{k:Nat} {a0} {v22} {v23} {v24}:LeC k (bE.y0 a0 v22 v23 v24):=by delta bE.y0;exact it
instance bE.fg{k:Nat} {a0}:LeC k (bE.f a0):=by delta bE.f;exact it
@[reducible] def aW.l0g_(a1:Int->Option Bool){K:Nat}[∀q0,LeC K (a1 q0)]:∀(k:Nat) a0 v9,LeC K (aW.l0 a0 a1 v9)
 |0,_,_=>.n
 |k+1,a0,v9=>have:=aW.l0g_ a1 (K:=K) k;.of K (aW.l0.eq_1 a0 a1 v9) it
instance aW.l0g(a1:Int->Option Bool){k:Nat}[∀q0,LeC k (a1 q0)]{a0 v9}:LeC k (aW.l0 a0 a1 v9):=aW.l0g_ a1 k a0 v9
instance aW.fg{k:Nat} {a0}(a1:Int->Option Bool)[∀q0,LeC k (a1 q0)]:LeC k (aW.f a0 a1):=by delta aW.f;exact(.c it fun o=>(match o with|.inl r=>it|.inr ()=>it))
instance bB.fg{k:Nat} {a0}(a1:Int->Option Bool)[∀q0,LeC k (a1 q0)]:LeC k (bB.f a0 a1):=by delta bB.f;exact it
instance cE.fg{k:Nat} {a0} {a1}:LeC k (cE.f a0 a1):=by delta cE.f;exact it
instance dg.fg{k:Nat} {a0}:LeC k (dg.f a0):=by delta dg.f;exact it
instance cR.l0g:∀(k:Nat) a0 v269 v270,LeC k (cR.l0 a0 v269 v270)
 |0,_,_,_=>.n
 |k+1,a0,v269,v270=>have:=cR.l0g k;.of k (cR.l0.eq_1 a0 v269 v270) (.j (.c (.c it fun y340=>(.c it fun o=>(match o with|(x372,x373)=>it))) fun o=>(match o with|.inl r=>it|.inr x339=>it)) it)
instance cR.fg{k:Nat} {a0}:LeC k (cR.f a0):=by delta cR.f;exact(.c it fun o=>(match o with|.inl r=>it|.inr x271=>it))
instance db.fg{k:Nat} {a0} {a1}:LeC k (db.f a0 a1):=by delta db.f;exact it
instance dQ.fg{k:Nat} {a0}:LeC k (dQ.f a0):=by delta dQ.f;exact it
instance cZ.l0g:∀(k:Nat) a0 v31 v32,LeC k (cZ.l0 a0 v31 v32)
 |0,_,_,_=>.n
 |k+1,a0,v31,v32=>have:=cZ.l0g k;.of k (cZ.l0.eq_1 a0 v31 v32) it
instance cZ.fg{k:Nat} {a0}:LeC k (cZ.f a0):=by delta cZ.f;exact it
instance dx.fg{k:Nat} {a0} {a1}:LeC k (dx.f a0 a1):=by delta dx.f;exact it
instance dJ.fg{k:Nat} {a0} {a1}:LeC k (dJ.f a0 a1):=by delta dJ.f;exact it
instance cH.l0g:∀(k:Nat) a0 v14,LeC k (cH.l0 a0 v14)
 |0,_,_=>.n
 |k+1,a0,v14=>have:=cH.l0g k;.of k (cH.l0.eq_1 a0 v14) it
instance cH.fg{k:Nat} {a0}:LeC k (cH.f a0):=by delta cH.f;exact(.j (.c it fun o=>(match o with|.inl r=>it|.inr ()=>it)) it)
@[reducible] def aN.l0g_(a1:aE->Option Bool){K:Nat}[∀q0,LeC K (a1 q0)]:∀(k:Nat) a0 v9,LeC K (aN.l0 a0 a1 v9)
 |0,_,_=>.n
 |k+1,a0,v9=>have:=aN.l0g_ a1 (K:=K) k;.of K (aN.l0.eq_1 a0 a1 v9) it
instance aN.l0g(a1:aE->Option Bool){k:Nat}[∀q0,LeC k (a1 q0)]{a0 v9}:LeC k (aN.l0 a0 a1 v9):=aN.l0g_ a1 k a0 v9
instance aN.fg{k:Nat} {a0}(a1:aE->Option Bool)[∀q0,LeC k (a1 q0)]:LeC k (aN.f a0 a1):=by delta aN.f;exact(.c it fun o=>(match o with|.inl r=>it|.inr ()=>it))
instance bF.fg{k:Nat} {a0}(a1:aE->Option Bool)[∀q0,LeC k (a1 q0)]:LeC k (bF.f a0 a1):=by delta bF.f;exact it
instance dq.fg{k:Nat} {a0} {a1}:LeC k (dq.f a0 a1):=by delta dq.f;exact it
@[reducible] def aK.l0g_(a1:az->Option Bool){K:Nat}[∀q0,LeC K (a1 q0)]:∀(k:Nat) a0 v9,LeC K (aK.l0 a0 a1 v9)
 |0,_,_=>.n
 |k+1,a0,v9=>have:=aK.l0g_ a1 (K:=K) k;.of K (aK.l0.eq_1 a0 a1 v9) it
instance aK.l0g(a1:az->Option Bool){k:Nat}[∀q0,LeC k (a1 q0)]{a0 v9}:LeC k (aK.l0 a0 a1 v9):=aK.l0g_ a1 k a0 v9
instance aK.fg{k:Nat} {a0}(a1:az->Option Bool)[∀q0,LeC k (a1 q0)]:LeC k (aK.f a0 a1):=by delta aK.f;exact(.c it fun o=>(match o with|.inl r=>it|.inr ()=>it))
instance bo.fg{k:Nat} {a0}(a1:az->Option Bool)[∀q0,LeC k (a1 q0)]:LeC k (bo.f a0 a1):=by delta bo.f;exact it
@[reducible] def aR.l0g_(a1:av->Option Bool){K:Nat}[∀q0,LeC K (a1 q0)]:∀(k:Nat) a0 v9,LeC K (aR.l0 a0 a1 v9)
 |0,_,_=>.n
 |k+1,a0,v9=>have:=aR.l0g_ a1 (K:=K) k;.of K (aR.l0.eq_1 a0 a1 v9) it
instance aR.l0g(a1:av->Option Bool){k:Nat}[∀q0,LeC k (a1 q0)]{a0 v9}:LeC k (aR.l0 a0 a1 v9):=aR.l0g_ a1 k a0 v9
instance aR.fg{k:Nat} {a0}(a1:av->Option Bool)[∀q0,LeC k (a1 q0)]:LeC k (aR.f a0 a1):=by delta aR.f;exact(.c it fun o=>(match o with|.inl r=>it|.inr ()=>it))
instance bt.fg{k:Nat} {a0}(a1:av->Option Bool)[∀q0,LeC k (a1 q0)]:LeC k (bt.f a0 a1):=by delta bt.f;exact it
instance dw.fg{k:Nat} {a0} {a1}:LeC k (dw.f a0 a1):=by delta dw.f;exact it
instance bb.l0g:∀(k:Nat) a0 a1 v7,LeC k (bb.l0 a0 a1 v7)
 |0,_,_,_=>.n
 |k+1,a0,a1,v7=>have:=bb.l0g k;.of k (bb.l0.eq_1 a0 a1 v7) it
instance bb.fg{k:Nat} {a0} {a1}:LeC k (bb.f a0 a1):=by delta bb.f;exact(.c it fun o=>(match o with|.inl r=>it|.inr ()=>it))
instance cx.fg{k:Nat} {a0}:LeC k (cx.f a0):=by delta cx.f;exact it
instance bn.l0g:∀(k:Nat) y3 v12 v13,LeC k (bn.l0 y3 v12 v13)
 |0,_,_,_=>.n
 |k+1,y3,v12,v13=>have:=bn.l0g k;.of k (bn.l0.eq_1 y3 v12 v13) (.j (.c it fun z16=>(match z16 with|.inl p17=>it|.inr y18=>it)) it)
instance bn.fg{k:Nat} {a0}:LeC k (bn.f a0):=by delta bn.f;exact(.c it fun z1=>(match z1 with|.inl p2=>it|.inr y3=>(.c it fun o=>(match o with|.inl r=>it|.inr x14=>it))))
instance aP.l0g:∀(k:Nat) y4 v17,LeC k (aP.l0 y4 v17)
 |0,_,_=>.n
 |k+1,y4,v17=>have:=aP.l0g k;.of k (aP.l0.eq_1 y4 v17) it
instance aP.l1g:∀(k:Nat) a0 v41,LeC k (aP.l1 a0 v41)
 |0,_,_=>.n
 |k+1,a0,v41=>have:=aP.l1g k;.of k (aP.l1.eq_1 a0 v41) it
instance aP.fg{k:Nat} {a0}:LeC k (aP.f a0):=by delta aP.f;exact(.j (.c it fun z2=>(match z2 with|.inl p3=>it|.inr y4=>(.c it fun x18=>(.c it fun z25=>(match z25 with|.inl p26=>it|.inr y27=>it))))) (.c it fun x42=>(.c it fun z49=>(match z49 with|.inl p50=>it|.inr y51=>it))))
instance bJ.fg{k:Nat} {a0}:LeC k (bJ.f a0):=by delta bJ.f;exact(.j it (.j it (.j it (.j (.c it fun z8=>(match z8 with|.inl p9=>it|.inr y10=>it)) (.j (.c it fun z12=>(match z12 with|.inl p13=>it|.inr y14=>it)) (.j (.c it fun z16=>(match z16 with|.inl p17=>it|.inr y18=>it)) (.j (.c it fun z20=>(match z20 with|.inl p21=>it|.inr y22=>it)) (.j (.c it fun z24=>(match z24 with|.inl p25=>it|.inr y26=>it)) (.j (.c it fun z28=>(match z28 with|.inl p29=>it|.inr y30=>it)) (.j (.c it fun z32=>(match z32 with|.inl p33=>it|.inr y34=>it)) (.j (.c it fun z36=>(match z36 with|.inl p37=>it|.inr y38=>it)) (.j (.c it fun z40=>(match z40 with|.inl p41=>it|.inr y42=>it)) (.j (.c it fun z44=>(match z44 with|.inl p45=>it|.inr y46=>it)) it)))))))))))))
instance ef.fg{k:Nat} {a0} {a1} {a2} {a3}:LeC k (ef.f a0 a1 a2 a3):=by delta ef.f;exact it
instance cP.fg{k:Nat} {a0} {a1} {a2}:LeC k (cP.f a0 a1 a2):=by delta cP.f;exact it
instance dA.fg{k:Nat} {a0} {a1} {a2}:LeC k (dA.f a0 a1 a2):=by delta dA.f;exact it
instance dB.fg{k:Nat} {a0} {a1} {a2}:LeC k (dB.f a0 a1 a2):=by delta dB.f;exact it
instance cY.fg{k:Nat} {a0} {a1} {a2} {a3}:LeC k (cY.f a0 a1 a2 a3):=by delta cY.f;exact it
instance bm.l0g:∀(k:Nat) a1 v231 v232 v233 v234 v235,LeC k (bm.l0 a1 v231 v232 v233 v234 v235)
 |0,_,_,_,_,_,_=>.n
 |k+1,a1,v231,v232,v233,v234,v235=>have:=bm.l0g k;.of k (bm.l0.eq_1 a1 v231 v232 v233 v234 v235) (.j (.c (.c it fun y300=>(.c it fun o=>(match o with|(x326,x327,x328,x329)=>it))) fun o=>(match o with|(x296,x297,x298,x299)=>it)) it)
instance bm.fg{k:Nat} {a0} {a1}:LeC k (bm.f a0 a1):=by delta bm.f;exact(.c it fun o=>(match o with|(x236,x237,x238,x239)=>it))
instance dG.fg{k:Nat} {a0} {a1} {a2}:LeC k (dG.f a0 a1 a2):=by delta dG.f;exact it
instance cX.fg{k:Nat} {a0} {a1} {a2}:LeC k (cX.f a0 a1 a2):=by delta cX.f;exact it
instance aI.l0g:∀(k:Nat) a0 v13 v14,LeC k (aI.l0 a0 v13 v14)
 |0,_,_,_=>.n
 |k+1,a0,v13,v14=>have:=aI.l0g k;.of k (aI.l0.eq_1 a0 v13 v14) it
instance aI.l1g:∀(k:Nat) a0 v29 v30,LeC k (aI.l1 a0 v29 v30)
 |0,_,_,_=>.n
 |k+1,a0,v29,v30=>have:=aI.l1g k;.of k (aI.l1.eq_1 a0 v29 v30) it
instance aI.fg{k:Nat} {a0}:LeC k (aI.f a0):=by delta aI.f;exact it
instance da.fg{k:Nat} {a0} {a1}:LeC k (da.f a0 a1):=by delta da.f;exact(.j (.c it fun y2=>(.c it fun o=>(match o with|(x28,x29)=>it))) it)
instance cU.Bg{k:Nat} {a0} {a1} {a2}:LeC k (cU.B a0 a1 a2):=by delta cU.B;exact(.c it fun z1=>(match z1 with|.inl p2=>it|.inr y3=>(.c it fun y4=>(.c it fun y5=>(.c it fun z6=>(match z6 with|.inl p7=>it|.inr y8=>(.j it (.c it fun y10=>(.c it fun y11=>(.j it (.c it fun y13=>(.c it fun y14=>(.c it fun y15=>(.c it fun y16=>(.c it fun z17=>(match z17 with|.inl p18=>it|.inr y19=>it))))))))))))))))
instance cU.fg{k:Nat} {a0} {a1} {a2}:LeC k (cU.f a0 a1 a2):=by delta cU.f;exact it
instance df.fg{k:Nat} {a0} {a1} {a2}:LeC k (df.f a0 a1 a2):=by delta df.f;exact it
instance ee.fg{k:Nat} {a0} {a1} {a2} {a3}:LeC k (ee.f a0 a1 a2 a3):=by delta ee.f;exact it
@[reducible] def bq.l0g_{σ:Type}(a_y:σ->ah->Int->Option (Bool×σ)){K:Nat}[∀q0 q1 q2,LeC K (a_y q0 q1 q2)]:∀(k:Nat) a1 a2 a3 v19 v20 v21,LeC K (bq.l0 a_y a1 a2 a3 v19 v20 v21)
 |0,_,_,_,_,_,_=>.n
 |k+1,a1,a2,a3,v19,v20,v21=>have:=bq.l0g_ a_y (K:=K) k;.of K (bq.l0.eq_1 a_y a1 a2 a3 v19 v20 v21) (.j (.c it fun y25=>(.c it fun o=>(match o with|(x28,x29)=>it))) it)
instance bq.l0g{σ:Type}(a_y:σ->ah->Int->Option (Bool×σ)){k:Nat}[∀q0 q1 q2,LeC k (a_y q0 q1 q2)]{a1 a2 a3 v19 v20 v21}:LeC k (bq.l0 a_y a1 a2 a3 v19 v20 v21):=bq.l0g_ a_y k a1 a2 a3 v19 v20 v21
instance bq.fg{σ:Type} {k:Nat}(a_y:σ->ah->Int->Option (Bool×σ)){a_s} {a1} {a2} {a3} {a4}[∀q0 q1 q2,LeC k (a_y q0 q1 q2)]:LeC k (bq.f a_y a_s a1 a2 a3 a4):=by delta bq.f;exact(.c it fun o=>(match o with|.inl r=>it|.inr (x22,x23)=>it))
instance cd.fg{k:Nat} {a0} {a1} {a2} {a3}:LeC k (cd.f a0 a1 a2 a3):=by delta cd.f;exact it
instance bz.fg{k:Nat} {a0} {a1}:LeC k (bz.f a0 a1):=by delta bz.f;exact it
instance aS.l3g:∀(k:Nat) a0 y45 v56 v57,LeC k (aS.l3 a0 y45 v56 v57)
 |0,_,_,_,_=>.n
 |k+1,a0,y45,v56,v57=>have:=aS.l3g k;.of k (aS.l3.eq_1 a0 y45 v56 v57) it
instance aS.l2g:∀(k:Nat) a0 a1 v41 v42,LeC k (aS.l2 a0 a1 v41 v42)
 |0,_,_,_,_=>.n
 |k+1,a0,a1,v41,v42=>have:=aS.l2g k;.of k (aS.l2.eq_1 a0 a1 v41 v42) it
instance aS.fg{k:Nat} {a0} {a1}:LeC k (aS.f a0 a1):=by delta aS.f;exact it
instance aQ.l3g:∀(k:Nat) a0 y45 v56 v57,LeC k (aQ.l3 a0 y45 v56 v57)
 |0,_,_,_,_=>.n
 |k+1,a0,y45,v56,v57=>have:=aQ.l3g k;.of k (aQ.l3.eq_1 a0 y45 v56 v57) it
instance aQ.l2g:∀(k:Nat) a0 a1 v41 v42,LeC k (aQ.l2 a0 a1 v41 v42)
 |0,_,_,_,_=>.n
 |k+1,a0,a1,v41,v42=>have:=aQ.l2g k;.of k (aQ.l2.eq_1 a0 a1 v41 v42) it
instance aQ.fg{k:Nat} {a0} {a1}:LeC k (aQ.f a0 a1):=by delta aQ.f;exact it
instance aT.l3g:∀(k:Nat) a0 y45 v56 v57,LeC k (aT.l3 a0 y45 v56 v57)
 |0,_,_,_,_=>.n
 |k+1,a0,y45,v56,v57=>have:=aT.l3g k;.of k (aT.l3.eq_1 a0 y45 v56 v57) it
instance aT.l2g:∀(k:Nat) a0 a1 v41 v42,LeC k (aT.l2 a0 a1 v41 v42)
 |0,_,_,_,_=>.n
 |k+1,a0,a1,v41,v42=>have:=aT.l2g k;.of k (aT.l2.eq_1 a0 a1 v41 v42) it
instance aT.fg{k:Nat} {a0} {a1}:LeC k (aT.f a0 a1):=by delta aT.f;exact it
instance aV.l0g:∀(k:Nat) a0 v13 v14,LeC k (aV.l0 a0 v13 v14)
 |0,_,_,_=>.n
 |k+1,a0,v13,v14=>have:=aV.l0g k;.of k (aV.l0.eq_1 a0 v13 v14) it
instance aV.l1g:∀(k:Nat) a0 v29 v30,LeC k (aV.l1 a0 v29 v30)
 |0,_,_,_=>.n
 |k+1,a0,v29,v30=>have:=aV.l1g k;.of k (aV.l1.eq_1 a0 v29 v30) it
instance aV.fg{k:Nat} {a0}:LeC k (aV.f a0):=by delta aV.f;exact it
instance eH.fg{k:Nat} {a0} {a1}:LeC k (eH.f a0 a1):=by delta eH.f;exact it
instance bj.fg{k:Nat} {a0} {a1}:LeC k (bj.f a0 a1):=by delta bj.f;exact it
@[reducible] def aB.l0g_(a2:aE->aE->Option Bool){K:Nat}[∀q0 q1,LeC K (a2 q0 q1)]:∀(k:Nat) a0 a1 v12,LeC K (aB.l0 a0 a1 a2 v12)
 |0,_,_,_=>.n
 |k+1,a0,a1,v12=>have:=aB.l0g_ a2 (K:=K) k;.of K (aB.l0.eq_1 a0 a1 a2 v12) it
instance aB.l0g(a2:aE->aE->Option Bool){k:Nat}[∀q0 q1,LeC k (a2 q0 q1)]{a0 a1 v12}:LeC k (aB.l0 a0 a1 a2 v12):=aB.l0g_ a2 k a0 a1 v12
instance aB.fg{k:Nat} {a0} {a1}(a2:aE->aE->Option Bool)[∀q0 q1,LeC k (a2 q0 q1)]:LeC k (aB.f a0 a1 a2):=by delta aB.f;exact(.j (.c it fun o=>(match o with|.inl r=>it|.inr ()=>it)) it)
instance bX.fg{k:Nat} {a0} {a1} {a2} {a3}:LeC k (bX.f a0 a1 a2 a3):=by delta bX.f;exact it
instance bZ.fg{k:Nat} {a0} {a1} {a2} {a3}:LeC k (bZ.f a0 a1 a2 a3):=by delta bZ.f;exact it
@[reducible] def aC.l0g_(a2:az->az->Option Bool){K:Nat}[∀q0 q1,LeC K (a2 q0 q1)]:∀(k:Nat) a0 a1 v12,LeC K (aC.l0 a0 a1 a2 v12)
 |0,_,_,_=>.n
 |k+1,a0,a1,v12=>have:=aC.l0g_ a2 (K:=K) k;.of K (aC.l0.eq_1 a0 a1 a2 v12) it
instance aC.l0g(a2:az->az->Option Bool){k:Nat}[∀q0 q1,LeC k (a2 q0 q1)]{a0 a1 v12}:LeC k (aC.l0 a0 a1 a2 v12):=aC.l0g_ a2 k a0 a1 v12
instance aC.fg{k:Nat} {a0} {a1}(a2:az->az->Option Bool)[∀q0 q1,LeC k (a2 q0 q1)]:LeC k (aC.f a0 a1 a2):=by delta aC.f;exact(.j (.c it fun o=>(match o with|.inl r=>it|.inr ()=>it)) it)
instance ck.fg{k:Nat} {a0} {a1} {a2} {a3}:LeC k (ck.f a0 a1 a2 a3):=by delta ck.f;exact it
instance cM.fg{k:Nat} {a0} {a1} {a2} {a3}:LeC k (cM.f a0 a1 a2 a3):=by delta cM.f;exact it
instance aY.l0g:∀(k:Nat) a0 a1 v10,LeC k (aY.l0 a0 a1 v10)
 |0,_,_,_=>.n
 |k+1,a0,a1,v10=>have:=aY.l0g k;.of k (aY.l0.eq_1 a0 a1 v10) it
instance aY.fg{k:Nat} {a0} {a1}:LeC k (aY.f a0 a1):=by delta aY.f;exact(.j (.c it fun o=>(match o with|.inl r=>it|.inr ()=>it)) it)
instance dt.fg{k:Nat} {a0} {a1}:LeC k (dt.f a0 a1):=by delta dt.f;exact it
@[reducible] def aF.l0g_(a1:az->Option Bool){K:Nat}[∀q0,LeC K (a1 q0)]:∀(k:Nat) v25 v26 v27,LeC K (aF.l0 a1 v25 v26 v27)
 |0,_,_,_=>.n
 |k+1,v25,v26,v27=>have:=aF.l0g_ a1 (K:=K) k;.of K (aF.l0.eq_1 a1 v25 v26 v27) (.j (.c it fun o=>(match o with|(x35,x36)=>it)) it)
instance aF.l0g(a1:az->Option Bool){k:Nat}[∀q0,LeC k (a1 q0)]{v25 v26 v27}:LeC k (aF.l0 a1 v25 v26 v27):=aF.l0g_ a1 k v25 v26 v27
instance aF.fg{k:Nat} {a0}(a1:az->Option Bool)[∀q0,LeC k (a1 q0)]:LeC k (aF.f a0 a1):=by delta aF.f;exact(.c it fun y1=>(.j it (.c it fun o=>(match o with|(x28,x29)=>it))))
instance eE.fg{k:Nat} {a0} {a1} {a2}:LeC k (eE.f a0 a1 a2):=by delta eE.f;exact it
@[reducible] def aD.l0g_(a2:av->av->Option Bool){K:Nat}[∀q0 q1,LeC K (a2 q0 q1)]:∀(k:Nat) a0 a1 v12,LeC K (aD.l0 a0 a1 a2 v12)
 |0,_,_,_=>.n
 |k+1,a0,a1,v12=>have:=aD.l0g_ a2 (K:=K) k;.of K (aD.l0.eq_1 a0 a1 a2 v12) it
instance aD.l0g(a2:av->av->Option Bool){k:Nat}[∀q0 q1,LeC k (a2 q0 q1)]{a0 a1 v12}:LeC k (aD.l0 a0 a1 a2 v12):=aD.l0g_ a2 k a0 a1 v12
instance aD.fg{k:Nat} {a0} {a1}(a2:av->av->Option Bool)[∀q0 q1,LeC k (a2 q0 q1)]:LeC k (aD.f a0 a1 a2):=by delta aD.f;exact(.j (.c it fun o=>(match o with|.inl r=>it|.inr ()=>it)) it)
instance cq.fg{k:Nat} {a0} {a1} {a2} {a3}:LeC k (cq.f a0 a1 a2 a3):=by delta cq.f;exact it
instance ct.fg{k:Nat} {a0} {a1} {a2} {a3}:LeC k (ct.f a0 a1 a2 a3):=by delta ct.f;exact it
instance cO.l0g:∀(k:Nat) a0 a1 v25,LeC k (cO.l0 a0 a1 v25)
 |0,_,_,_=>.n
 |k+1,a0,a1,v25=>have:=cO.l0g k;.of k (cO.l0.eq_1 a0 a1 v25) it
instance cO.fg{k:Nat} {a0} {a1}:LeC k (cO.f a0 a1):=by delta cO.f;exact(.c it fun o=>(match o with|.inl r=>it|.inr ()=>it))
instance dz.fg{k:Nat} {a0} {a1} {a2} {a3}:LeC k (dz.f a0 a1 a2 a3):=by delta dz.f;exact(.c it fun y1=>(.c it fun y2=>(.c it fun y3=>(.c it fun y4=>(.c it fun y5=>(.c it fun y6=>(.c it fun y7=>(.c it fun y8=>(.j (.c it fun x17=>(.j it (.c it fun y26=>(.c it fun y27=>(.j (.j (.c it fun o=>(match o with|(x33,x34)=>it)) it) it))))) it)))))))))
instance b8.fg{k:Nat} {a0} {a1} {a2}:LeC k (b8.f a0 a1 a2):=by delta b8.f;exact it
instance cT.fg{k:Nat} {a0}:LeC k (cT.f a0):=by delta cT.f;exact it
@[reducible] def aM.l0g_(a1:ah->Option Bool){K:Nat}[∀q0,LeC K (a1 q0)]:∀(k:Nat) a0 v9,LeC K (aM.l0 a0 a1 v9)
 |0,_,_=>.n
 |k+1,a0,v9=>have:=aM.l0g_ a1 (K:=K) k;.of K (aM.l0.eq_1 a0 a1 v9) it
instance aM.l0g(a1:ah->Option Bool){k:Nat}[∀q0,LeC k (a1 q0)]{a0 v9}:LeC k (aM.l0 a0 a1 v9):=aM.l0g_ a1 k a0 v9
instance aM.fg{k:Nat} {a0}(a1:ah->Option Bool)[∀q0,LeC k (a1 q0)]:LeC k (aM.f a0 a1):=by delta aM.f;exact(.c it fun o=>(match o with|.inl r=>it|.inr ()=>it))
instance bR.fg{k:Nat} {a0} {a1} {a2} {a3}:LeC k (bR.f a0 a1 a2 a3):=by delta bR.f;exact it
instance cW.fg{k:Nat} {a0} {a1}:LeC k (cW.f a0 a1):=by delta cW.f;exact it
@[reducible] def aG.l0g_(a1:ah->Option Bool){K:Nat}[∀q0,LeC K (a1 q0)]:∀(k:Nat) v25 v26 v27,LeC K (aG.l0 a1 v25 v26 v27)
 |0,_,_,_=>.n
 |k+1,v25,v26,v27=>have:=aG.l0g_ a1 (K:=K) k;.of K (aG.l0.eq_1 a1 v25 v26 v27) (.j (.c it fun o=>(match o with|(x35,x36)=>it)) it)
instance aG.l0g(a1:ah->Option Bool){k:Nat}[∀q0,LeC k (a1 q0)]{v25 v26 v27}:LeC k (aG.l0 a1 v25 v26 v27):=aG.l0g_ a1 k v25 v26 v27
instance aG.fg{k:Nat} {a0}(a1:ah->Option Bool)[∀q0,LeC k (a1 q0)]:LeC k (aG.f a0 a1):=by delta aG.f;exact(.c it fun y1=>(.j it (.c it fun o=>(match o with|(x28,x29)=>it))))
instance cJ.fg{k:Nat} {a0} {a1}:LeC k (cJ.f a0 a1):=by delta cJ.f;exact it
instance bv.l0g:∀(k:Nat) a0 y1 y2 v23,LeC k (bv.l0 a0 y1 y2 v23)
 |0,_,_,_,_=>.n
 |k+1,a0,y1,y2,v23=>have:=bv.l0g k;.of k (bv.l0.eq_1 a0 y1 y2 v23) it
instance bv.fg{k:Nat} {a0}:LeC k (bv.f a0):=by delta bv.f;exact(.c it fun y1=>(.c it fun y2=>(.c it fun o=>(match o with|.inl r=>it|.inr ()=>it))))
instance cK.fg{k:Nat} {a0}:LeC k (cK.f a0):=by delta cK.f;exact it
instance bL.l0g:∀(k:Nat) a0 a1 a4 a5 a6 v9,LeC k (bL.l0 a0 a1 a4 a5 a6 v9)
 |0,_,_,_,_,_,_=>.n
 |k+1,a0,a1,a4,a5,a6,v9=>have:=bL.l0g k;.of k (bL.l0.eq_1 a0 a1 a4 a5 a6 v9) it
instance bL.fg{k:Nat} {a0} {a1} {a2} {a3} {a4} {a5} {a6}:LeC k (bL.f a0 a1 a2 a3 a4 a5 a6):=by delta bL.f eT.f;exact(.c it fun o=>(match o with|.inl r=>it|.inr ()=>(.s it)))
instance reticentlaw20_alive.fg{k:Nat}:LeC k (reticentlaw20_alive.f):=by delta reticentlaw20_alive.f;exact it
end Go.Proofs.YtmjcpkmongafnaaGreatDoor.TT
