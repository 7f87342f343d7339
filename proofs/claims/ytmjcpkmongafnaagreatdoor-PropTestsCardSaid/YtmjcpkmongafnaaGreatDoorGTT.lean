import Derived.Test.YtmjcpkmongafnaaGreatDoorDTT
set_option linter.unusedVariables false
set_option synthInstance.maxHeartbeats 400000
set_option synthInstance.maxSize 4000
set_option maxRecDepth 10000
namespace Go.Proofs.YtmjcpkmongafnaaGreatDoor.TT
open Go Go.Proofs.YtmjcpkmongafnaaGreatDoor.Ab
class LeC(k:Nat){α:Type}(b:Option α) where
 a:Option α
 h:∀r,a=some r->b=some r
theorem lB{α β:Type} {a b:Option α} {f g:α->Option β}(h:∀r,a=some r->b=some r)(k:∀y r,f y=some r->g y=some r):∀r,(a>>=f)=some r->(b>>=g)=some r:=fun r e=>by
 cases a with
 |none=>cases e
 |some y=>rw[h y rfl];exact k y r e
theorem lI{α:Type} {p:Prop}[Decidable p]{a b c d:Option α}(h:∀r,a=some r->b=some r)(k:∀r,c=some r->d=some r):∀r,(if p then a else c)=some r->(if p then b else d)=some r:=by
 by_cases q:p
 ·rw[if_pos q,if_pos q];exact h
 ·rw[if_neg q,if_neg q];exact k
instance(priority:=10) LeC.r{k:Nat} {α:Type} {b:Option α}:LeC k b:=⟨b,fun _ h=>h⟩
instance LeC.b{k:Nat} {α β:Type} {b:Option α} {f:α->Option β}[A:LeC k b][B:∀y,LeC k (f y)]:LeC k (b>>=f):=⟨A.a>>=fun y=>(B y).a,lB A.h fun y=>(B y).h⟩
instance LeC.i{k:Nat} {α:Type} {p:Prop}[Decidable p]{b c:Option α}[A:LeC k b][B:LeC k c]:LeC k (if p then b else c):=⟨if p then A.a else B.a,lI A.h B.h⟩
@[reducible] def LeC.of(k:Nat){α:Type} {b c:Option α}(e:c=b)(A:LeC k b){j:Nat}:LeC j c:=⟨A.a,fun r h=>e.trans (A.h r h)⟩
@[reducible] def LeC.n{k:Nat} {α:Type} {b:Option α}:LeC k b:=⟨none,fun _ h=>nomatch h⟩
@[reducible] def LeC.s{k:Nat} {α β:Type} {v:α} {f:α->Option β}(A:LeC k (f v)):LeC k (some v>>=f):=⟨A.a,A.h⟩
@[reducible] def it{k:Nat} {α:Type} {b:Option α}[A:LeC k b]:LeC k b:=A
@[reducible] def LeC.c{k:Nat} {α β:Type} {b:Option α} {f:α->Option β}(A:LeC k b)(B:∀y,LeC k (f y)):LeC k (b>>=f):=LeC.b
@[reducible] def LeC.j{k:Nat} {α:Type} {p:Prop}[Decidable p]{b c:Option α}(A:LeC k b)(B:LeC k c):LeC k (if p then b else c):=LeC.i
instance leY{k:Nat} {τ β γ:Type} {p:τ->β->γ->Option (Bool×(τ×Nat))}[A:∀a b c,LeC k (p a b c)](a:τ×Nat)(b:β)(c:γ):LeC k (yOf p a b c):=match a with
 |(s,0)=>(A s b c:LeC k (p s b c))
 |(s,n+1)=>.n
class LeL(k:Nat){α β:Type}(m:List (Int×Option (α->Option β))) where
 l:List (Int×Option (α->Option β))
 h:∀(γ:Type) (x:Int) (a:α) (q:β->Option γ) r,((mGet l none x).1>>=fun g=>g a>>=q)=some r->((mGet m none x).1>>=fun g=>g a>>=q)=some r
instance LeL.n{k:Nat} {α β:Type}:LeL k ([]:List (Int×Option (α->Option β))):=⟨[],fun _ _ _ _ _ h=>h⟩
theorem mG{α β:Type} {k x:Int} {f:Option (α->Option β)} {l:List (Int×Option (α->Option β))}:(mGet ((k,f)::l) none x).1=if x=k then f else (mGet l none x).1:=by
 simp only[mGet,mFind]
 by_cases e:x=k
 ·rw[if_pos e,if_pos e]
 ·rw[if_neg e,if_neg e]
instance LeL.c{k:Nat} {α β:Type} {x:Int} {f:α->Option β} {m:List (Int×Option (α->Option β))}[A:∀a,LeC k (f a)][B:LeL k m]:LeL k ((x,some f)::m):=⟨(x,some fun a=>(A a).a)::B.l,fun γ y a q r e=>by
 rw[mG] at e⊢
 by_cases c:y=x
 ·rw[if_pos c] at e⊢
  exact lB (A a).h (fun _ _ h=>h) r e
 ·rw[if_neg c] at e⊢
  exact B.h γ y a q r e⟩
instance(priority:=2000) leM{k:Nat} {α β γ:Type} {m:List (Int×Option (α->Option β))} {x:Int} {a:α} {q:β->Option γ}[A:LeL k m]:LeC k ((mGet m none x).1>>=fun g=>g a>>=q):=⟨(mGet A.l none x).1>>=fun g=>g a>>=q,A.h γ x a q⟩
instance cU.l0g:∀(k:Nat) a0 v19,LeC k (cU.l0 a0 v19)
 |0,_,_=>.n
 |k+1,a0,v19=>have:=cU.l0g k;.of k (cU.l0.eq_1 a0 v19) it
instance cU.fg{k:Nat} {a0}:LeC k (cU.f a0):=by delta cU.f;exact(.c it fun o=>(match o with|.inl r=>it|.inr ()=>it))
instance bD.l0g:∀(k:Nat) a0 a1 v7,LeC k (bD.l0 a0 a1 v7)
 |0,_,_,_=>.n
 |k+1,a0,a1,v7=>have:=bD.l0g k;.of k (bD.l0.eq_1 a0 a1 v7) it
instance bD.fg{k:Nat} {a0} {a1}:LeC k (bD.f a0 a1):=by delta bD.f;exact(.c it fun o=>(match o with|.inl r=>it|.inr ()=>it))
instance cG.fg{k:Nat} {a0} {a1}:LeC k (cG.f a0 a1):=by delta cG.f;exact it
instance dx.l0g:∀(k:Nat) a0 v43,LeC k (dx.l0 a0 v43)
 |0,_,_=>.n
 |k+1,a0,v43=>have:=dx.l0g k;.of k (dx.l0.eq_1 a0 v43) it
instance dx.fg{k:Nat} {a0}:LeC k (dx.f a0):=by delta dx.f;exact(.c it fun x3=>(.j it (.c it fun o=>(match o with|.inl r=>it|.inr ()=>it))))
@[reducible] def bv.l3g_{σ:Type}(a_y:σ->Int->Int->Option (Bool×σ)){K:Nat}[∀q0 q1 q2,LeC K (a_y q0 q1 q2)]:∀(k:Nat) a1 v28 v37 v38,LeC K (bv.l3 a_y a1 v28 v37 v38)
 |0,_,_,_,_=>.n
 |k+1,a1,v28,v37,v38=>have:=bv.l3g_ a_y (K:=K) k;.of K (bv.l3.eq_1 a_y a1 v28 v37 v38) it
instance bv.l3g{σ:Type}(a_y:σ->Int->Int->Option (Bool×σ)){k:Nat}[∀q0 q1 q2,LeC k (a_y q0 q1 q2)]{a1 v28 v37 v38}:LeC k (bv.l3 a_y a1 v28 v37 v38):=bv.l3g_ a_y k a1 v28 v37 v38
@[reducible] def bv.l2g_{σ:Type}(a_y:σ->Int->Int->Option (Bool×σ)){K:Nat}[∀q0 q1 q2,LeC K (a_y q0 q1 q2)]:∀(k:Nat) a1 v27 v28,LeC K (bv.l2 a_y a1 v27 v28)
 |0,_,_,_=>.n
 |k+1,a1,v27,v28=>have:=bv.l2g_ a_y (K:=K) k;.of K (bv.l2.eq_1 a_y a1 v27 v28) (.j (.c it fun o=>(match o with|.inl r=>it|.inr x39=>it)) it)
instance bv.l2g{σ:Type}(a_y:σ->Int->Int->Option (Bool×σ)){k:Nat}[∀q0 q1 q2,LeC k (a_y q0 q1 q2)]{a1 v27 v28}:LeC k (bv.l2 a_y a1 v27 v28):=bv.l2g_ a_y k a1 v27 v28
instance bv.fg{σ:Type} {k:Nat}(a_y:σ->Int->Int->Option (Bool×σ)){a_s} {a1}[∀q0 q1 q2,LeC k (a_y q0 q1 q2)]:LeC k (bv.f a_y a_s a1):=by delta bv.f;exact(.c it fun o=>(match o with|.inl r=>it|.inr x29=>it))
instance eh.fg{k:Nat} {a0}:LeC k (eh.f a0):=by delta eh.f;exact it
@[reducible] def aS.l0g_(a1:Int->Option Bool){K:Nat}[∀q0,LeC K (a1 q0)]:∀(k:Nat) a0 v9,LeC K (aS.l0 a0 a1 v9)
 |0,_,_=>.n
 |k+1,a0,v9=>have:=aS.l0g_ a1 (K:=K) k;.of K (aS.l0.eq_1 a0 a1 v9) it
instance aS.l0g(a1:Int->Option Bool){k:Nat}[∀q0,LeC k (a1 q0)]{a0 v9}:LeC k (aS.l0 a0 a1 v9):=aS.l0g_ a1 k a0 v9
instance aS.fg{k:Nat} {a0}(a1:Int->Option Bool)[∀q0,LeC k (a1 q0)]:LeC k (aS.f a0 a1):=by delta aS.f;exact(.c it fun o=>(match o with|.inl r=>it|.inr ()=>it))
instance fo.fg{k:Nat} {a0} {a1} {a2}:LeC k (fo.f a0 a1 a2):=by delta fo.f;exact it
instance da.l0g:∀(k:Nat) a0 a1 v8 v9,LeC k (da.l0 a0 a1 v8 v9)
 |0,_,_,_,_=>.n
 |k+1,a0,a1,v8,v9=>have:=da.l0g k;.of k (da.l0.eq_1 a0 a1 v8 v9) it
instance da.fg{k:Nat} {a0} {a1}:LeC k (da.f a0 a1):=by delta da.f;exact it
instance cT.l0g:∀(k:Nat) a0 y1 y2 v9,LeC k (cT.l0 a0 y1 y2 v9)
 |0,_,_,_,_=>.n
 |k+1,a0,y1,y2,v9=>have:=cT.l0g k;.of k (cT.l0.eq_1 a0 y1 y2 v9) it
instance cT.fg{k:Nat} {a0} {a1} {a2}:LeC k (cT.f a0 a1 a2):=by delta cT.f;exact(.c it fun y1=>(.c it fun y2=>(.c it fun o=>(match o with|.inl r=>it|.inr ()=>it))))
instance ck.y0g{k:Nat} {a0} {v22} {v23} {v24}:LeC k (ck.y0 a0 v22 v23 v24):=by delta ck.y0;exact it
instance ck.fg{k:Nat} {a0}:LeC k (ck.f a0):=by delta ck.f;exact it
instance eF.l0g:∀(k:Nat) a0 v269 v270,LeC k (eF.l0 a0 v269 v270)
 |0,_,_,_=>.n
 |k+1,a0,v269,v270=>have:=eF.l0g k;.of k (eF.l0.eq_1 a0 v269 v270) (.j (.c (.c it fun y340=>(.c it fun o=>(match o with|(x372,x373)=>it))) fun o=>(match o with|.inl r=>it|.inr x339=>it)) it)
instance eF.fg{k:Nat} {a0}:LeC k (eF.f a0):=by delta eF.f;exact(.c it fun o=>(match o with|.inl r=>it|.inr x271=>it))
instance eP.fg{k:Nat} {a0} {a1}:LeC k (eP.f a0 a1):=by delta eP.f;exact it
instance f1.fg{k:Nat} {a0}:LeC k (f1.f a0):=by delta f1.f;exact it
instance eO.l0g:∀(k:Nat) a0 v31 v32,LeC k (eO.l0 a0 v31 v32)
 |0,_,_,_=>.n
 |k+1,a0,v31,v32=>have:=eO.l0g k;.of k (eO.l0.eq_1 a0 v31 v32) it
instance eO.fg{k:Nat} {a0}:LeC k (eO.f a0):=by delta eO.f;exact it
instance ft.fg{k:Nat} {a0} {a1}:LeC k (ft.f a0 a1):=by delta ft.f;exact it
instance fP.fg{k:Nat} {a0} {a1}:LeC k (fP.f a0 a1):=by delta fP.f;exact it
instance er.l0g:∀(k:Nat) a0 v14,LeC k (er.l0 a0 v14)
 |0,_,_=>.n
 |k+1,a0,v14=>have:=er.l0g k;.of k (er.l0.eq_1 a0 v14) it
instance er.fg{k:Nat} {a0}:LeC k (er.f a0):=by delta er.f;exact(.j (.c it fun o=>(match o with|.inl r=>it|.inr ()=>it)) it)
@[reducible] def bb.l0g_(a1:aI->Option Bool){K:Nat}[∀q0,LeC K (a1 q0)]:∀(k:Nat) a0 v9,LeC K (bb.l0 a0 a1 v9)
 |0,_,_=>.n
 |k+1,a0,v9=>have:=bb.l0g_ a1 (K:=K) k;.of K (bb.l0.eq_1 a0 a1 v9) it
instance bb.l0g(a1:aI->Option Bool){k:Nat}[∀q0,LeC k (a1 q0)]{a0 v9}:LeC k (bb.l0 a0 a1 v9):=bb.l0g_ a1 k a0 v9
instance bb.fg{k:Nat} {a0}(a1:aI->Option Bool)[∀q0,LeC k (a1 q0)]:LeC k (bb.f a0 a1):=by delta bb.f;exact(.c it fun o=>(match o with|.inl r=>it|.inr ()=>it))
instance cq.fg{k:Nat} {a0}(a1:aI->Option Bool)[∀q0,LeC k (a1 q0)]:LeC k (cq.f a0 a1):=by delta cq.f;exact it
instance fm.fg{k:Nat} {a0} {a1}:LeC k (fm.f a0 a1):=by delta fm.f;exact it
@[reducible] def aV.l0g_(a1:aG->Option Bool){K:Nat}[∀q0,LeC K (a1 q0)]:∀(k:Nat) a0 v9,LeC K (aV.l0 a0 a1 v9)
 |0,_,_=>.n
 |k+1,a0,v9=>have:=aV.l0g_ a1 (K:=K) k;.of K (aV.l0.eq_1 a0 a1 v9) it
instance aV.l0g(a1:aG->Option Bool){k:Nat}[∀q0,LeC k (a1 q0)]{a0 v9}:LeC k (aV.l0 a0 a1 v9):=aV.l0g_ a1 k a0 v9
instance aV.fg{k:Nat} {a0}(a1:aG->Option Bool)[∀q0,LeC k (a1 q0)]:LeC k (aV.f a0 a1):=by delta aV.f;exact(.c it fun o=>(match o with|.inl r=>it|.inr ()=>it))
instance bL.fg{k:Nat} {a0}(a1:aG->Option Bool)[∀q0,LeC k (a1 q0)]:LeC k (bL.f a0 a1):=by delta bL.f;exact it
@[reducible] def bh.l0g_(a1:aF->Option Bool){K:Nat}[∀q0,LeC K (a1 q0)]:∀(k:Nat) a0 v9,LeC K (bh.l0 a0 a1 v9)
 |0,_,_=>.n
 |k+1,a0,v9=>have:=bh.l0g_ a1 (K:=K) k;.of K (bh.l0.eq_1 a0 a1 v9) it
instance bh.l0g(a1:aF->Option Bool){k:Nat}[∀q0,LeC k (a1 q0)]{a0 v9}:LeC k (bh.l0 a0 a1 v9):=bh.l0g_ a1 k a0 v9
instance bh.fg{k:Nat} {a0}(a1:aF->Option Bool)[∀q0,LeC k (a1 q0)]:LeC k (bh.f a0 a1):=by delta bh.f;exact(.c it fun o=>(match o with|.inl r=>it|.inr ()=>it))
instance bT.fg{k:Nat} {a0}(a1:aF->Option Bool)[∀q0,LeC k (a1 q0)]:LeC k (bT.f a0 a1):=by delta bT.f;exact it
instance fe.fg{k:Nat} {a0} {a1}:LeC k (fe.f a0 a1):=by delta fe.f;exact it
@[reducible] def bq.l0g_(a1:Int->Option Bool){K:Nat}[∀q0,LeC K (a1 q0)]:∀(k:Nat) a0 v9,LeC K (bq.l0 a0 a1 v9)
 |0,_,_=>.n
 |k+1,a0,v9=>have:=bq.l0g_ a1 (K:=K) k;.of K (bq.l0.eq_1 a0 a1 v9) it
instance bq.l0g(a1:Int->Option Bool){k:Nat}[∀q0,LeC k (a1 q0)]{a0 v9}:LeC k (bq.l0 a0 a1 v9):=bq.l0g_ a1 k a0 v9
instance bq.fg{k:Nat} {a0}(a1:Int->Option Bool)[∀q0,LeC k (a1 q0)]:LeC k (bq.f a0 a1):=by delta bq.f;exact(.c it fun o=>(match o with|.inl r=>it|.inr ()=>it))
instance ce.fg{k:Nat} {a0}(a1:Int->Option Bool)[∀q0,LeC k (a1 q0)]:LeC k (ce.f a0 a1):=by delta ce.f;exact it
instance ee.fg{k:Nat} {a0} {a1}:LeC k (ee.f a0 a1):=by delta ee.f;exact it
instance bz.l0g:∀(k:Nat) a0 a1 v7,LeC k (bz.l0 a0 a1 v7)
 |0,_,_,_=>.n
 |k+1,a0,a1,v7=>have:=bz.l0g k;.of k (bz.l0.eq_1 a0 a1 v7) it
instance bz.fg{k:Nat} {a0} {a1}:LeC k (bz.f a0 a1):=by delta bz.f;exact(.c it fun o=>(match o with|.inl r=>it|.inr ()=>it))
instance dI.fg{k:Nat} {a0}:LeC k (dI.f a0):=by delta dI.f;exact it
instance bK.l0g:∀(k:Nat) y3 v12 v13,LeC k (bK.l0 y3 v12 v13)
 |0,_,_,_=>.n
 |k+1,y3,v12,v13=>have:=bK.l0g k;.of k (bK.l0.eq_1 y3 v12 v13) (.j (.c it fun z16=>(match z16 with|.inl p17=>it|.inr y18=>it)) it)
instance bK.fg{k:Nat} {a0}:LeC k (bK.f a0):=by delta bK.f;exact(.c it fun z1=>(match z1 with|.inl p2=>it|.inr y3=>(.c it fun o=>(match o with|.inl r=>it|.inr x14=>it))))
instance aY.l0g:∀(k:Nat) y4 v17,LeC k (aY.l0 y4 v17)
 |0,_,_=>.n
 |k+1,y4,v17=>have:=aY.l0g k;.of k (aY.l0.eq_1 y4 v17) it
instance aY.l1g:∀(k:Nat) a0 v41,LeC k (aY.l1 a0 v41)
 |0,_,_=>.n
 |k+1,a0,v41=>have:=aY.l1g k;.of k (aY.l1.eq_1 a0 v41) it
instance aY.fg{k:Nat} {a0}:LeC k (aY.f a0):=by delta aY.f;exact(.j (.c it fun z2=>(match z2 with|.inl p3=>it|.inr y4=>(.c it fun x18=>(.c it fun z25=>(match z25 with|.inl p26=>it|.inr y27=>it))))) (.c it fun x42=>(.c it fun z49=>(match z49 with|.inl p50=>it|.inr y51=>it))))
instance b9.fg{k:Nat} {a0}:LeC k (b9.f a0):=by delta b9.f;exact(.j it (.j it (.j it (.j (.c it fun z8=>(match z8 with|.inl p9=>it|.inr y10=>it)) (.j (.c it fun z12=>(match z12 with|.inl p13=>it|.inr y14=>it)) (.j (.c it fun z16=>(match z16 with|.inl p17=>it|.inr y18=>it)) (.j (.c it fun z20=>(match z20 with|.inl p21=>it|.inr y22=>it)) (.j (.c it fun z24=>(match z24 with|.inl p25=>it|.inr y26=>it)) (.j (.c it fun z28=>(match z28 with|.inl p29=>it|.inr y30=>it)) (.j (.c it fun z32=>(match z32 with|.inl p33=>it|.inr y34=>it)) (.j (.c it fun z36=>(match z36 with|.inl p37=>it|.inr y38=>it)) (.j (.c it fun z40=>(match z40 with|.inl p41=>it|.inr y42=>it)) (.j (.c it fun z44=>(match z44 with|.inl p45=>it|.inr y46=>it)) it)))))))))))))
instance gk.fg{k:Nat} {a0} {a1} {a2} {a3}:LeC k (gk.f a0 a1 a2 a3):=by delta gk.f;exact it
instance fN.fg{k:Nat} {a0}:LeC k (fN.f a0):=by delta fN.f;exact it
instance eE.fg{k:Nat} {a0} {a1} {a2}:LeC k (eE.f a0 a1 a2):=by delta eE.f;exact it
instance fw.fg{k:Nat} {a0} {a1} {a2}:LeC k (fw.f a0 a1 a2):=by delta fw.f;exact it
instance fx.fg{k:Nat} {a0} {a1} {a2}:LeC k (fx.f a0 a1 a2):=by delta fx.f;exact it
instance eN.fg{k:Nat} {a0} {a1} {a2} {a3}:LeC k (eN.f a0 a1 a2 a3):=by delta eN.f;exact it
instance bJ.l0g:∀(k:Nat) a1 v231 v232 v233 v234 v235,LeC k (bJ.l0 a1 v231 v232 v233 v234 v235)
 |0,_,_,_,_,_,_=>.n
 |k+1,a1,v231,v232,v233,v234,v235=>have:=bJ.l0g k;.of k (bJ.l0.eq_1 a1 v231 v232 v233 v234 v235) (.j (.c (.c it fun y300=>(.c it fun o=>(match o with|(x326,x327,x328,x329)=>it))) fun o=>(match o with|(x296,x297,x298,x299)=>it)) it)
instance bJ.fg{k:Nat} {a0} {a1}:LeC k (bJ.f a0 a1):=by delta bJ.f;exact(.c it fun o=>(match o with|(x236,x237,x238,x239)=>it))
instance fb.fg{k:Nat} {a0} {a1} {a2}:LeC k (fb.f a0 a1 a2):=by delta fb.f;exact it
instance dJ.fg{k:Nat} {a0} {a1} {a2}:LeC k (dJ.f a0 a1 a2):=by delta dJ.f;exact it
instance aT.l0g:∀(k:Nat) a0 v13 v14,LeC k (aT.l0 a0 v13 v14)
 |0,_,_,_=>.n
 |k+1,a0,v13,v14=>have:=aT.l0g k;.of k (aT.l0.eq_1 a0 v13 v14) it
instance aT.l1g:∀(k:Nat) a0 v29 v30,LeC k (aT.l1 a0 v29 v30)
 |0,_,_,_=>.n
 |k+1,a0,v29,v30=>have:=aT.l1g k;.of k (aT.l1.eq_1 a0 v29 v30) it
instance aT.fg{k:Nat} {a0}:LeC k (aT.f a0):=by delta aT.f;exact it
instance eC.fg{k:Nat} {a0} {a1}:LeC k (eC.f a0 a1):=by delta eC.f;exact(.j (.c it fun y2=>(.c it fun o=>(match o with|(x28,x29)=>it))) it)
instance dO.Bg{k:Nat} {a0} {a1} {a2}:LeC k (dO.B a0 a1 a2):=by delta dO.B;exact(.c it fun z1=>(match z1 with|.inl p2=>it|.inr y3=>(.c it fun y4=>(.c it fun y5=>(.c it fun z6=>(match z6 with|.inl p7=>it|.inr y8=>(.j it (.c it fun y10=>(.c it fun y11=>(.j it (.c it fun y13=>(.c it fun y14=>(.c it fun y15=>(.c it fun y16=>(.c it fun z17=>(match z17 with|.inl p18=>it|.inr y19=>it))))))))))))))))
instance dO.fg{k:Nat} {a0} {a1} {a2}:LeC k (dO.f a0 a1 a2):=by delta dO.f;exact it
instance eT.fg{k:Nat} {a0} {a1} {a2}:LeC k (eT.f a0 a1 a2):=by delta eT.f;exact it
instance gj.fg{k:Nat} {a0} {a1} {a2} {a3}:LeC k (gj.f a0 a1 a2 a3):=by delta gj.f;exact it
@[reducible] def bR.l0g_{σ:Type}(a_y:σ->al->Int->Option (Bool×σ)){K:Nat}[∀q0 q1 q2,LeC K (a_y q0 q1 q2)]:∀(k:Nat) a1 a2 a3 v19 v20 v21,LeC K (bR.l0 a_y a1 a2 a3 v19 v20 v21)
 |0,_,_,_,_,_,_=>.n
 |k+1,a1,a2,a3,v19,v20,v21=>have:=bR.l0g_ a_y (K:=K) k;.of K (bR.l0.eq_1 a_y a1 a2 a3 v19 v20 v21) (.j (.c it fun y25=>(.c it fun o=>(match o with|(x28,x29)=>it))) it)
instance bR.l0g{σ:Type}(a_y:σ->al->Int->Option (Bool×σ)){k:Nat}[∀q0 q1 q2,LeC k (a_y q0 q1 q2)]{a1 a2 a3 v19 v20 v21}:LeC k (bR.l0 a_y a1 a2 a3 v19 v20 v21):=bR.l0g_ a_y k a1 a2 a3 v19 v20 v21
instance bR.fg{σ:Type} {k:Nat}(a_y:σ->al->Int->Option (Bool×σ)){a_s} {a1} {a2} {a3} {a4}[∀q0 q1 q2,LeC k (a_y q0 q1 q2)]:LeC k (bR.f a_y a_s a1 a2 a3 a4):=by delta bR.f;exact(.c it fun o=>(match o with|.inl r=>it|.inr (x22,x23)=>it))
instance dL.fg{k:Nat} {a0} {a1} {a2} {a3}:LeC k (dL.f a0 a1 a2 a3):=by delta dL.f;exact it
instance b8.fg{k:Nat} {a0} {a1}:LeC k (b8.f a0 a1):=by delta b8.f;exact it
instance bi.l3g:∀(k:Nat) a0 y45 v56 v57,LeC k (bi.l3 a0 y45 v56 v57)
 |0,_,_,_,_=>.n
 |k+1,a0,y45,v56,v57=>have:=bi.l3g k;.of k (bi.l3.eq_1 a0 y45 v56 v57) it
instance bi.l2g:∀(k:Nat) a0 a1 v41 v42,LeC k (bi.l2 a0 a1 v41 v42)
 |0,_,_,_,_=>.n
 |k+1,a0,a1,v41,v42=>have:=bi.l2g k;.of k (bi.l2.eq_1 a0 a1 v41 v42) it
instance bi.fg{k:Nat} {a0} {a1}:LeC k (bi.f a0 a1):=by delta bi.f;exact it
instance bg.l3g:∀(k:Nat) a0 y45 v56 v57,LeC k (bg.l3 a0 y45 v56 v57)
 |0,_,_,_,_=>.n
 |k+1,a0,y45,v56,v57=>have:=bg.l3g k;.of k (bg.l3.eq_1 a0 y45 v56 v57) it
instance bg.l2g:∀(k:Nat) a0 a1 v41 v42,LeC k (bg.l2 a0 a1 v41 v42)
 |0,_,_,_,_=>.n
 |k+1,a0,a1,v41,v42=>have:=bg.l2g k;.of k (bg.l2.eq_1 a0 a1 v41 v42) it
instance bg.fg{k:Nat} {a0} {a1}:LeC k (bg.f a0 a1):=by delta bg.f;exact it
instance bk.l3g:∀(k:Nat) a0 y45 v56 v57,LeC k (bk.l3 a0 y45 v56 v57)
 |0,_,_,_,_=>.n
 |k+1,a0,y45,v56,v57=>have:=bk.l3g k;.of k (bk.l3.eq_1 a0 y45 v56 v57) it
instance bk.l2g:∀(k:Nat) a0 a1 v41 v42,LeC k (bk.l2 a0 a1 v41 v42)
 |0,_,_,_,_=>.n
 |k+1,a0,a1,v41,v42=>have:=bk.l2g k;.of k (bk.l2.eq_1 a0 a1 v41 v42) it
instance bk.fg{k:Nat} {a0} {a1}:LeC k (bk.f a0 a1):=by delta bk.f;exact it
instance bp.l0g:∀(k:Nat) a0 v13 v14,LeC k (bp.l0 a0 v13 v14)
 |0,_,_,_=>.n
 |k+1,a0,v13,v14=>have:=bp.l0g k;.of k (bp.l0.eq_1 a0 v13 v14) it
instance bp.l1g:∀(k:Nat) a0 v29 v30,LeC k (bp.l1 a0 v29 v30)
 |0,_,_,_=>.n
 |k+1,a0,v29,v30=>have:=bp.l1g k;.of k (bp.l1.eq_1 a0 v29 v30) it
instance bp.fg{k:Nat} {a0}:LeC k (bp.f a0):=by delta bp.f;exact it
instance gE.fg{k:Nat} {a0} {a1}:LeC k (gE.f a0 a1):=by delta gE.f;exact it
instance bF.fg{k:Nat} {a0} {a1}:LeC k (bF.f a0 a1):=by delta bF.f;exact it
@[reducible] def aK.l0g_(a2:aI->aI->Option Bool){K:Nat}[∀q0 q1,LeC K (a2 q0 q1)]:∀(k:Nat) a0 a1 v12,LeC K (aK.l0 a0 a1 a2 v12)
 |0,_,_,_=>.n
 |k+1,a0,a1,v12=>have:=aK.l0g_ a2 (K:=K) k;.of K (aK.l0.eq_1 a0 a1 a2 v12) it
instance aK.l0g(a2:aI->aI->Option Bool){k:Nat}[∀q0 q1,LeC k (a2 q0 q1)]{a0 a1 v12}:LeC k (aK.l0 a0 a1 a2 v12):=aK.l0g_ a2 k a0 a1 v12
instance aK.fg{k:Nat} {a0} {a1}(a2:aI->aI->Option Bool)[∀q0 q1,LeC k (a2 q0 q1)]:LeC k (aK.f a0 a1 a2):=by delta aK.f;exact(.j (.c it fun o=>(match o with|.inl r=>it|.inr ()=>it)) it)
instance dw.fg{k:Nat} {a0} {a1} {a2} {a3}:LeC k (dw.f a0 a1 a2 a3):=by delta dw.f;exact it
instance dy.fg{k:Nat} {a0} {a1} {a2} {a3}:LeC k (dy.f a0 a1 a2 a3):=by delta dy.f;exact it
@[reducible] def aN.l0g_(a2:aG->aG->Option Bool){K:Nat}[∀q0 q1,LeC K (a2 q0 q1)]:∀(k:Nat) a0 a1 v12,LeC K (aN.l0 a0 a1 a2 v12)
 |0,_,_,_=>.n
 |k+1,a0,a1,v12=>have:=aN.l0g_ a2 (K:=K) k;.of K (aN.l0.eq_1 a0 a1 a2 v12) it
instance aN.l0g(a2:aG->aG->Option Bool){k:Nat}[∀q0 q1,LeC k (a2 q0 q1)]{a0 a1 v12}:LeC k (aN.l0 a0 a1 a2 v12):=aN.l0g_ a2 k a0 a1 v12
instance aN.fg{k:Nat} {a0} {a1}(a2:aG->aG->Option Bool)[∀q0 q1,LeC k (a2 q0 q1)]:LeC k (aN.f a0 a1 a2):=by delta aN.f;exact(.j (.c it fun o=>(match o with|.inl r=>it|.inr ()=>it)) it)
instance dM.fg{k:Nat} {a0} {a1} {a2} {a3}:LeC k (dM.f a0 a1 a2 a3):=by delta dM.f;exact it
instance eu.fg{k:Nat} {a0} {a1} {a2} {a3}:LeC k (eu.f a0 a1 a2 a3):=by delta eu.f;exact it
instance bt.l0g:∀(k:Nat) a0 a1 v10,LeC k (bt.l0 a0 a1 v10)
 |0,_,_,_=>.n
 |k+1,a0,a1,v10=>have:=bt.l0g k;.of k (bt.l0.eq_1 a0 a1 v10) it
instance bt.fg{k:Nat} {a0} {a1}:LeC k (bt.f a0 a1):=by delta bt.f;exact(.j (.c it fun o=>(match o with|.inl r=>it|.inr ()=>it)) it)
instance fp.fg{k:Nat} {a0} {a1}:LeC k (fp.f a0 a1):=by delta fp.f;exact it
@[reducible] def aQ.l0g_(a1:aG->Option Bool){K:Nat}[∀q0,LeC K (a1 q0)]:∀(k:Nat) v25 v26 v27,LeC K (aQ.l0 a1 v25 v26 v27)
 |0,_,_,_=>.n
 |k+1,v25,v26,v27=>have:=aQ.l0g_ a1 (K:=K) k;.of K (aQ.l0.eq_1 a1 v25 v26 v27) (.j (.c it fun o=>(match o with|(x35,x36)=>it)) it)
instance aQ.l0g(a1:aG->Option Bool){k:Nat}[∀q0,LeC k (a1 q0)]{v25 v26 v27}:LeC k (aQ.l0 a1 v25 v26 v27):=aQ.l0g_ a1 k v25 v26 v27
instance aQ.fg{k:Nat} {a0}(a1:aG->Option Bool)[∀q0,LeC k (a1 q0)]:LeC k (aQ.f a0 a1):=by delta aQ.f;exact(.c it fun y1=>(.j it (.c it fun o=>(match o with|(x28,x29)=>it))))
instance gz.fg{k:Nat} {a0} {a1} {a2}:LeC k (gz.f a0 a1 a2):=by delta gz.f;exact it
@[reducible] def aO.l0g_(a2:aF->aF->Option Bool){K:Nat}[∀q0 q1,LeC K (a2 q0 q1)]:∀(k:Nat) a0 a1 v12,LeC K (aO.l0 a0 a1 a2 v12)
 |0,_,_,_=>.n
 |k+1,a0,a1,v12=>have:=aO.l0g_ a2 (K:=K) k;.of K (aO.l0.eq_1 a0 a1 a2 v12) it
instance aO.l0g(a2:aF->aF->Option Bool){k:Nat}[∀q0 q1,LeC k (a2 q0 q1)]{a0 a1 v12}:LeC k (aO.l0 a0 a1 a2 v12):=aO.l0g_ a2 k a0 a1 v12
instance aO.fg{k:Nat} {a0} {a1}(a2:aF->aF->Option Bool)[∀q0 q1,LeC k (a2 q0 q1)]:LeC k (aO.f a0 a1 a2):=by delta aO.f;exact(.j (.c it fun o=>(match o with|.inl r=>it|.inr ()=>it)) it)
instance dN.fg{k:Nat} {a0} {a1} {a2} {a3}:LeC k (dN.f a0 a1 a2 a3):=by delta dN.f;exact it
instance dP.fg{k:Nat} {a0} {a1} {a2} {a3}:LeC k (dP.f a0 a1 a2 a3):=by delta dP.f;exact it
instance ez.l0g:∀(k:Nat) a0 a1 v25,LeC k (ez.l0 a0 a1 v25)
 |0,_,_,_=>.n
 |k+1,a0,a1,v25=>have:=ez.l0g k;.of k (ez.l0.eq_1 a0 a1 v25) it
instance ez.fg{k:Nat} {a0} {a1}:LeC k (ez.f a0 a1):=by delta ez.f;exact(.c it fun o=>(match o with|.inl r=>it|.inr ()=>it))
instance fy.fg{k:Nat} {a0} {a1} {a2} {a3}:LeC k (fy.f a0 a1 a2 a3):=by delta fy.f;exact(.c it fun y1=>(.c it fun y2=>(.c it fun y3=>(.c it fun y4=>(.c it fun y5=>(.c it fun y6=>(.c it fun y7=>(.c it fun y8=>(.j (.c it fun x17=>(.j it (.c it fun y26=>(.c it fun y27=>(.j (.j (.c it fun o=>(match o with|(x33,x34)=>it)) it) it))))) it)))))))))
instance dB.fg{k:Nat} {a0} {a1} {a2}:LeC k (dB.f a0 a1 a2):=by delta dB.f;exact it
instance eG.fg{k:Nat} {a0}:LeC k (eG.f a0):=by delta eG.f;exact it
@[reducible] def ba.l0g_(a1:al->Option Bool){K:Nat}[∀q0,LeC K (a1 q0)]:∀(k:Nat) a0 v9,LeC K (ba.l0 a0 a1 v9)
 |0,_,_=>.n
 |k+1,a0,v9=>have:=ba.l0g_ a1 (K:=K) k;.of K (ba.l0.eq_1 a0 a1 v9) it
instance ba.l0g(a1:al->Option Bool){k:Nat}[∀q0,LeC k (a1 q0)]{a0 v9}:LeC k (ba.l0 a0 a1 v9):=ba.l0g_ a1 k a0 v9
instance ba.fg{k:Nat} {a0}(a1:al->Option Bool)[∀q0,LeC k (a1 q0)]:LeC k (ba.f a0 a1):=by delta ba.f;exact(.c it fun o=>(match o with|.inl r=>it|.inr ()=>it))
instance db.fg{k:Nat} {a0} {a1} {a2} {a3}:LeC k (db.f a0 a1 a2 a3):=by delta db.f;exact it
instance eJ.fg{k:Nat} {a0} {a1}:LeC k (eJ.f a0 a1):=by delta eJ.f;exact it
@[reducible] def aR.l0g_(a1:al->Option Bool){K:Nat}[∀q0,LeC K (a1 q0)]:∀(k:Nat) v25 v26 v27,LeC K (aR.l0 a1 v25 v26 v27)
 |0,_,_,_=>.n
 |k+1,v25,v26,v27=>have:=aR.l0g_ a1 (K:=K) k;.of K (aR.l0.eq_1 a1 v25 v26 v27) (.j (.c it fun o=>(match o with|(x35,x36)=>it)) it)
instance aR.l0g(a1:al->Option Bool){k:Nat}[∀q0,LeC k (a1 q0)]{v25 v26 v27}:LeC k (aR.l0 a1 v25 v26 v27):=aR.l0g_ a1 k v25 v26 v27
instance aR.fg{k:Nat} {a0}(a1:al->Option Bool)[∀q0,LeC k (a1 q0)]:LeC k (aR.f a0 a1):=by delta aR.f;exact(.c it fun y1=>(.j it (.c it fun o=>(match o with|(x28,x29)=>it))))
instance eA.fg{k:Nat} {a0} {a1}:LeC k (eA.f a0 a1):=by delta eA.f;exact it
instance bV.l0g:∀(k:Nat) a0 y1 y2 v23,LeC k (bV.l0 a0 y1 y2 v23)
 |0,_,_,_,_=>.n
 |k+1,a0,y1,y2,v23=>have:=bV.l0g k;.of k (bV.l0.eq_1 a0 y1 y2 v23) it
instance bV.fg{k:Nat} {a0}:LeC k (bV.f a0):=by delta bV.f;exact(.c it fun y1=>(.c it fun y2=>(.c it fun o=>(match o with|.inl r=>it|.inr ()=>it))))
instance eB.fg{k:Nat} {a0}:LeC k (eB.f a0):=by delta eB.f;exact it
instance dC.l0g:∀(k:Nat) a0 a1 a4 a5 a6 v9,LeC k (dC.l0 a0 a1 a4 a5 a6 v9)
 |0,_,_,_,_,_,_=>.n
 |k+1,a0,a1,a4,a5,a6,v9=>have:=dC.l0g k;.of k (dC.l0.eq_1 a0 a1 a4 a5 a6 v9) it
instance dC.fg{k:Nat} {a0} {a1} {a2} {a3} {a4} {a5} {a6}:LeC k (dC.f a0 a1 a2 a3 a4 a5 a6):=by delta dC.f gV.f;exact(.c it fun o=>(match o with|.inl r=>it|.inr ()=>(.s it)))
instance reticentlaw20_alive.fg{k:Nat}:LeC k (reticentlaw20_alive.f):=by delta reticentlaw20_alive.f;exact it
end Go.Proofs.YtmjcpkmongafnaaGreatDoor.TT
