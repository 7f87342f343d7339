import Derived.Test.YtmjcpkmongafnaaGreatDoorDTT
set_option linter.unusedVariables false
set_option synthInstance.maxHeartbeats 400000
set_option synthInstance.maxSize 4000
set_option maxRecDepth 10000
namespace Go.Proofs.YtmjcpkmongafnaaGreatDoor.TT
open Go Go.Proofs.YtmjcpkmongafnaaGreatDoor.Ab
class LeC(k:Nat){α:Type}(b:Option α) where
 a:Option α
 h:∀r,a=some r->b=some r
theorem lB{α β:Type} {a b:Option α} {f g:α->Option β}(h:∀r,a=some r->b=some r)(k:∀y r,f y=some r->g y=some r):∀r,(a>>=f)=some r->(b>>=g)=some r:=fun r e=>by
 cases a with
 |none=>cases e
 |some y=>rw[h y rfl];exact k y r e
theorem lI{α:Type} {p:Prop}[Decidable p]{a b c d:Option α}(h:∀r,a=some r->b=some r)(k:∀r,c=some r->d=some r):∀r,(if p then a else c)=some r->(if p then b else d)=some r:=by
 by_cases q:p
 ·rw[if_pos q,if_pos q];exact h
 ·rw[if_neg q,if_neg q];exact k
instance(priority:=10) LeC.r{k:Nat} {α:Type} {b:Option α}:LeC k b:=⟨b,fun _ h=>h⟩
instance LeC.b{k:Nat} {α β:Type} {b:Option α} {f:α->Option β}[A:LeC k b][B:∀y,LeC k (f y)]:LeC k (b>>=f):=⟨A.a>>=fun y=>(B y).a,lB A.h fun y=>(B y).h⟩
instance LeC.i{k:Nat} {α:Type} {p:Prop}[Decidable p]{b c:Option α}[A:LeC k b][B:LeC k c]:LeC k (if p then b else c):=⟨if p then A.a else B.a,lI A.h B.h⟩
@[reducible] def LeC.of(k:Nat){α:Type} {b c:Option α}(e:c=b)(A:LeC k b){j:Nat}:LeC j c:=⟨A.a,fun r h=>e.trans (A.h r h)⟩
@[reducible] def LeC.n{k:Nat} {α:Type} {b:Option α}:LeC k b:=⟨none,fun _ h=>nomatch h⟩
@[reducible] def LeC.s{k:Nat} {α β:Type} {v:α} {f:α->Option β}(A:LeC k (f v)):LeC k (some v>>=f):=⟨A.a,A.h⟩
@[reducible] def it{k:Nat} {α:Type} {b:Option α}[A:LeC k b]:LeC k b:=A
@[reducible] def LeC.c{k:Nat} {α β:Type} {b:Option α} {f:α->Option β}(A:LeC k b)(B:∀y,LeC k (f y)):LeC k (b>>=f):=LeC.b
@[reducible] def LeC.j{k:Nat} {α:Type} {p:Prop}[Decidable p]{b c:Option α}(A:LeC k b)(B:LeC k c):LeC k (if p then b else c):=LeC.i
instance leY{k:Nat} {τ β γ:Type} {p:τ->β->γ->Option (Bool×(τ×Nat))}[A:∀a b c,LeC k (p a b c)](a:τ×Nat)(b:β)(c:γ):LeC k (yOf p a b c):=match a with
 |(s,0)=>(A s b c:LeC k (p s b c))
 |(s,n+1)=>.n
class LeL(k:Nat){α β:Type}(m:List (Int×Option (α->Option β))) where
 l:List (Int×Option (α->Option β))
 h:∀(γ:Type) (x:Int) (a:α) (q:β->Option γ) r,((mGet l none x).1>>=fun g=>g a>>=q)=some r->((mGet m none x).1>>=fun g=>g a>>=q)=some r
instance LeL.n{k:Nat} {α β:Type}:LeL k ([]:List (Int×Option (α->Option β))):=⟨[],fun _ _ _ _ _ h=>h⟩
theorem mG{α β:Type} {k x:Int} {f:Option (α->Option β)} {l:List (Int×Option (α->Option β))}:(mGet ((k,f)::l) none x).1=if x=k then f else (mGet l none x).1:=by
 simp only[mGet,mFind]
 by_cases e:x=k
 ·rw[if_pos e,if_pos e]
 ·rw[if_neg e,if_neg e]
instance LeL.c{k:Nat} {α β:Type} {x:Int} {f:α->Option β} {m:List (Int×Option (α->Option β))}[A:∀a,LeC k (f a)][B:LeL k m]:LeL k ((x,some f)::m):=⟨(x,some fun a=>(A a).a)::B.l,fun γ y a q r e=>by
 rw[mG] at e⊢
 by_cases c:y=x
 ·rw[if_pos c] at e⊢
  exact lB (A a).h (fun _ _ h=>h) r e
 ·rw[if_neg c] at e⊢
  exact B.h γ y a q r e⟩
instance(priority:=2000) leM{k:Nat} {α β γ:Type} {m:List (Int×Option (α->Option β))} {x:Int} {a:α} {q:β->Option γ}[A:LeL k m]:LeC k ((mGet m none x).1>>=fun g=>g a>>=q):=⟨(mGet A.l none x).1>>=fun g=>g a>>=q,A.h γ x a q⟩
instance b8.l0g:∀(k:Nat) a0 v19,LeC k (b8.l0 a0 v19)
 |0,_,_=>.n
 |k+1,a0,v19=>have:=b8.l0g k;.of k (b8.l0.eq_1 a0 v19) it
instance b8.fg{k:Nat} {a0}:LeC k (b8.f a0):=by delta b8.f;exact(.c it fun o=>(match o with|.inl r=>it|.inr ()=>it))
instance aV.l0g:∀(k:Nat) a0 a1 v7,LeC k (aV.l0 a0 a1 v7)
 |0,_,_,_=>.n
 |k+1,a0,a1,v7=>have:=aV.l0g k;.of k (aV.l0.eq_1 a0 a1 v7) it
instance aV.fg{k:Nat} {a0} {a1}:LeC k (aV.f a0 a1):=by delta aV.f;exact(.c it fun o=>(match o with|.inl r=>it|.inr ()=>it))
instance bR.fg{k:Nat} {a0} {a1}:LeC k (bR.f a0 a1):=by delta bR.f;exact it
instance cF.l0g:∀(k:Nat) a0 v43,LeC k (cF.l0 a0 v43)
 |0,_,_=>.n
 |k+1,a0,v43=>have:=cF.l0g k;.of k (cF.l0.eq_1 a0 v43) it
instance cF.fg{k:Nat} {a0}:LeC k (cF.f a0):=by delta cF.f;exact(.c it fun x3=>(.j it (.c it fun o=>(match o with|.inl r=>it|.inr ()=>it))))
@[reducible] def aR.l3g_{σ:Type}(a_y:σ->Int->Int->Option (Bool×σ)){K:Nat}[∀q0 q1 q2,LeC K (a_y q0 q1 q2)]:∀(k:Nat) a1 v28 v37 v38,LeC K (aR.l3 a_y a1 v28 v37 v38)
 |0,_,_,_,_=>.n
 |k+1,a1,v28,v37,v38=>have:=aR.l3g_ a_y (K:=K) k;.of K (aR.l3.eq_1 a_y a1 v28 v37 v38) it
instance aR.l3g{σ:Type}(a_y:σ->Int->Int->Option (Bool×σ)){k:Nat}[∀q0 q1 q2,LeC k (a_y q0 q1 q2)]{a1 v28 v37 v38}:LeC k (aR.l3 a_y a1 v28 v37 v38):=aR.l3g_ a_y k a1 v28 v37 v38
@[reducible] def aR.l2g_{σ:Type}(a_y:σ->Int->Int->Option (Bool×σ)){K:Nat}[∀q0 q1 q2,LeC K (a_y q0 q1 q2)]:∀(k:Nat) a1 v27 v28,LeC K (aR.l2 a_y a1 v27 v28)
 |0,_,_,_=>.n
 |k+1,a1,v27,v28=>have:=aR.l2g_ a_y (K:=K) k;.of K (aR.l2.eq_1 a_y a1 v27 v28) (.j (.c it fun o=>(match o with|.inl r=>it|.inr x39=>it)) it)
instance aR.l2g{σ:Type}(a_y:σ->Int->Int->Option (Bool×σ)){k:Nat}[∀q0 q1 q2,LeC k (a_y q0 q1 q2)]{a1 v27 v28}:LeC k (aR.l2 a_y a1 v27 v28):=aR.l2g_ a_y k a1 v27 v28
instance aR.fg{σ:Type} {k:Nat}(a_y:σ->Int->Int->Option (Bool×σ)){a_s} {a1}[∀q0 q1 q2,LeC k (a_y q0 q1 q2)]:LeC k (aR.f a_y a_s a1):=by delta aR.f;exact(.c it fun o=>(match o with|.inl r=>it|.inr x29=>it))
instance dh.fg{k:Nat} {a0}:LeC k (dh.f a0):=by delta dh.f;exact it
@[reducible] def az.l0g_(a1:Int->Option Bool){K:Nat}[∀q0,LeC K (a1 q0)]:∀(k:Nat) a0 v9,LeC K (az.l0 a0 a1 v9)
 |0,_,_=>.n
 |k+1,a0,v9=>have:=az.l0g_ a1 (K:=K) k;.of K (az.l0.eq_1 a0 a1 v9) it
instance az.l0g(a1:Int->Option Bool){k:Nat}[∀q0,LeC k (a1 q0)]{a0 v9}:LeC k (az.l0 a0 a1 v9):=az.l0g_ a1 k a0 v9
instance az.fg{k:Nat} {a0}(a1:Int->Option Bool)[∀q0,LeC k (a1 q0)]:LeC k (az.f a0 a1):=by delta az.f;exact(.c it fun o=>(match o with|.inl r=>it|.inr ()=>it))
instance ed.fg{k:Nat} {a0} {a1} {a2}:LeC k (ed.f a0 a1 a2):=by delta ed.f;exact it
instance cf.l0g:∀(k:Nat) a0 a1 v8 v9,LeC k (cf.l0 a0 a1 v8 v9)
 |0,_,_,_,_=>.n
 |k+1,a0,a1,v8,v9=>have:=cf.l0g k;.of k (cf.l0.eq_1 a0 a1 v8 v9) it
instance cf.fg{k:Nat} {a0} {a1}:LeC k (cf.f a0 a1):=by delta cf.f;exact it
instance b4.l0g:∀(k:Nat) a0 y1 y2 v9,LeC k (b4.l0 a0 y1 y2 v9)
 |0,_,_,_,_=>.n
 |k+1,a0,y1,y2,v9=>have:=b4.l0g k;.of k (b4.l0.eq_1 a0 y1 y2 v9) it
instance b4.fg{k:Nat} {a0} {a1} {a2}:LeC k (b4.f a0 a1 a2):=by delta b4.f;exact(.c it fun y1=>(.c it fun y2=>(.c it fun o=>(match o with|.inl r=>it|.inr ()=>it))))
instance bK.y0g{k:Nat} {a0} {v22} {v23} {v24}:LeC k (bK.y0 a0 v22 v23 v24):=by delta bK.y0;exact it
instance bK.fg{k:Nat} {a0}:LeC k (bK.f a0):=by delta bK.f;exact it
instance dt.l0g:∀(k:Nat) a0 v269 v270,LeC k (dt.l0 a0 v269 v270)
 |0,_,_,_=>.n
 |k+1,a0,v269,v270=>have:=dt.l0g k;.of k (dt.l0.eq_1 a0 v269 v270) (.j (.c (.c it fun y340=>(.c it fun o=>(match o with|(x372,x373)=>it))) fun o=>(match o with|.inl r=>it|.inr x339=>it)) it)
instance dt.fg{k:Nat} {a0}:LeC k (dt.f a0):=by delta dt.f;exact(.c it fun o=>(match o with|.inl r=>it|.inr x271=>it))
instance dI.fg{k:Nat} {a0} {a1}:LeC k (dI.f a0 a1):=by delta dI.f;exact it
instance fa.fg{k:Nat} {a0}:LeC k (fa.f a0):=by delta fa.f;exact it
instance dG.l0g:∀(k:Nat) a0 v31 v32,LeC k (dG.l0 a0 v31 v32)
 |0,_,_,_=>.n
 |k+1,a0,v31,v32=>have:=dG.l0g k;.of k (dG.l0.eq_1 a0 v31 v32) it
instance dG.fg{k:Nat} {a0}:LeC k (dG.f a0):=by delta dG.f;exact it
instance ef.fg{k:Nat} {a0} {a1}:LeC k (ef.f a0 a1):=by delta ef.f;exact it
instance eM.fg{k:Nat} {a0} {a1}:LeC k (eM.f a0 a1):=by delta eM.f;exact it
instance di.l0g:∀(k:Nat) a0 v14,LeC k (di.l0 a0 v14)
 |0,_,_=>.n
 |k+1,a0,v14=>have:=di.l0g k;.of k (di.l0.eq_1 a0 v14) it
instance di.fg{k:Nat} {a0}:LeC k (di.f a0):=by delta di.f;exact(.j (.c it fun o=>(match o with|.inl r=>it|.inr ()=>it)) it)
@[reducible] def aH.l0g_(a1:ap->Option Bool){K:Nat}[∀q0,LeC K (a1 q0)]:∀(k:Nat) a0 v9,LeC K (aH.l0 a0 a1 v9)
 |0,_,_=>.n
 |k+1,a0,v9=>have:=aH.l0g_ a1 (K:=K) k;.of K (aH.l0.eq_1 a0 a1 v9) it
instance aH.l0g(a1:ap->Option Bool){k:Nat}[∀q0,LeC k (a1 q0)]{a0 v9}:LeC k (aH.l0 a0 a1 v9):=aH.l0g_ a1 k a0 v9
instance aH.fg{k:Nat} {a0}(a1:ap->Option Bool)[∀q0,LeC k (a1 q0)]:LeC k (aH.f a0 a1):=by delta aH.f;exact(.c it fun o=>(match o with|.inl r=>it|.inr ()=>it))
instance bL.fg{k:Nat} {a0}(a1:ap->Option Bool)[∀q0,LeC k (a1 q0)]:LeC k (bL.f a0 a1):=by delta bL.f;exact it
instance dZ.fg{k:Nat} {a0} {a1}:LeC k (dZ.f a0 a1):=by delta dZ.f;exact it
@[reducible] def aF.l0g_(a1:am->Option Bool){K:Nat}[∀q0,LeC K (a1 q0)]:∀(k:Nat) a0 v9,LeC K (aF.l0 a0 a1 v9)
 |0,_,_=>.n
 |k+1,a0,v9=>have:=aF.l0g_ a1 (K:=K) k;.of K (aF.l0.eq_1 a0 a1 v9) it
instance aF.l0g(a1:am->Option Bool){k:Nat}[∀q0,LeC k (a1 q0)]{a0 v9}:LeC k (aF.l0 a0 a1 v9):=aF.l0g_ a1 k a0 v9
instance aF.fg{k:Nat} {a0}(a1:am->Option Bool)[∀q0,LeC k (a1 q0)]:LeC k (aF.f a0 a1):=by delta aF.f;exact(.c it fun o=>(match o with|.inl r=>it|.inr ()=>it))
instance bh.fg{k:Nat} {a0}(a1:am->Option Bool)[∀q0,LeC k (a1 q0)]:LeC k (bh.f a0 a1):=by delta bh.f;exact it
@[reducible] def aK.l0g_(a1:al->Option Bool){K:Nat}[∀q0,LeC K (a1 q0)]:∀(k:Nat) a0 v9,LeC K (aK.l0 a0 a1 v9)
 |0,_,_=>.n
 |k+1,a0,v9=>have:=aK.l0g_ a1 (K:=K) k;.of K (aK.l0.eq_1 a0 a1 v9) it
instance aK.l0g(a1:al->Option Bool){k:Nat}[∀q0,LeC k (a1 q0)]{a0 v9}:LeC k (aK.l0 a0 a1 v9):=aK.l0g_ a1 k a0 v9
instance aK.fg{k:Nat} {a0}(a1:al->Option Bool)[∀q0,LeC k (a1 q0)]:LeC k (aK.f a0 a1):=by delta aK.f;exact(.c it fun o=>(match o with|.inl r=>it|.inr ()=>it))
instance bz.fg{k:Nat} {a0}(a1:al->Option Bool)[∀q0,LeC k (a1 q0)]:LeC k (bz.f a0 a1):=by delta bz.f;exact it
instance dW.fg{k:Nat} {a0} {a1}:LeC k (dW.f a0 a1):=by delta dW.f;exact it
@[reducible] def aO.l0g_(a1:Int->Option Bool){K:Nat}[∀q0,LeC K (a1 q0)]:∀(k:Nat) a0 v9,LeC K (aO.l0 a0 a1 v9)
 |0,_,_=>.n
 |k+1,a0,v9=>have:=aO.l0g_ a1 (K:=K) k;.of K (aO.l0.eq_1 a0 a1 v9) it
instance aO.l0g(a1:Int->Option Bool){k:Nat}[∀q0,LeC k (a1 q0)]{a0 v9}:LeC k (aO.l0 a0 a1 v9):=aO.l0g_ a1 k a0 v9
instance aO.fg{k:Nat} {a0}(a1:Int->Option Bool)[∀q0,LeC k (a1 q0)]:LeC k (aO.f a0 a1):=by delta aO.f;exact(.c it fun o=>(match o with|.inl r=>it|.inr ()=>it))
instance bH.fg{k:Nat} {a0}(a1:Int->Option Bool)[∀q0,LeC k (a1 q0)]:LeC k (bH.f a0 a1):=by delta bH.f;exact it
instance df.fg{k:Nat} {a0} {a1}:LeC k (df.f a0 a1):=by delta df.f;exact it
instance aS.l0g:∀(k:Nat) a0 a1 v7,LeC k (aS.l0 a0 a1 v7)
 |0,_,_,_=>.n
 |k+1,a0,a1,v7=>have:=aS.l0g k;.of k (aS.l0.eq_1 a0 a1 v7) it
instance aS.fg{k:Nat} {a0} {a1}:LeC k (aS.f a0 a1):=by delta aS.f;exact(.c it fun o=>(match o with|.inl r=>it|.inr ()=>it))
instance cR.fg{k:Nat} {a0}:LeC k (cR.f a0):=by delta cR.f;exact it
instance bg.l0g:∀(k:Nat) y3 v12 v13,LeC k (bg.l0 y3 v12 v13)
 |0,_,_,_=>.n
 |k+1,y3,v12,v13=>have:=bg.l0g k;.of k (bg.l0.eq_1 y3 v12 v13) (.j (.c it fun z16=>(match z16 with|.inl p17=>it|.inr y18=>it)) it)
instance bg.fg{k:Nat} {a0}:LeC k (bg.f a0):=by delta bg.f;exact(.c it fun z1=>(match z1 with|.inl p2=>it|.inr y3=>(.c it fun o=>(match o with|.inl r=>it|.inr x14=>it))))
instance aG.l0g:∀(k:Nat) y4 v17,LeC k (aG.l0 y4 v17)
 |0,_,_=>.n
 |k+1,y4,v17=>have:=aG.l0g k;.of k (aG.l0.eq_1 y4 v17) it
instance aG.l1g:∀(k:Nat) a0 v41,LeC k (aG.l1 a0 v41)
 |0,_,_=>.n
 |k+1,a0,v41=>have:=aG.l1g k;.of k (aG.l1.eq_1 a0 v41) it
instance aG.fg{k:Nat} {a0}:LeC k (aG.f a0):=by delta aG.f;exact(.j (.c it fun z2=>(match z2 with|.inl p3=>it|.inr y4=>(.c it fun x18=>(.c it fun z25=>(match z25 with|.inl p26=>it|.inr y27=>it))))) (.c it fun x42=>(.c it fun z49=>(match z49 with|.inl p50=>it|.inr y51=>it))))
instance bG.fg{k:Nat} {a0}:LeC k (bG.f a0):=by delta bG.f;exact(.j it (.j it (.j it (.j (.c it fun z8=>(match z8 with|.inl p9=>it|.inr y10=>it)) (.j (.c it fun z12=>(match z12 with|.inl p13=>it|.inr y14=>it)) (.j (.c it fun z16=>(match z16 with|.inl p17=>it|.inr y18=>it)) (.j (.c it fun z20=>(match z20 with|.inl p21=>it|.inr y22=>it)) (.j (.c it fun z24=>(match z24 with|.inl p25=>it|.inr y26=>it)) (.j (.c it fun z28=>(match z28 with|.inl p29=>it|.inr y30=>it)) (.j (.c it fun z32=>(match z32 with|.inl p33=>it|.inr y34=>it)) (.j (.c it fun z36=>(match z36 with|.inl p37=>it|.inr y38=>it)) (.j (.c it fun z40=>(match z40 with|.inl p41=>it|.inr y42=>it)) (.j (.c it fun z44=>(match z44 with|.inl p45=>it|.inr y46=>it)) it)))))))))))))
instance fo.fg{k:Nat} {a0} {a1} {a2} {a3}:LeC k (fo.f a0 a1 a2 a3):=by delta fo.f;exact it
instance eL.fg{k:Nat} {a0}:LeC k (eL.f a0):=by delta eL.f;exact it
instance dq.fg{k:Nat} {a0} {a1} {a2}:LeC k (dq.f a0 a1 a2):=by delta dq.f;exact it
instance ez.fg{k:Nat} {a0} {a1} {a2}:LeC k (ez.f a0 a1 a2):=by delta ez.f;exact it
instance eA.fg{k:Nat} {a0} {a1} {a2}:LeC k (eA.f a0 a1 a2):=by delta eA.f;exact it
instance dE.fg{k:Nat} {a0} {a1} {a2} {a3}:LeC k (dE.f a0 a1 a2 a3):=by delta dE.f;exact it
instance bf.l0g:∀(k:Nat) a1 v231 v232 v233 v234 v235,LeC k (bf.l0 a1 v231 v232 v233 v234 v235)
 |0,_,_,_,_,_,_=>.n
 |k+1,a1,v231,v232,v233,v234,v235=>have:=bf.l0g k;.of k (bf.l0.eq_1 a1 v231 v232 v233 v234 v235) (.j (.c (.c it fun y300=>(.c it fun o=>(match o with|(x326,x327,x328,x329)=>it))) fun o=>(match o with|(x296,x297,x298,x299)=>it)) it)
instance bf.fg{k:Nat} {a0} {a1}:LeC k (bf.f a0 a1):=by delta bf.f;exact(.c it fun o=>(match o with|(x236,x237,x238,x239)=>it))
instance dU.fg{k:Nat} {a0} {a1} {a2}:LeC k (dU.f a0 a1 a2):=by delta dU.f;exact it
instance cT.fg{k:Nat} {a0} {a1} {a2}:LeC k (cT.f a0 a1 a2):=by delta cT.f;exact it
instance aA.l0g:∀(k:Nat) a0 v13 v14,LeC k (aA.l0 a0 v13 v14)
 |0,_,_,_=>.n
 |k+1,a0,v13,v14=>have:=aA.l0g k;.of k (aA.l0.eq_1 a0 v13 v14) it
instance aA.l1g:∀(k:Nat) a0 v29 v30,LeC k (aA.l1 a0 v29 v30)
 |0,_,_,_=>.n
 |k+1,a0,v29,v30=>have:=aA.l1g k;.of k (aA.l1.eq_1 a0 v29 v30) it
instance aA.fg{k:Nat} {a0}:LeC k (aA.f a0):=by delta aA.f;exact it
instance dn.fg{k:Nat} {a0} {a1}:LeC k (dn.f a0 a1):=by delta dn.f;exact(.j (.c it fun y2=>(.c it fun o=>(match o with|(x28,x29)=>it))) it)
instance cW.Bg{k:Nat} {a0} {a1} {a2}:LeC k (cW.B a0 a1 a2):=by delta cW.B;exact(.c it fun z1=>(match z1 with|.inl p2=>it|.inr y3=>(.c it fun y4=>(.c it fun y5=>(.c it fun z6=>(match z6 with|.inl p7=>it|.inr y8=>(.j it (.c it fun y10=>(.c it fun y11=>(.j it (.c it fun y13=>(.c it fun y14=>(.c it fun y15=>(.c it fun y16=>(.c it fun z17=>(match z17 with|.inl p18=>it|.inr y19=>it))))))))))))))))
instance cW.fg{k:Nat} {a0} {a1} {a2}:LeC k (cW.f a0 a1 a2):=by delta cW.f;exact it
instance dM.fg{k:Nat} {a0} {a1} {a2}:LeC k (dM.f a0 a1 a2):=by delta dM.f;exact it
instance fl.fg{k:Nat} {a0} {a1} {a2} {a3}:LeC k (fl.f a0 a1 a2 a3):=by delta fl.f;exact it
@[reducible] def bt.l0g_{σ:Type}(a_y:σ->aa->Int->Option (Bool×σ)){K:Nat}[∀q0 q1 q2,LeC K (a_y q0 q1 q2)]:∀(k:Nat) a1 a2 a3 v19 v20 v21,LeC K (bt.l0 a_y a1 a2 a3 v19 v20 v21)
 |0,_,_,_,_,_,_=>.n
 |k+1,a1,a2,a3,v19,v20,v21=>have:=bt.l0g_ a_y (K:=K) k;.of K (bt.l0.eq_1 a_y a1 a2 a3 v19 v20 v21) (.j (.c it fun y25=>(.c it fun o=>(match o with|(x28,x29)=>it))) it)
instance bt.l0g{σ:Type}(a_y:σ->aa->Int->Option (Bool×σ)){k:Nat}[∀q0 q1 q2,LeC k (a_y q0 q1 q2)]{a1 a2 a3 v19 v20 v21}:LeC k (bt.l0 a_y a1 a2 a3 v19 v20 v21):=bt.l0g_ a_y k a1 a2 a3 v19 v20 v21
instance bt.fg{σ:Type} {k:Nat}(a_y:σ->aa->Int->Option (Bool×σ)){a_s} {a1} {a2} {a3} {a4}[∀q0 q1 q2,LeC k (a_y q0 q1 q2)]:LeC k (bt.f a_y a_s a1 a2 a3 a4):=by delta bt.f;exact(.c it fun o=>(match o with|.inl r=>it|.inr (x22,x23)=>it))
instance cJ.fg{k:Nat} {a0} {a1} {a2} {a3}:LeC k (cJ.f a0 a1 a2 a3):=by delta cJ.f;exact it
instance bE.fg{k:Nat} {a0} {a1}:LeC k (bE.f a0 a1):=by delta bE.f;exact it
@[reducible] def aD.l0g_(a1:aa->Option Bool){K:Nat}[∀q0,LeC K (a1 q0)]:∀(k:Nat) a0 v9,LeC K (aD.l0 a0 a1 v9)
 |0,_,_=>.n
 |k+1,a0,v9=>have:=aD.l0g_ a1 (K:=K) k;.of K (aD.l0.eq_1 a0 a1 v9) it
instance aD.l0g(a1:aa->Option Bool){k:Nat}[∀q0,LeC k (a1 q0)]{a0 v9}:LeC k (aD.l0 a0 a1 v9):=aD.l0g_ a1 k a0 v9
instance aD.fg{k:Nat} {a0}(a1:aa->Option Bool)[∀q0,LeC k (a1 q0)]:LeC k (aD.f a0 a1):=by delta aD.f;exact(.c it fun o=>(match o with|.inl r=>it|.inr ()=>it))
instance ci.fg{k:Nat} {a0} {a1} {a2} {a3}:LeC k (ci.f a0 a1 a2 a3):=by delta ci.f;exact it
instance dr.fg{k:Nat} {a0} {a1}:LeC k (dr.f a0 a1):=by delta dr.f;exact it
@[reducible] def av.l0g_(a1:aa->Option Bool){K:Nat}[∀q0,LeC K (a1 q0)]:∀(k:Nat) v25 v26 v27,LeC K (av.l0 a1 v25 v26 v27)
 |0,_,_,_=>.n
 |k+1,v25,v26,v27=>have:=av.l0g_ a1 (K:=K) k;.of K (av.l0.eq_1 a1 v25 v26 v27) (.j (.c it fun o=>(match o with|(x35,x36)=>it)) it)
instance av.l0g(a1:aa->Option Bool){k:Nat}[∀q0,LeC k (a1 q0)]{v25 v26 v27}:LeC k (av.l0 a1 v25 v26 v27):=av.l0g_ a1 k v25 v26 v27
instance av.fg{k:Nat} {a0}(a1:aa->Option Bool)[∀q0,LeC k (a1 q0)]:LeC k (av.f a0 a1):=by delta av.f;exact(.c it fun y1=>(.j it (.c it fun o=>(match o with|(x28,x29)=>it))))
instance dm.fg{k:Nat} {a0} {a1}:LeC k (dm.f a0 a1):=by delta dm.f;exact it
instance bi.l3g:∀(k:Nat) a0 y45 v56 v57,LeC k (bi.l3 a0 y45 v56 v57)
 |0,_,_,_,_=>.n
 |k+1,a0,y45,v56,v57=>have:=bi.l3g k;.of k (bi.l3.eq_1 a0 y45 v56 v57) it
instance bi.l2g:∀(k:Nat) a0 a1 v41 v42,LeC k (bi.l2 a0 a1 v41 v42)
 |0,_,_,_,_=>.n
 |k+1,a0,a1,v41,v42=>have:=bi.l2g k;.of k (bi.l2.eq_1 a0 a1 v41 v42) it
instance bi.fg{k:Nat} {a0} {a1}:LeC k (bi.f a0 a1):=by delta bi.f;exact it
instance bl.l3g:∀(k:Nat) a0 y45 v56 v57,LeC k (bl.l3 a0 y45 v56 v57)
 |0,_,_,_,_=>.n
 |k+1,a0,y45,v56,v57=>have:=bl.l3g k;.of k (bl.l3.eq_1 a0 y45 v56 v57) it
instance bl.l2g:∀(k:Nat) a0 a1 v41 v42,LeC k (bl.l2 a0 a1 v41 v42)
 |0,_,_,_,_=>.n
 |k+1,a0,a1,v41,v42=>have:=bl.l2g k;.of k (bl.l2.eq_1 a0 a1 v41 v42) it
instance bl.fg{k:Nat} {a0} {a1}:LeC k (bl.f a0 a1):=by delta bl.f;exact it
instance bm.l3g:∀(k:Nat) a0 y45 v56 v57,LeC k (bm.l3 a0 y45 v56 v57)
 |0,_,_,_,_=>.n
 |k+1,a0,y45,v56,v57=>have:=bm.l3g k;.of k (bm.l3.eq_1 a0 y45 v56 v57) it
instance bm.l2g:∀(k:Nat) a0 a1 v41 v42,LeC k (bm.l2 a0 a1 v41 v42)
 |0,_,_,_,_=>.n
 |k+1,a0,a1,v41,v42=>have:=bm.l2g k;.of k (bm.l2.eq_1 a0 a1 v41 v42) it
instance bm.fg{k:Nat} {a0} {a1}:LeC k (bm.f a0 a1):=by delta bm.f;exact it
instance bn.l0g:∀(k:Nat) a0 v13 v14,LeC k (bn.l0 a0 v13 v14)
 |0,_,_,_=>.n
 |k+1,a0,v13,v14=>have:=bn.l0g k;.of k (bn.l0.eq_1 a0 v13 v14) it
instance bn.l1g:∀(k:Nat) a0 v29 v30,LeC k (bn.l1 a0 v29 v30)
 |0,_,_,_=>.n
 |k+1,a0,v29,v30=>have:=bn.l1g k;.of k (bn.l1.eq_1 a0 v29 v30) it
instance bn.fg{k:Nat} {a0}:LeC k (bn.f a0):=by delta bn.f;exact it
instance fX.fg{k:Nat} {a0} {a1}:LeC k (fX.f a0 a1):=by delta fX.f;exact it
instance bw.fg{k:Nat} {a0} {a1}:LeC k (bw.f a0 a1):=by delta bw.f;exact it
@[reducible] def aw.l0g_(a2:ap->ap->Option Bool){K:Nat}[∀q0 q1,LeC K (a2 q0 q1)]:∀(k:Nat) a0 a1 v12,LeC K (aw.l0 a0 a1 a2 v12)
 |0,_,_,_=>.n
 |k+1,a0,a1,v12=>have:=aw.l0g_ a2 (K:=K) k;.of K (aw.l0.eq_1 a0 a1 a2 v12) it
instance aw.l0g(a2:ap->ap->Option Bool){k:Nat}[∀q0 q1,LeC k (a2 q0 q1)]{a0 a1 v12}:LeC k (aw.l0 a0 a1 a2 v12):=aw.l0g_ a2 k a0 a1 v12
instance aw.fg{k:Nat} {a0} {a1}(a2:ap->ap->Option Bool)[∀q0 q1,LeC k (a2 q0 q1)]:LeC k (aw.f a0 a1 a2):=by delta aw.f;exact(.j (.c it fun o=>(match o with|.inl r=>it|.inr ()=>it)) it)
instance dw.fg{k:Nat} {a0} {a1} {a2} {a3}:LeC k (dw.f a0 a1 a2 a3):=by delta dw.f;exact it
instance du.fg{k:Nat} {a0} {a1} {a2} {a3}:LeC k (du.f a0 a1 a2 a3):=by delta du.f;exact it
@[reducible] def aB.l0g_(a2:am->am->Option Bool){K:Nat}[∀q0 q1,LeC K (a2 q0 q1)]:∀(k:Nat) a0 a1 v12,LeC K (aB.l0 a0 a1 a2 v12)
 |0,_,_,_=>.n
 |k+1,a0,a1,v12=>have:=aB.l0g_ a2 (K:=K) k;.of K (aB.l0.eq_1 a0 a1 a2 v12) it
instance aB.l0g(a2:am->am->Option Bool){k:Nat}[∀q0 q1,LeC k (a2 q0 q1)]{a0 a1 v12}:LeC k (aB.l0 a0 a1 a2 v12):=aB.l0g_ a2 k a0 a1 v12
instance aB.fg{k:Nat} {a0} {a1}(a2:am->am->Option Bool)[∀q0 q1,LeC k (a2 q0 q1)]:LeC k (aB.f a0 a1 a2):=by delta aB.f;exact(.j (.c it fun o=>(match o with|.inl r=>it|.inr ()=>it)) it)
instance dB.fg{k:Nat} {a0} {a1} {a2} {a3}:LeC k (dB.f a0 a1 a2 a3):=by delta dB.f;exact it
instance dH.fg{k:Nat} {a0} {a1} {a2} {a3}:LeC k (dH.f a0 a1 a2 a3):=by delta dH.f;exact it
instance bq.l0g:∀(k:Nat) a0 a1 v10,LeC k (bq.l0 a0 a1 v10)
 |0,_,_,_=>.n
 |k+1,a0,a1,v10=>have:=bq.l0g k;.of k (bq.l0.eq_1 a0 a1 v10) it
instance bq.fg{k:Nat} {a0} {a1}:LeC k (bq.f a0 a1):=by delta bq.f;exact(.j (.c it fun o=>(match o with|.inl r=>it|.inr ()=>it)) it)
instance eY.fg{k:Nat} {a0} {a1}:LeC k (eY.f a0 a1):=by delta eY.f;exact it
@[reducible] def aI.l0g_(a1:am->Option Bool){K:Nat}[∀q0,LeC K (a1 q0)]:∀(k:Nat) v25 v26 v27,LeC K (aI.l0 a1 v25 v26 v27)
 |0,_,_,_=>.n
 |k+1,v25,v26,v27=>have:=aI.l0g_ a1 (K:=K) k;.of K (aI.l0.eq_1 a1 v25 v26 v27) (.j (.c it fun o=>(match o with|(x35,x36)=>it)) it)
instance aI.l0g(a1:am->Option Bool){k:Nat}[∀q0,LeC k (a1 q0)]{v25 v26 v27}:LeC k (aI.l0 a1 v25 v26 v27):=aI.l0g_ a1 k v25 v26 v27
instance aI.fg{k:Nat} {a0}(a1:am->Option Bool)[∀q0,LeC k (a1 q0)]:LeC k (aI.f a0 a1):=by delta aI.f;exact(.c it fun y1=>(.j it (.c it fun o=>(match o with|(x28,x29)=>it))))
instance fR.fg{k:Nat} {a0} {a1} {a2}:LeC k (fR.f a0 a1 a2):=by delta fR.f;exact it
@[reducible] def aC.l0g_(a2:al->al->Option Bool){K:Nat}[∀q0 q1,LeC K (a2 q0 q1)]:∀(k:Nat) a0 a1 v12,LeC K (aC.l0 a0 a1 a2 v12)
 |0,_,_,_=>.n
 |k+1,a0,a1,v12=>have:=aC.l0g_ a2 (K:=K) k;.of K (aC.l0.eq_1 a0 a1 a2 v12) it
instance aC.l0g(a2:al->al->Option Bool){k:Nat}[∀q0 q1,LeC k (a2 q0 q1)]{a0 a1 v12}:LeC k (aC.l0 a0 a1 a2 v12):=aC.l0g_ a2 k a0 a1 v12
instance aC.fg{k:Nat} {a0} {a1}(a2:al->al->Option Bool)[∀q0 q1,LeC k (a2 q0 q1)]:LeC k (aC.f a0 a1 a2):=by delta aC.f;exact(.j (.c it fun o=>(match o with|.inl r=>it|.inr ()=>it)) it)
instance dC.fg{k:Nat} {a0} {a1} {a2} {a3}:LeC k (dC.f a0 a1 a2 a3):=by delta dC.f;exact it
instance dD.fg{k:Nat} {a0} {a1} {a2} {a3}:LeC k (dD.f a0 a1 a2 a3):=by delta dD.f;exact it
instance dO.l0g:∀(k:Nat) a0 a1 v25,LeC k (dO.l0 a0 a1 v25)
 |0,_,_,_=>.n
 |k+1,a0,a1,v25=>have:=dO.l0g k;.of k (dO.l0.eq_1 a0 a1 v25) it
instance dO.fg{k:Nat} {a0} {a1}:LeC k (dO.f a0 a1):=by delta dO.f;exact(.c it fun o=>(match o with|.inl r=>it|.inr ()=>it))
instance eZ.fg{k:Nat} {a0} {a1} {a2} {a3}:LeC k (eZ.f a0 a1 a2 a3):=by delta eZ.f;exact(.c it fun y1=>(.c it fun y2=>(.c it fun y3=>(.c it fun y4=>(.c it fun y5=>(.c it fun y6=>(.c it fun y7=>(.c it fun y8=>(.j (.c it fun x17=>(.j it (.c it fun y26=>(.c it fun y27=>(.j (.j (.c it fun o=>(match o with|(x33,x34)=>it)) it) it))))) it)))))))))
instance dl.fg{k:Nat} {a0} {a1} {a2}:LeC k (dl.f a0 a1 a2):=by delta dl.f;exact it
instance eT.fg{k:Nat} {a0}:LeC k (eT.f a0):=by delta eT.f;exact it
instance cK.l0g:∀(k:Nat) a0 y1 y2 v23,LeC k (cK.l0 a0 y1 y2 v23)
 |0,_,_,_,_=>.n
 |k+1,a0,y1,y2,v23=>have:=cK.l0g k;.of k (cK.l0.eq_1 a0 y1 y2 v23) it
instance cK.fg{k:Nat} {a0}:LeC k (cK.f a0):=by delta cK.f;exact(.c it fun y1=>(.c it fun y2=>(.c it fun o=>(match o with|.inl r=>it|.inr ()=>it))))
instance eK.fg{k:Nat} {a0}:LeC k (eK.f a0):=by delta eK.f;exact it
instance dX.l0g:∀(k:Nat) a0 a1 a4 a5 a6 v9,LeC k (dX.l0 a0 a1 a4 a5 a6 v9)
 |0,_,_,_,_,_,_=>.n
 |k+1,a0,a1,a4,a5,a6,v9=>have:=dX.l0g k;.of k (dX.l0.eq_1 a0 a1 a4 a5 a6 v9) it
instance dX.fg{k:Nat} {a0} {a1} {a2} {a3} {a4} {a5} {a6}:LeC k (dX.f a0 a1 a2 a3 a4 a5 a6):=by delta dX.f gm.f;exact(.c it fun o=>(match o with|.inl r=>it|.inr ()=>(.s it)))
instance reticentlaw20_alive.fg{k:Nat}:LeC k (reticentlaw20_alive.f):=by delta reticentlaw20_alive.f;exact it
end Go.Proofs.YtmjcpkmongafnaaGreatDoor.TT
