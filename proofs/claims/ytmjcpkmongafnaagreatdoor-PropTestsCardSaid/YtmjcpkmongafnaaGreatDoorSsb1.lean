import Derived.Test.YtmjcpkmongafnaaGreatDoorGTT
set_option linter.unusedVariables false
set_option linter.unusedSimpArgs false
set_option linter.unusedSectionVars false
namespace Go.Proofs.YtmjcpkmongafnaaGreatDoor.Ss
open Go Go.Proofs.YtmjcpkmongafnaaGreatDoor.Ab Go.Proofs.YtmjcpkmongafnaaGreatDoor.TT
section
theorem wrap64{x:Int}(h0:0<=x)(h1:x<9223372036854775808):IntKind.i64.wrap x=x:=by
 have e:x%(18446744073709551616:Int)=x:=Int.emod_eq_of_lt h0 (by omega)
 show (if (true&&decide (x%18446744073709551616>=9223372036854775808))=true then x%18446744073709551616-18446744073709551616 else x%18446744073709551616)=x
 rw[e,if_neg]
 simp
 omega
theorem bo{α:Type} {xs:List α} {i:Nat}(h:i<xs.length):lAt xs (i:Int)=some xs[i]:=by
 simp[lAt,h]
end
section
theorem wrapU32{m:Nat}(h:m<4294967296):IntKind.u32.wrap (m:Int)=(m:Int):=by
 have e:(m:Int)%(4294967296:Int)=(m:Int):=Int.emod_eq_of_lt (by omega) (by omega)
 show (if (false&&decide ((m:Int)%4294967296>=2147483648))=true then (m:Int)%4294967296-4294967296 else (m:Int)%4294967296)=m
 rw[e,if_neg]
 simp
theorem iM{m:Nat}(h:m<4294967296):(BitVec.ofInt 32 (m:Int)).toNat=m:=by
 rw[BitVec.ofInt_natCast,BitVec.toNat_ofNat]
 exact Nat.mod_eq_of_lt h
theorem kf{a b:Nat}(ha:a<4294967296)(hb:b<4294967296):bAnd .u32 (a:Int) (b:Int)=((a&&&b:Nat):Int):=by
 unfold bAnd
 show IntKind.u32.wrap (((BitVec.ofInt 32 (a:Int)&&&BitVec.ofInt 32 (b:Int)).toNat:Nat):Int)=_
 rw[BitVec.toNat_and,iM ha,iM hb]
 exact wrapU32 (Nat.lt_of_le_of_lt Nat.and_le_left ha)
theorem bOr_nat{a b:Nat}(ha:a<4294967296)(hb:b<4294967296):bOr .u32 (a:Int) (b:Int)=((a|||b:Nat):Int):=by
 unfold bOr
 show IntKind.u32.wrap (((BitVec.ofInt 32 (a:Int)|||BitVec.ofInt 32 (b:Int)).toNat:Nat):Int)=_
 rw[BitVec.toNat_or,iM ha,iM hb]
 exact wrapU32 (Nat.or_lt_two_pow (n:=32) ha hb)
theorem kg{a k:Nat}(hk:k<=32):bShr .u32 (a:Int) (k:Int)=((a>>>k:Nat):Int):=by
 unfold bShr
 show (a:Int).fdiv (2^(min ((k:Int).toNat) 32))=_
 rw[Int.toNat_natCast,Nat.min_eq_left hk,Nat.shiftRight_eq_div_pow]
 rw[Int.fdiv_eq_ediv_of_nonneg _ (Int.le_of_lt (Int.pow_pos (by omega)))]
 norm_cast
end
section
open Classical
structure Is(l:az)(U:List Nat):Prop where
 up:l.Up=U.map (fun x:Nat=>(x:Int))
 lt:∀x∈U,x<4294967296
 len:U.length<=10
theorem Is.n{l:az} {U:List Nat}(h:Is l U):l.Up.length=U.length:=by rw[h.up];simp
theorem Is.at_{l:az} {U:List Nat}(h:Is l U){i:Nat}(hi:i<U.length):lAt l.Up (i:Int)=some ((U[i]:Nat):Int):=by
 rw[h.up,bo (by simpa using hi)]
 simp
theorem Is.u{l:az} {U:List Nat}(h:Is l U){i:Nat}(hi:i<U.length):U[i]<4294967296:=h.lt _ (List.getElem_mem hi)
theorem shr1(u b:Nat):((u>>>b)&&&1=1)↔u.testBit b=true:=by
 rw[Nat.testBit,Nat.and_comm]
 rw[Nat.one_and_eq_mod_two]
 simp
theorem lz{l:az} {U:List Nat}(h:Is l U){a b:Nat}(ha:a<U.length)(hb:b<=31):ef.f l a b=some (U[a].testBit b):=by
 unfold ef.f
 rw[h.at_ ha]
 show (if ¬(b:Int)<0 then some (decide (bAnd .u32 (bShr .u32 (U[a]:Nat) b) 1=1)) else none)=_
 rw[if_pos (by omega),kg (by omega)]
 have hs:U[a]>>>b<4294967296:=Nat.lt_of_le_of_lt (by rw[Nat.shiftRight_eq_div_pow];exact Nat.div_le_self ..) (h.u ha)
 rw[show (1:Int)=((1:Nat):Int) from rfl,kf hs (by omega)]
 congr 1
 rw[Bool.eq_iff_iff,decide_eq_true_iff,<-shr1]
 exact Int.natCast_inj
theorem half{u:Nat}(h:u<4294967296):IntKind.u32.wrap ((u:Int).tdiv 2)=((u>>>1:Nat):Int):=by
 have:(u:Int).tdiv 2=((u/2:Nat):Int):=by
  rw[Int.tdiv_eq_ediv_of_nonneg (by omega)];norm_cast
 rw[this,Nat.shiftRight_eq_div_pow]
 exact wrapU32 (by omega)
theorem lg(b:Nat)(hb:b<=31):∀(d k u:Nat),b=k+d->u<4294967296->aP.l0 (b:Int) (u:Int) (k:Int)=some ((u>>>d:Nat):Int)
 |0,k,u,e,hu=>by
  rw[aP.l0,if_neg (by omega)];simp
 |d+1,k,u,e,hu=>by
  rw[aP.l0,if_pos (by omega),half hu,wrap64 (by omega) (by omega)]
  have h2:u>>>1<4294967296:=Nat.lt_of_le_of_lt (by rw[Nat.shiftRight_eq_div_pow];exact Nat.div_le_self ..) hu
  have:=lg b hb d (k+1) (u>>>1) (by omega) h2
  rw[show ((k:Int)+1)=((k+1:Nat):Int) by omega,this,<-Nat.shiftRight_add,Nat.add_comm 1 d]
theorem eS{l:az} {U:List Nat}(h:Is l U){a b:Nat}(ha:a<U.length)(hb:b<=31):aP.f l a b=some (U[a].testBit b):=by
 unfold aP.f
 rw[h.at_ ha]
 show (aP.l0 (b:Int) ((U[a]:Nat):Int) 0>>=fun x6=>some (decide (x6.tmod 2=1)))=_
 have:=lg b hb b 0 U[a] (by omega) (h.u ha)
 rw[show ((0:Nat):Int)=0 from rfl] at this
 rw[this]
 show some (decide ((((U[a]>>>b:Nat):Int)).tmod 2=1))=_
 congr 1
 rw[Bool.eq_iff_iff,decide_eq_true_iff,<-shr1,Nat.and_comm,Nat.one_and_eq_mod_two,Int.tmod_eq_emod_of_nonneg (Int.natCast_nonneg _)]
 omega
section
variable{τ:Type} {yb:τ->Int->Int->Option (Bool×(τ×Nat))} {n:Nat} {t t':τ} {bad:Nat->Nat->Bool}
theorem pairs_l3(hn:n<=1000)(a:Nat)(h:∀b,b<n->yb t a b=some (if bad a b then (false,(t',1)) else (true,(t,0)))):
  ∀(d k:Nat),n=k+d->bv.l3 (yOf yb) (n:Int) (a:Int) (t,0) (k:Int)=some (if∃b,k<=b/\b<n/\bad a b=true then .inl (t',1) else .inr (t,0)):=by
 intro d
 induction d with
 |zero=>
  intro k e
  rw[bv.l3,if_neg (by omega),if_neg (by rintro⟨b,h1,h2,_⟩;omega)]
 |succ d ih=>
  intro k e
  rw[bv.l3,if_pos (by omega)]
  rw[show yOf yb (t,0) (a:Int) (k:Int)=yb t a k from rfl,h k (by omega)]
  by_cases hb:bad a k=true
  ·rw[if_pos hb,if_pos ⟨k,Nat.le_refl _,by omega,hb⟩];rfl
  ·rw[if_neg hb]
   show bv.l3 (yOf yb) (n:Int) (a:Int) (t,0) (IntKind.i64.wrap ((k:Int)+1))=_
   rw[wrap64 (by omega) (by omega),show ((k:Int)+1)=((k+1:Nat):Int) by omega,ih (k+1) (by omega)]
   congr 1
   by_cases h1:∃b,k+1<=b/\b<n/\bad a b=true
   ·rw[if_pos h1]
    obtain⟨b,q1,q2,q3⟩:=h1
    rw[if_pos ⟨b,by omega,q2,q3⟩]
   ·rw[if_neg h1,if_neg]
    rintro⟨b,q1,q2,q3⟩
    rcases Nat.lt_or_ge k b with q|q
    ·exact h1 ⟨b,q,q2,q3⟩
    ·exact hb (by rw[show k=b by omega];exact q3)
theorem pairs_l2(hn:n<=1000)(h:∀a b,a<n->b<n->yb t a b=some (if bad a b then (false,(t',1)) else (true,(t,0)))):
  ∀(d k:Nat),n=k+d->bv.l2 (yOf yb) (n:Int) (t,0) (k:Int)=some (if∃a b,k<=a/\a<n/\b<n/\bad a b=true then .inl (t',1) else .inr (t,0)):=by
 intro d
 induction d with
 |zero=>
  intro k e
  rw[bv.l2,if_neg (by omega),if_neg (by rintro⟨a,b,h1,h2,_⟩;omega)]
 |succ d ih=>
  intro k e
  rw[bv.l2,if_pos (by omega)]
  have:=pairs_l3 (t':=t') hn k (fun b hb=>h k b (by omega) hb) n 0 (by omega)
  rw[show ((0:Nat):Int)=0 from rfl] at this
  rw[this]
  by_cases hb:∃b,0<=b/\b<n/\bad k b=true
  ·rw[if_pos hb]
   obtain⟨b,_,q2,q3⟩:=hb
   rw[if_pos ⟨k,b,Nat.le_refl _,by omega,q2,q3⟩];rfl
  ·rw[if_neg hb]
   show bv.l2 (yOf yb) (n:Int) (t,0) (IntKind.i64.wrap ((k:Int)+1))=_
   rw[wrap64 (by omega) (by omega),show ((k:Int)+1)=((k+1:Nat):Int) by omega,ih (k+1) (by omega)]
   congr 1
   by_cases h1:∃a b,k+1<=a/\a<n/\b<n/\bad a b=true
   ·rw[if_pos h1]
    obtain⟨a,b,q0,q1,q2,q3⟩:=h1
    rw[if_pos ⟨a,b,by omega,q1,q2,q3⟩]
   ·rw[if_neg h1,if_neg]
    rintro⟨a,b,q0,q1,q2,q3⟩
    rcases Nat.lt_or_ge k a with q|q
    ·exact h1 ⟨a,b,q,q1,q2,q3⟩
    ·exact hb ⟨b,Nat.zero_le _,q2,by rw[show k=a by omega];exact q3⟩
theorem nV(hn:n<=1000)(h:∀a b,a<n->b<n->yb t a b=some (if bad a b then (false,(t',1)) else (true,(t,0)))):
  bv.f (yOf yb) (t,0) (n:Int)=some (if∃a b,a<n/\b<n/\bad a b=true then (t',1) else (t,0)):=by
 unfold bv.f
 have:=pairs_l2 (t':=t') hn h n 0 (by omega)
 rw[show ((0:Nat):Int)=0 from rfl] at this
 rw[this]
 by_cases h1:∃a b,a<n/\b<n/\bad a b=true
 ·rw[if_pos h1]
  obtain⟨a,b,q⟩:=h1
  rw[if_pos ⟨a,b,Nat.zero_le _,q⟩];rfl
 ·rw[if_neg h1,if_neg (fun⟨a,b,_,q⟩=>h1 ⟨a,b,q⟩)];rfl
end
theorem nW{a b:Nat}(ha:a<4294967296)(hb:b<4294967296):bAndNot .u32 (a:Int) (b:Int)=0↔∀c,a.testBit c=true->b.testBit c=true:=by
 unfold bAndNot
 show IntKind.u32.wrap (((BitVec.ofInt 32 (a:Int)&&& ~~~BitVec.ofInt 32 (b:Int)).toNat:Nat):Int)=0↔_
 rw[wrapU32 (BitVec.isLt _)]
 have hbit:∀c,((BitVec.ofInt 32 (a:Int)&&& ~~~BitVec.ofInt 32 (b:Int)).toNat).testBit c=(a.testBit c&& !b.testBit c):=by
  intro c
  rw[BitVec.testBit_toNat,BitVec.getLsbD_and,BitVec.getLsbD_not,<-BitVec.testBit_toNat,<-BitVec.testBit_toNat,iM ha,iM hb]
  by_cases hc:c<32
  ·simp[hc]
  ·have:a.testBit c=false:=Nat.testBit_lt_two_pow (Nat.lt_of_lt_of_le ha (Nat.pow_le_pow_right (n:=2) (by omega) (show 32<=c by omega)))
   simp[this]
 constructor
 ·intro h c hc
  have h0:(BitVec.ofInt 32 (a:Int)&&& ~~~BitVec.ofInt 32 (b:Int)).toNat=0:=by omega
  have:=hbit c
  rw[h0,hc] at this
  simpa using this
 ·intro h
  have h0:(BitVec.ofInt 32 (a:Int)&&& ~~~BitVec.ofInt 32 (b:Int)).toNat=0:=by
   apply Nat.eq_of_testBit_eq
   intro c
   rw[hbit c]
   cases hc:a.testBit c with
   |false=>simp
   |true=>simp[h c hc]
  rw[h0];rfl
def le(U:List Nat)(a b:Nat):Bool:=(U.getD a 0).testBit b
theorem eH{U:List Nat} {a b:Nat}(ha:a<U.length):le U a b=U[a].testBit b:=by simp[le,ha]
def Above(U:List Nat)(a b:Nat):Prop:=∀c,c<32->le U b c=true->le U a c=true
noncomputable def badO(U:List Nat)(a b:Nat):Bool:=(if a=b then !le U a b else le U a b&&le U b a)||(le U a b&& !decide (Above U a b))
theorem order_y0{l:az} {U:List Nat}(h:Is l U){a b:Nat}(ha:a<U.length)(hb:b<U.length):
  eh.y0 l () (a:Int) (b:Int)=some (if badO U a b then (false,((),1)) else (true,((),0))):=by
 have hl:=h.len
 have hz:(decide (bAndNot .u32 ((U[b]:Nat):Int) ((U[a]:Nat):Int)=0))=decide (Above U a b):=by
  unfold Above
  rw[decide_eq_decide,nW (h.u hb) (h.u ha)]
  constructor
  ·intro q c _ hc;rw[eH hb] at hc;rw[eH ha];exact q c hc
  ·intro q c hc
   have hc32:c<32:=by
    rcases Nat.lt_or_ge c 32 with q|q
    ·exact q
    ·rw[Nat.testBit_lt_two_pow (Nat.lt_of_lt_of_le (h.u hb) (Nat.pow_le_pow_right (n:=2) (by omega) q))] at hc;cases hc
   have:=q c hc32 (by rw[eH hb];exact hc)
   rwa [eH ha] at this
 unfold eh.y0
 rw[lz h ha (by omega),lz h hb (by omega),h.at_ hb,h.at_ ha,<-eH ha,<-eH hb]
 unfold badO
 by_cases hS:Above U a b<;>simp only[hS,decide_true,decide_false] at hz⊢
 all_goals
  by_cases e:a=b
  ·subst e
   simp only[if_true,Option.bind_eq_bind,Option.bind_some]
   cases h1:le U a a<;>simp[hz]
  ·have e':¬(a:Int)=(b:Int):=by omega
   simp only[if_neg e,if_neg e',Option.bind_eq_bind,Option.bind_some]
   cases h1:le U a b<;>cases h2:le U b a<;>simp[hz]
def fstOf{ρ:Type}(n:Nat)(bad:Nat->Option ρ):Option ρ:=(List.range n).findSome? bad
def out{ρ:Type}:Option ρ->ρ⊕Unit
 |some r=>.inl r
 |none=>.inr ()
theorem search{ρ:Type}(L:Int->Option (ρ⊕Unit))(n:Nat)(bad:Nat->Option ρ)(hend:L (n:Int)=some (.inr ()))
  (hstep:∀k,k<n->L (k:Int)=(match bad k with|some r=>some (.inl r)|none=>L ((k+1:Nat):Int))):L 0=some (out (fstOf n bad)):=by
 have key:∀d k,n=k+d->L (k:Int)=some (out ((List.range' k d).findSome? bad)):=by
  intro d
  induction d with
  |zero=>intro k e;rw[show k=n by omega,hend];rfl
  |succ d ih=>
   intro k e
   rw[hstep k (by omega),List.range'_succ,List.findSome?_cons]
   cases hb:bad k with
   |some r=>rfl
   |none=>exact ih (k+1) (by omega)
 have:=key n 0 (by omega)
 rw[<-List.range_eq_range'] at this
 exact this
theorem kh{ρ:Type} {n:Nat} {bad:Nat->Option ρ}:fstOf n bad=none↔∀k,k<n->bad k=none:=by
 unfold fstOf
 rw[List.findSome?_eq_none_iff]
 simp
theorem fst_congr{ρ:Type} {n:Nat} {p q:Nat->Option ρ}(h:∀k,k<n->p k=q k):fstOf n p=fstOf n q:=by
 unfold fstOf
 have:∀l:List Nat,(∀k∈l,k<n)->l.findSome? p=l.findSome? q:=by
  intro l
  induction l with
  |nil=>intro _;rfl
  |cons a l ih=>
   intro hl
   rw[List.findSome?_cons,List.findSome?_cons,h a (hl a (List.mem_cons_self ..)),ih (fun k hk=>hl k (List.mem_cons_of_mem _ hk))]
 exact this _ (fun k hk=>by simpa using hk)
theorem fst_const{ρ:Type} {n:Nat} {bad:Nat->Option ρ} {r:ρ}(h:∀k s,bad k=some s->s=r):fstOf n bad=if∃k,k<n/\bad k≠none then some r else none:=by
 cases hf:fstOf n bad with
 |none=>rw[if_neg];rintro⟨k,hk,hb⟩;exact hb (kh.1 hf k hk)
 |some s=>
  have hs:s=r:=by
   unfold fstOf at hf
   obtain⟨k,_,hk⟩:=List.exists_of_findSome?_eq_some hf
   exact h k s hk
  rw[if_pos,hs]
  apply Classical.byContradiction
  intro hn
  have:fstOf n bad=none:=kh.2 (fun k hk=>Classical.byContradiction fun hb=>hn ⟨k,hk,hb⟩)
  rw[this] at hf;cases hf
theorem step1{k n:Nat}(h:n<=1000)(hk:k<n):IntKind.i64.wrap ((k:Int)+1)=((k+1:Nat):Int):=by
 rw[wrap64 (by omega) (by omega)];omega
theorem order_eq{l:az} {U:List Nat}(h:Is l U):eh.f l=some (decide (¬∃a b,a<U.length/\b<U.length/\badO U a b=true)):=by
 unfold eh.f f9.f
 have hl:=h.len
 have:=nV (t:=()) (t':=()) (n:=U.length) (yb:=eh.y0 l) (bad:=badO U) (by omega) (fun a b ha hb=>order_y0 h ha hb)
 rw[h.n]
 simp only[Option.bind_eq_bind,Option.bind_some]
 rw[this]
 by_cases hb:∃a b,a<U.length/\b<U.length/\badO U a b=true
 ·rw[if_pos hb,decide_eq_false (fun k=>k hb)];rfl
 ·rw[if_neg hb,decide_eq_true hb];rfl
def bad12(U:List Nat)(a b c:Nat):Bool:=le U a b&&le U b c&& !le U a c
def bad11(U:List Nat)(a b:Nat):Bool:= !decide (a=b)&&le U a b&&le U b a
theorem order_l12{l:az} {U:List Nat}(h:Is l U){a b:Nat}(ha:a<U.length)(hb:b<U.length):
  bm.l12 l (a:Int) (b:Int) 0=some (out (fstOf U.length fun c=>if bad12 U a b c then some false else none)):=by
 have hl:=h.len
 refine search (fun k=>bm.l12 l (a:Int) (b:Int) k) U.length _ ?_ ?_
 ·show bm.l12 l (a:Int) (b:Int) (U.length:Int)=_
  rw[bm.l12,h.n,if_neg (by omega)]
 ·intro c hc
  show bm.l12 l (a:Int) (b:Int) (c:Int)=_
  rw[bm.l12,h.n,if_pos (by omega),eS h ha (by omega),eS h hb (by omega),eS h ha (by omega),<-eH ha,<-eH ha,<-eH hb,step1 (by omega) hc]
  unfold bad12
  cases h1:le U a b<;>cases h2:le U b c<;>cases h3:le U a c<;>simp
theorem gO{ρ:Type} {n:Nat} {f:Nat->Bool} {r:ρ}:(fstOf n fun k=>if f k then some r else none)=if decide (∃k,k<n/\f k=true)=true then some r else none:=by
 rw[fst_const (r:=r) (by intro k s e;split at e<;>simp_all)]
 have e:(∃k,k<n/\(if f k=true then some r else none:Option ρ)≠none)↔∃k,k<n/\f k=true:=by
  constructor
  ·rintro⟨k,hk,hb⟩;exact⟨k,hk,by split at hb<;>simp_all⟩
  ·rintro⟨k,hk,hb⟩;exact⟨k,hk,by rw[if_pos hb];simp⟩
 by_cases q:∃k,k<n/\f k=true
 ·rw[if_pos (e.2 q),decide_eq_true q];rfl
 ·rw[if_neg (fun k=>q (e.1 k)),decide_eq_false q];rfl
noncomputable def bad2(U:List Nat)(a b:Nat):Bool:=bad11 U a b||decide (∃c,c<U.length/\bad12 U a b c=true)
noncomputable def bad1(U:List Nat)(a:Nat):Bool:= !le U a a||decide (∃b,b<U.length/\bad2 U a b=true)
theorem order_l11{l:az} {U:List Nat}(h:Is l U){a:Nat}(ha:a<U.length):
  bm.l11 l (a:Int) 0=some (out (fstOf U.length fun b=>if bad2 U a b then some false else none)):=by
 have hl:=h.len
 refine search (fun k=>bm.l11 l (a:Int) k) U.length _ ?_ ?_
 ·show bm.l11 l (a:Int) (U.length:Int)=_
  rw[bm.l11,h.n,if_neg (by omega)]
 ·intro b hb
  show bm.l11 l (a:Int) (b:Int)=_
  rw[bm.l11,h.n,if_pos (by omega),eS h ha (by omega),eS h hb (by omega),<-eH ha,<-eH hb,order_l12 h ha hb,step1 (by omega) hb,gO]
  have e2:((a:Int)=(b:Int))↔a=b:=Int.natCast_inj
  unfold bad2 bad11
  simp only[e2]
  generalize decide (∃c,c<U.length/\bad12 U a b c=true)=P
  by_cases hab:a=b<;>cases P<;>cases h1:le U a b<;>cases h2:le U b a<;>simp[hab,out]
theorem order_ref{l:az} {U:List Nat}(h:Is l U):
  bm.f l=some (decide (¬∃a,a<U.length/\bad1 U a=true)):=by
 have hl:=h.len
 unfold bm.f
 have key:bm.l8 l 0=some (out (fstOf U.length fun a=>if bad1 U a then some false else none)):=by
  refine search (fun k=>bm.l8 l k) U.length _ ?_ ?_
  ·show bm.l8 l (U.length:Int)=_
   rw[bm.l8,h.n,if_neg (by omega)]
  ·intro a ha
   show bm.l8 l (a:Int)=_
   rw[bm.l8,h.n,if_pos (by omega),eS h ha (by omega),<-eH ha,order_l11 h ha,step1 (by omega) ha,gO]
   unfold bad1
   generalize decide (∃b,b<U.length/\bad2 U a b=true)=P
   cases P<;>cases h1:le U a a<;>simp[out]
 rw[key,gO]
 rw[decide_not]
 generalize decide (∃a,a<U.length/\bad1 U a=true)=P
 cases P<;>simp[out]
structure Ord(U:List Nat):Prop where
 refl:∀a,a<U.length->le U a a=true
 anti:∀a b,a<U.length->b<U.length->le U a b=true->le U b a=true->a=b
 trans:∀a b c,a<U.length->b<U.length->c<U.length->le U a b=true->le U b c=true->le U a c=true
theorem ord_ref{U:List Nat}:(¬∃a,a<U.length/\bad1 U a=true)↔Ord U:=by
 have e:(∃a,a<U.length/\bad1 U a=true)↔∃a,a<U.length/\(le U a a=false\/∃b,b<U.length/\(bad11 U a b=true\/∃c,c<U.length/\bad12 U a b c=true)):=by
  simp only[bad1,bad2,Bool.or_eq_true,decide_eq_true_iff,Bool.not_eq_true']
 rw[e]
 constructor
 ·intro q
  refine⟨fun a ha=>?_,fun a b ha hb h1 h2=>?_,fun a b c ha hb hc h1 h2=>?_⟩
  ·cases e:le U a a with
   |true=>rfl
   |false=>exact absurd ⟨a,ha,.inl e⟩ q
  ·apply Classical.byContradiction
   intro e
   exact q ⟨a,ha,.inr ⟨b,hb,.inl (by simp[bad11,e,h1,h2])⟩⟩
  ·cases e:le U a c with
   |true=>rfl
   |false=>exact absurd ⟨a,ha,.inr ⟨b,hb,.inr ⟨c,hc,by simp[bad12,e,h1,h2]⟩⟩⟩ q
 ·rintro q ⟨a,ha,h1|⟨b,hb,h1|⟨c,hc,h1⟩⟩⟩
  ·rw[q.refl a ha] at h1;cases h1
  ·simp[bad11] at h1
   exact h1.1.1 (q.anti a b ha hb h1.1.2 h1.2)
  ·simp[bad12] at h1
   rw[q.trans a b c ha hb hc h1.1.1 h1.1.2] at h1;simp at h1
theorem l7{U:List Nat}(hU:∀x∈U,x<2^U.length){a c:Nat}(h:le U a c=true):c<U.length:=by
 rcases Nat.lt_or_ge c U.length with q|q
 ·exact q
 ·unfold le at h
  have hx:U.getD a 0<2^U.length:=by
   rcases Nat.lt_or_ge a U.length with q2|q2
   ·have:=hU _ (List.getElem_mem q2)
    simpa [List.getD,q2] using this
   ·have:U.getD a 0=0:=by simp[List.getD,q2]
    rw[this];exact Nat.pow_pos (by omega)
  rw[Nat.testBit_lt_two_pow (Nat.lt_of_lt_of_le hx (Nat.pow_le_pow_right (n:=2) (by omega) q))] at h
  cases h
theorem ord_lat{U:List Nat}(hn:U.length<=10)(hU:∀x∈U,x<2^U.length):(¬∃a b,a<U.length/\b<U.length/\badO U a b=true)↔Ord U:=by
 constructor
 ·intro q
  refine⟨fun a ha=>?_,fun a b ha hb h1 h2=>?_,fun a b c ha hb hc h1 h2=>?_⟩
  ·cases e:le U a a with
   |true=>rfl
   |false=>exact absurd ⟨a,a,ha,ha,by simp[badO,e]⟩ q
  ·apply Classical.byContradiction
   intro e
   exact q ⟨a,b,ha,hb,by simp[badO,e,h1,h2]⟩
  ·cases e:le U a c with
   |true=>rfl
   |false=>
    refine absurd ⟨a,b,ha,hb,?_⟩ q
    have:¬Above U a b:=fun k=>by rw[k c (by omega) h2] at e;cases e
    simp[badO,h1,this]
 ·rintro q ⟨a,b,ha,hb,h1⟩
  unfold badO at h1
  rw[Bool.or_eq_true] at h1
  rcases h1 with h1|h1
  ·by_cases e:a=b
   ·subst e;rw[if_pos rfl,q.refl a ha] at h1;cases h1
   ·rw[if_neg e,Bool.and_eq_true] at h1;exact e (q.anti a b ha hb h1.1 h1.2)
  ·rw[Bool.and_eq_true] at h1
   have:Above U a b:=fun c _ hc=>q.trans a b c ha hb (l7 hU hc) h1.1 hc
   simp[this] at h1
theorem oZ{l:az} {U:List Nat}(h:Is l U)(hU:∀x∈U,x<2^U.length):eh.f l=some (decide (Ord U)):=by
 rw[order_eq h]
 exact(by simp only[ord_lat h.len hU])
theorem pb{l:az} {U:List Nat}(h:Is l U):bm.f l=some (decide (Ord U)):=by
 rw[order_ref h]
 exact(by simp only[ord_ref])
end
section
open Classical
def far(s:Str)(k:Nat):Bool:=decide (sAt s (k:Int)<97)||decide (sAt s (k:Int)>122)
theorem name_l0{s:Str}(hs:s.length<=1000):cU.l0 s 0=some (out (fstOf s.length fun k=>if far s k then some false else none)):=by
 refine search (fun k=>cU.l0 s k) s.length _ ?_ ?_
 ·show cU.l0 s (s.length:Int)=_
  rw[cU.l0,if_neg (by omega)]
 ·intro k hk
  show cU.l0 s (k:Int)=_
  rw[cU.l0,if_pos (by omega),step1 hs hk]
  have hb:(0:Int)<=(k:Int)/\(k:Int)<(s.length:Int):=⟨by omega,by omega⟩
  simp only[if_pos hb]
  unfold far
  by_cases h1:sAt s (k:Int)<97<;>by_cases h2:sAt s (k:Int)>122<;>simp[h1,h2]
theorem pd{s:Str}(hs:s.length<=1000):cM.l0 s 0=some (out (fstOf s.length fun k=>if far s k then some false else none)):=by
 refine search (fun k=>cM.l0 s k) s.length _ ?_ ?_
 ·show cM.l0 s (s.length:Int)=_
  rw[cM.l0,if_neg (by omega)]
 ·intro k hk
  show cM.l0 s (k:Int)=_
  rw[cM.l0,if_pos (by omega),step1 hs hk]
  have hb:(0:Int)<=(k:Int)/\(k:Int)<(s.length:Int):=⟨by omega,by omega⟩
  simp only[if_pos hb]
  unfold far
  by_cases h1:sAt s (k:Int)<97<;>by_cases h2:sAt s (k:Int)>122<;>simp[h1,h2]
noncomputable def nameOk(s:Str):Bool:= !decide (∃k,k<s.length/\far s k=true)&&(!decide (s=[])&&decide (s.length<=12))
theorem name_eq{s:Str}(hs:s.length<=1000):cU.f s=some (nameOk s):=by
 unfold cU.f nameOk
 rw[name_l0 hs,gO]
 generalize decide (∃k,k<s.length/\far s k=true)=P
 by_cases h1:s=[]
 ·subst h1;cases P<;>simp[out]
 ·have:0<s.length:=List.length_pos_iff.2 h1
  cases P<;>by_cases h2:s.length<=12<;>simp[out,h1,h2,this]<;>omega
theorem pe{s:Str}(hs:s.length<=1000):cM.f s=some (nameOk s):=by
 unfold cM.f nameOk
 rw[pd hs,gO]
 generalize decide (∃k,k<s.length/\far s k=true)=P
 by_cases h1:s=[]
 ·subst h1;cases P<;>simp[out]
 ·have:0<s.length:=List.length_pos_iff.2 h1
  cases P<;>by_cases h2:s.length<=12<;>simp[out,h1,h2,this]<;>omega
theorem oF{xs:List Str} {a:Str}(hx:xs.length<=1000):cG.f xs a=some (decide (a∈xs)):=by
 unfold cG.f bD.f
 have key:bD.l0 xs a 0=some (out (fstOf xs.length fun k=>if xs[k]?=some a then some (k:Int) else none)):=by
  refine search (fun k=>bD.l0 xs a k) xs.length _ ?_ ?_
  ·show bD.l0 xs a (xs.length:Int)=_
   rw[bD.l0,if_neg (by omega)]
  ·intro k hk
   show bD.l0 xs a (k:Int)=_
   rw[bD.l0,if_pos (by omega),bo hk,step1 hx hk,List.getElem?_eq_getElem hk]
   by_cases e:a=xs[k]
   ·simp[<-e]
   ·have:¬xs[k]=a:=fun q=>e q.symm
    simp[e,this]
 rw[key]
 cases hf:fstOf xs.length (fun k=>if xs[k]?=some a then some (k:Int) else none) with
 |none=>
  have hno:¬a∈xs:=by
   intro hm
   obtain⟨k,hk,e⟩:=List.getElem_of_mem hm
   have:=kh.1 hf k hk
   rw[if_pos (by rw[List.getElem?_eq_getElem hk,e])] at this;cases this
  simp[out,hno]
 |some r=>
  unfold fstOf at hf
  obtain⟨k,hk0,hk⟩:=List.exists_of_findSome?_eq_some hf
  have hm:a∈xs:=by
   by_cases e:xs[k]?=some a
   ·exact List.mem_of_getElem? e
   ·rw[if_neg e] at hk;cases hk
  have hr:r>=0:=by
   by_cases e:xs[k]?=some a
   ·rw[if_pos e] at hk;cases hk;omega
   ·rw[if_neg e] at hk;cases hk
  simp[out,hm,hr]
theorem high_l0(n:Nat)(hn:n<=31):∀(d k u:Nat),n=k+d->u<4294967296->dH.l0 (n:Int) (u:Int) (k:Int)=some ((u>>>d:Nat):Int)
 |0,k,u,e,hu=>by
  rw[dH.l0,if_neg (by omega)];simp
 |d+1,k,u,e,hu=>by
  rw[dH.l0,if_pos (by omega),half hu,wrap64 (by omega) (by omega)]
  have h2:u>>>1<4294967296:=Nat.lt_of_le_of_lt (by rw[Nat.shiftRight_eq_div_pow];exact Nat.div_le_self ..) hu
  have:=high_l0 n hn d (k+1) (u>>>1) (by omega) h2
  rw[show ((k:Int)+1)=((k+1:Nat):Int) by omega,this,<-Nat.shiftRight_add,Nat.add_comm 1 d]
theorem high_eq{u n:Nat}(hn:n<=31)(hu:u<4294967296):dH.f (u:Int) (n:Int)=some (decide (2^n<=u)):=by
 unfold dH.f
 have:=high_l0 n hn n 0 u (by omega) hu
 rw[show ((0:Nat):Int)=0 from rfl] at this
 rw[this]
 show some (decide (((u>>>n:Nat):Int)>0))=_
 congr 1
 rw[decide_eq_decide,Nat.shiftRight_eq_div_pow]
 have:=Nat.div_pos_iff (a:=u) (b:=2^n)
 have hp:0<2^n:=Nat.pow_pos (by omega)
 constructor
 ·intro q;exact(this.1 (by omega)).2
 ·intro q;have:=this.2 ⟨hp,q⟩;omega
theorem high_shr{u n:Nat}(hn:n<=31):decide (bShr .u32 (u:Int) (n:Int)=0)= !decide (2^n<=u):=by
 rw[kg (by omega),<-decide_not,decide_eq_decide,Nat.shiftRight_eq_div_pow]
 rw[show (((u/2^n:Nat):Int)=0↔u/2^n=0) by omega]
 rw[Nat.div_eq_zero_iff]
 have hp:0<2^n:=Nat.pow_pos (by omega)
 omega
structure Nm(l:az)(U:List Nat):Prop extends Is l U where
 nl:l.Names.length<=10
 sl:∀s∈l.Names,s.length<=1000
noncomputable def badM(N:List Str)(U:List Nat)(i:Nat):Bool:= !nameOk (N.getD i [])||(decide (N.getD i []∈N.take i)||decide (2^U.length<=U.getD i 0))
theorem lCut0{α:Type} {xs:List α} {i:Nat}:lCut xs 0 (i:Int)=xs.take i:=by simp[lCut]
theorem may_l0{l:az} {U:List Nat}(h:Nm l U)(he:l.Names.length=U.length):
  dx.l0 l 0=some (out (fstOf U.length fun i=>if badM l.Names U i then some false else none)):=by
 have hl:=h.len
 refine search (fun k=>dx.l0 l k) U.length _ ?_ ?_
 ·show dx.l0 l (U.length:Int)=_
  rw[dx.l0,if_neg (by omega)]
 ·intro k hk
  show dx.l0 l (k:Int)=_
  have hkn:k<l.Names.length:=by omega
  have h15:l.Names[k].length<=1000:=Nat.le_trans (h.sl _ (List.getElem_mem hkn)) (by omega)
  rw[dx.l0,if_pos (by omega),bo hkn]
  simp only[Option.bind_eq_bind,Option.bind_some]
  rw[name_eq h15]
  simp only[Option.bind_eq_bind,Option.bind_some]
  have hb:(0:Int)<=(k:Int)/\(k:Int)<=(l.Names.length:Int):=⟨by omega,by omega⟩
  simp only[if_pos hb]
  rw[lCut0,oF (by simp;omega)]
  simp only[Option.bind_eq_bind,Option.bind_some]
  rw[h.at_ hk,h.n]
  simp only[Option.bind_eq_bind,Option.bind_some]
  have hb':¬(U.length:Int)<0:=by omega
  simp only[if_pos hb']
  rw[high_shr (by omega),step1 (by omega) hk]
  unfold badM
  have e1:l.Names.getD k []=l.Names[k]:=by simp[hkn]
  have e2:U.getD k 0=U[k]:=by simp[hk]
  rw[e1,e2]
  generalize decide (l.Names[k]∈l.Names.take k)=P
  generalize decide (2^U.length<=U[k])=Q
  cases nameOk l.Names[k]<;>cases P<;>cases Q<;>simp
theorem refMay_l3{N:List Str} {i:Nat}(a:Str)(hN:N.length<=1000)(l:az)(e:l.Names=N):
  bQ.l3 l (i:Int) a 0=some (out (if decide (a∈N.take i)=true then some false else none)):=by
 have hi:(N.take i).length<=1000:=by simp;omega
 have key:bQ.l3 l (i:Int) a 0=some (out (fstOf (N.take i).length fun k=>if decide ((N.take i)[k]?=some a) then some false else none)):=by
  refine search (fun k=>bQ.l3 l (i:Int) a k) (N.take i).length _ ?_ ?_
  ·show bQ.l3 l (i:Int) a ((N.take i).length:Int)=_
   rw[bQ.l3,e,lCut0,if_neg (by omega)]
  ·intro k hk
   show bQ.l3 l (i:Int) a (k:Int)=_
   rw[bQ.l3,e,lCut0,if_pos (by omega),bo hk,step1 hi hk,List.getElem?_eq_getElem hk]
   generalize (N.take i)[k]=b
   by_cases e:b=a<;>simp[e]
 rw[key,gO]
 have e:(∃k,k<(N.take i).length/\decide ((N.take i)[k]?=some a)=true)↔a∈N.take i:=by
  constructor
  ·rintro⟨k,hk,q⟩;exact List.mem_of_getElem? (of_decide_eq_true q)
  ·intro hm
   obtain⟨k,hk,q⟩:=List.getElem_of_mem hm
   exact⟨k,hk,decide_eq_true (by rw[List.getElem?_eq_getElem hk,q])⟩
 simp only[e]
theorem refMay_l2{l:az} {U:List Nat}(h:Nm l U)(he:l.Names.length=U.length):
  bQ.l2 l 0=some (out (fstOf U.length fun i=>if badM l.Names U i then some false else none)):=by
 have hl:=h.len
 refine search (fun k=>bQ.l2 l k) U.length _ ?_ ?_
 ·show bQ.l2 l (U.length:Int)=_
  rw[bQ.l2,if_neg (by omega)]
 ·intro k hk
  show bQ.l2 l (k:Int)=_
  have hkn:k<l.Names.length:=by omega
  have h15:l.Names[k].length<=1000:=Nat.le_trans (h.sl _ (List.getElem_mem hkn)) (by omega)
  rw[bQ.l2,if_pos (by omega),bo hkn]
  simp only[Option.bind_eq_bind,Option.bind_some]
  rw[pe h15,h.at_ hk,h.n]
  simp only[Option.bind_eq_bind,Option.bind_some]
  have hb:(0:Int)<=(k:Int)/\(k:Int)<=(l.Names.length:Int):=⟨by omega,by omega⟩
  simp only[if_pos hb]
  rw[high_eq (by omega) (h.u hk),refMay_l3 (N:=l.Names) _ (by omega) l rfl,step1 (by omega) hk]
  unfold badM
  have e1:l.Names.getD k []=l.Names[k]:=by simp[hkn]
  have e2:U.getD k 0=U[k]:=by simp[hk]
  rw[e1,e2]
  generalize decide (l.Names[k]∈l.Names.take k)=P
  generalize decide (2^U.length<=U[k])=Q
  cases nameOk l.Names[k]<;>cases P<;>cases Q<;>simp[out]
structure May(l:az)(U:List Nat):Prop where
 pos:1<=U.length
 le8:U.length<=8
 nm:l.Names.length=U.length
 ok:¬∃i,i<U.length/\badM l.Names U i=true
theorem may_prog{l:az} {U:List Nat}(h:Nm l U):dx.f l=some (decide (May l U)):=by
 unfold dx.f
 rw[h.n]
 by_cases h1:(U.length:Int)<1
 ·have:¬May l U:=fun q=>by have:=q.pos;omega
  simp[h1,this]
 ·by_cases h2:(U.length:Int)>8
  ·have:¬May l U:=fun q=>by have:=q.le8;omega
   simp[h1,h2,this]
  ·by_cases he:l.Names.length=U.length
   ·have e:(l.Names.length:Int)=(U.length:Int):=by omega
    rw[may_l0 h he,gO]
    have hm:decide (May l U)= !decide (∃i,i<U.length/\badM l.Names U i=true):=by
     rw[<-decide_not,decide_eq_decide]
     exact⟨fun q=>q.ok,fun q=>⟨by omega,by omega,he,q⟩⟩
    rw[hm]
    generalize decide (∃i,i<U.length/\badM l.Names U i=true)=P
    cases P<;>simp[h1,h2,e,out]
   ·have:¬May l U:=fun q=>he q.nm
    have e:¬(l.Names.length:Int)=(U.length:Int):=by omega
    simp[h1,h2,this,e]
theorem may_refd{l:az} {U:List Nat}(h:Nm l U):bQ.f l=some (decide (May l U)):=by
 unfold bQ.f
 rw[h.n]
 by_cases h1:(U.length:Int)<1
 ·have:¬May l U:=fun q=>by have:=q.pos;omega
  simp[h1,this]
 ·by_cases h2:(U.length:Int)>8
  ·have:¬May l U:=fun q=>by have:=q.le8;omega
   simp[h1,h2,this]
  ·by_cases he:l.Names.length=U.length
   ·have e:(l.Names.length:Int)=(U.length:Int):=by omega
    rw[refMay_l2 h he,gO]
    have hm:decide (May l U)= !decide (∃i,i<U.length/\badM l.Names U i=true):=by
     rw[<-decide_not,decide_eq_decide]
     exact⟨fun q=>q.ok,fun q=>⟨by omega,by omega,he,q⟩⟩
    rw[hm]
    generalize decide (∃i,i<U.length/\badM l.Names U i=true)=P
    cases P<;>simp[h1,h2,e,out]
   ·have:¬May l U:=fun q=>he q.nm
    have e:¬(l.Names.length:Int)=(U.length:Int):=by omega
    simp[h1,h2,this,e]
theorem May.bits{l:az} {U:List Nat}(q:May l U):∀x∈U,x<2^U.length:=by
 intro x hx
 obtain⟨i,hi,e⟩:=List.getElem_of_mem hx
 apply Classical.byContradiction
 intro hn
 refine q.ok ⟨i,hi,?_⟩
 have e2:U.getD i 0=x:=by simp[hi,e]
 unfold badM
 rw[e2]
 simp[show 2^U.length<=x by omega]
noncomputable def fi(n:Nat)(p:Nat->Bool):Int:=match fstOf n (fun k=>if p k then some (k:Int) else none) with|some r=>r|none=> -1
theorem jV{n:Nat} {p:Nat->Bool}:(match (out (fstOf n (fun k=>if p k then some (k:Int) else none)):Int⊕Unit) with|.inl r=>some r|.inr ()=>some (-1:Int))=some (fi n p):=by
 unfold fi
 cases fstOf n (fun k=>if p k then some (k:Int) else none)<;>rfl
theorem fi_congr{n:Nat} {p q:Nat->Bool}(h:∀k,k<n->p k=q k):fi n p=fi n q:=by
 unfold fi
 rw[fst_congr (fun k hk=>by rw[h k hk])]
theorem fi_neg{n:Nat} {p:Nat->Bool}:fi n p<0↔∀k,k<n->p k=false:=by
 unfold fi
 cases hf:fstOf n (fun k=>if p k then some (k:Int) else none) with
 |none=>
  refine⟨fun _ k hk=>?_,fun _=>by simp⟩
  have:=kh.1 hf k hk
  cases hp:p k with
  |false=>rfl
  |true=>rw[hp] at this;simp at this
 |some r=>
  unfold fstOf at hf
  obtain⟨k,hk0,hk⟩:=List.exists_of_findSome?_eq_some hf
  cases hp:p k with
  |false=>rw[hp] at hk;simp at hk
  |true=>
   rw[hp] at hk
   simp at hk
   refine⟨fun q=>by simp at q;omega,fun q=>?_⟩
   rw[q k (by simpa using hk0)] at hp;cases hp
theorem jW{n:Nat} {p:Nat->Bool}(h:0<=fi n p):∃k,k<n/\p k=true/\fi n p=(k:Int):=by
 unfold fi at h⊢
 cases hf:fstOf n (fun k=>if p k then some (k:Int) else none) with
 |none=>rw[hf] at h;simp at h
 |some r=>
  unfold fstOf at hf
  obtain⟨k,hk0,hk⟩:=List.exists_of_findSome?_eq_some hf
  cases hp:p k with
  |false=>rw[hp] at hk;simp at hk
  |true=>rw[hp] at hk;simp at hk;exact⟨k,by simpa using hk0,hp,by simp[<-hk]⟩
theorem fi_one{n k:Nat} {p:Nat->Bool}(hk:k<n)(hp:p k=true)(h1:∀j,j<n->p j=true->j=k):fi n p=(k:Int):=by
 have:0<=fi n p:=by
  rcases(by omega:fi n p<0\/0<=fi n p) with q|q
  ·rw[fi_neg.1 q k hk] at hp;cases hp
  ·exact q
 obtain⟨j,hj,hpj,e⟩:=jW this
 rw[e,h1 j hj hpj]
noncomputable def lub(U:List Nat)(a b k:Nat):Bool:=decide (∀c,c<U.length->(le U k c=true↔le U a c=true/\le U b c=true))
noncomputable def glb(U:List Nat)(a b k:Nat):Bool:=decide (∀c,c<U.length->(le U c k=true↔le U c a=true/\le U c b=true))
noncomputable def jn(U:List Nat)(a b:Nat):Int:=fi U.length (lub U a b)
noncomputable def mt(U:List Nat)(a b:Nat):Int:=fi U.length (glb U a b)
theorem idxF_eq{xs:List Int} {p:Int->Bool} {g:Int->Option Bool}(hg:∀x,g x=some (p x))(hx:xs.length<=1000):
  aS.f xs g=some (fi xs.length (fun k=>p (xs.getD k 0))):=by
 unfold aS.f
 have key:aS.l0 xs g 0=some (out (fstOf xs.length fun k=>if p (xs.getD k 0) then some (k:Int) else none)):=by
  refine search (fun k=>aS.l0 xs g k) xs.length _ ?_ ?_
  ·show aS.l0 xs g (xs.length:Int)=_
   rw[aS.l0,if_neg (by omega)]
  ·intro k hk
   show aS.l0 xs g (k:Int)=_
   have e:xs.getD k 0=xs[k]:=by simp[hk]
   rw[aS.l0,if_pos (by omega),bo hk,step1 hx hk,e]
   simp only[Option.bind_eq_bind,Option.bind_some]
   rw[hg]
   cases p xs[k]<;>simp
 rw[key]
 exact jV
theorem bits_eq{U:List Nat}(hU:∀x∈U,x<2^U.length){a b k:Nat}(ha:a<U.length)(hb:b<U.length)(hk:k<U.length):
  (U[k]=U[a]&&&U[b])↔(∀c,c<U.length->(le U k c=true↔le U a c=true/\le U b c=true)):=by
 constructor
 ·intro e c _
  rw[eH hk,eH ha,eH hb,e,Nat.testBit_and,Bool.and_eq_true]
 ·intro h
  apply Nat.eq_of_testBit_eq
  intro c
  rw[Nat.testBit_and,<-eH hk,<-eH ha,<-eH hb]
  rcases Nat.lt_or_ge c U.length with q|q
  ·rw[Bool.eq_iff_iff,Bool.and_eq_true];exact h c q
  ·have f:∀a,le U a c=false:=by
    intro a
    cases e:le U a c with
    |false=>rfl
    |true=>have:=l7 hU e;omega
   rw[f,f,f];rfl
theorem join_eq{l:az} {U:List Nat}(h:Is l U)(hU:∀x∈U,x<2^U.length){a b:Nat}(ha:a<U.length)(hb:b<U.length):fo.f l (a:Int) (b:Int)=some (jn U a b):=by
 have hl:=h.len
 unfold fo.f
 rw[h.at_ ha,h.at_ hb]
 simp only[Option.bind_eq_bind,Option.bind_some]
 rw[kf (h.u ha) (h.u hb),idxF_eq (g:=fun z0=>gw.f z0 ((U[a]&&&U[b]:Nat):Int)) (p:=fun x=>decide (x=((U[a]&&&U[b]:Nat):Int))) (fun x=>rfl) (by rw[h.n];omega)]
 simp only[Option.bind_some]
 rw[h.n]
 congr 1
 refine fi_congr fun k hk=>?_
 unfold lub
 rw[decide_eq_decide,<-bits_eq hU ha hb hk]
 have:l.Up.getD k 0=((U[k]:Nat):Int):=by rw[h.up];simp[hk]
 rw[this]
 exact Int.natCast_inj
theorem fold{L:Int->Bool->Option Bool} {n:Nat} {viol:Nat->Bool}(hend:∀b,L (n:Int) b=some b)(hstep:∀k b,k<n->L (k:Int) b=L ((k+1:Nat):Int) (if viol k then false else b))(b:Bool):L 0 b=some (b&& !decide (∃c,c<n/\viol c=true)):=by
 have key:∀d k b,n=k+d->L (k:Int) b=some (b&& !decide (∃c,k<=c/\c<n/\viol c=true)):=by
  intro d
  induction d with
  |zero=>
   intro k b e
   rw[show k=n by omega,hend]
   have:¬∃c,n<=c/\c<n/\viol c=true:=by rintro⟨c,h1,h2,_⟩;omega
   simp only[this,decide_false];simp
  |succ d ih=>
   intro k b e
   rw[hstep k b (by omega),ih (k+1) _ (by omega)]
   have:(∃c,k<=c/\c<n/\viol c=true)↔(viol k=true\/∃c,k+1<=c/\c<n/\viol c=true):=by
    constructor
    ·rintro⟨c,h1,h2,h3⟩
     rcases Nat.lt_or_ge k c with q|q
     ·exact .inr ⟨c,q,h2,h3⟩
     ·exact .inl (by rw[show k=c by omega];exact h3)
    ·rintro(q|⟨c,h1,h2,h3⟩)
     ·exact⟨k,Nat.le_refl _,by omega,q⟩
     ·exact⟨c,by omega,h2,h3⟩
   simp only[this,Bool.decide_or]
   generalize decide (∃c,k+1<=c/\c<n/\viol c=true)=P
   cases viol k<;>cases P<;>cases b<;>rfl
 have:=key n 0 b (by omega)
 simpa using this
theorem pg{l:az} {U:List Nat}(h:Is l U){a b k:Nat}(ha:a<U.length)(hb:b<U.length)(hk:k<U.length)(x:Bool):
  bA.l3 l (a:Int) (b:Int) (k:Int) 0 x=some (x&& !decide (∃c,c<U.length/\(le U a c&&le U b c&& !le U k c)=true)):=by
 have hl:=h.len
 refine fold (L:=fun c x=>bA.l3 l (a:Int) (b:Int) (k:Int) c x) (fun x=>?_) (fun c x hc=>?_) x
 ·show bA.l3 l (a:Int) (b:Int) (k:Int) (U.length:Int) x=_
  rw[bA.l3,h.n,if_neg (by omega)]
 ·show bA.l3 l (a:Int) (b:Int) (k:Int) (c:Int) x=_
  rw[bA.l3,h.n,if_pos (by omega),eS h ha (by omega),eS h hb (by omega),eS h hk (by omega),<-eH ha,<-eH hb,<-eH hk,step1 (by omega) hc]
  cases le U a c<;>cases le U b c<;>cases le U k c<;>simp
theorem lub_eq{U:List Nat}(hO:Ord U){a b k:Nat}(ha:a<U.length)(hb:b<U.length)(hk:k<U.length):
  (le U a k&&le U b k&& !decide (∃c,c<U.length/\(le U a c&&le U b c&& !le U k c)=true))=lub U a b k:=by
 unfold lub
 rw[Bool.eq_iff_iff,Bool.and_eq_true,Bool.and_eq_true,<-decide_not,decide_eq_true_iff,decide_eq_true_iff]
 constructor
 ·rintro⟨⟨h1,h2⟩,h3⟩ c hc
  refine⟨fun q=>⟨hO.trans a k c ha hk hc h1 q,hO.trans b k c hb hk hc h2 q⟩,fun⟨q1,q2⟩=>?_⟩
  cases e:le U k c with
  |true=>rfl
  |false=>exact absurd ⟨c,hc,by simp[q1,q2,e]⟩ h3
 ·intro q
  obtain⟨h1,h2⟩:=(q k hk).1 (hO.refl k hk)
  refine⟨⟨h1,h2⟩,?_⟩
  rintro⟨c,hc,e⟩
  simp only[Bool.and_eq_true,Bool.not_eq_true'] at e
  rw[(q c hc).2 e.1] at e
  simp at e
theorem kj{l:az} {U:List Nat}(h:Is l U)(hO:Ord U){a b:Nat}(ha:a<U.length)(hb:b<U.length):bA.f l (a:Int) (b:Int)=some (jn U a b):=by
 have hl:=h.len
 unfold bA.f
 have key:bA.l2 l (a:Int) (b:Int) 0=some (out (fstOf U.length fun k=>if lub U a b k then some (k:Int) else none)):=by
  refine search (fun k=>bA.l2 l (a:Int) (b:Int) k) U.length _ ?_ ?_
  ·show bA.l2 l (a:Int) (b:Int) (U.length:Int)=_
   rw[bA.l2,h.n,if_neg (by omega)]
  ·intro k hk
   show bA.l2 l (a:Int) (b:Int) (k:Int)=_
   rw[bA.l2,h.n,if_pos (by omega),eS h ha (by omega),eS h hb (by omega),<-eH ha,<-eH hb,step1 (by omega) hk]
   simp only[pg h ha hb hk]
   rw[<-lub_eq hO ha hb hk]
   generalize (!decide (∃c,c<U.length/\(le U a c&&le U b c&& !le U k c)=true))=P
   cases le U a k<;>cases le U b k<;>cases P<;>simp
 rw[key]
 exact jV
theorem nY{x k:Nat}(hk:k<=20)(hx:x<=1):bShl .u32 (x:Int) (k:Int)=((x<<<k:Nat):Int):=by
 unfold bShl
 show IntKind.u32.wrap ((x:Int)*(2^(min ((k:Int).toNat) 32):Nat))=_
 rw[Int.toNat_natCast,Nat.min_eq_left (by omega),<-Int.natCast_mul,Nat.shiftLeft_eq]
 refine wrapU32 ?_
 have:2^k<=2^20:=Nat.pow_le_pow_right (by omega) hk
 have:x*2^k<=1*2^20:=Nat.mul_le_mul hx this
 omega
theorem shr_and1(u b:Nat):(u>>>b)&&&1=(u.testBit b).toNat:=by
 have:=shr1 u b
 rcases(show (u>>>b)&&&1=0\/(u>>>b)&&&1=1 by rw[Nat.and_comm,Nat.one_and_eq_mod_two];omega) with q|q
 ·cases e:u.testBit b with
  |false=>rw[q];rfl
  |true=>rw[this.2 e] at q;cases q
 ·rw[this.1 q,q];rfl
theorem down_l0{l:az} {U:List Nat}(h:Is l U){a:Nat}(ha:a<=31):
  ∀(d k v:Nat),U.length=k+d->v<2^k->∃r:Nat,da.l0 l (a:Int) (k:Int) (v:Int)=some (r:Int)/\r<2^U.length/\∀c,r.testBit c=if c<k then v.testBit c else (decide (c<U.length)&&le U c a)
 |0,k,v,e,hv=>by
  have hl:=h.len
  refine⟨v,?_,by rw[e];exact hv,fun c=>?_⟩
  ·rw[da.l0,h.n,if_neg (by omega)]
  ·by_cases hc:c<k
   ·rw[if_pos hc]
   ·rw[if_neg hc,Nat.testBit_lt_two_pow (Nat.lt_of_lt_of_le hv (Nat.pow_le_pow_right (n:=2) (by omega) (by omega)))]
    have:¬c<U.length:=by omega
    simp[this]
 |d+1,k,v,e,hv=>by
  have hl:=h.len
  have hk:k<U.length:=by omega
  have hs:U[k]>>>a<4294967296:=Nat.lt_of_le_of_lt (by rw[Nat.shiftRight_eq_div_pow];exact Nat.div_le_self ..) (h.u hk)
  have hb1:(U[k].testBit a).toNat<=1:=by cases U[k].testBit a<;>decide
  have hsh:(U[k].testBit a).toNat<<<k<2^(k+1):=by
   rw[Nat.shiftLeft_eq,Nat.pow_succ]
   have hp:0<2^k:=Nat.pow_pos (by omega)
   cases U[k].testBit a<;>simp<;>omega
  have h10:2^(k+1)<=2^20:=Nat.pow_le_pow_right (by omega) (by omega)
  have hv':v<2^(k+1):=Nat.lt_of_lt_of_le hv (Nat.pow_le_pow_right (by omega) (by omega))
  obtain⟨r,hr1,hr2,hr3⟩:=down_l0 h ha d (k+1) (v|||((U[k].testBit a).toNat<<<k)) (by omega) (Nat.or_lt_two_pow hv' hsh)
  refine⟨r,?_,hr2,fun c=>?_⟩
  ·rw[da.l0,h.n,if_pos (by omega),h.at_ hk]
   simp only[Option.bind_eq_bind,Option.bind_some]
   rw[if_pos (by omega),if_pos (by omega),kg (by omega),show (1:Int)=((1:Nat):Int) from rfl,kf hs (by omega),shr_and1,nY (by omega) hb1,bOr_nat (by omega) (by omega)]
   rw[show ((1:Nat):Int)=1 from rfl,step1 (by omega) hk]
   exact hr1
  ·rw[hr3 c,Nat.testBit_or,Nat.testBit_shiftLeft]
   rcases Nat.lt_trichotomy c k with q|q|q
   ·rw[if_pos (by omega),if_pos q]
    have:decide (c>=k)=false:=decide_eq_false (by omega)
    rw[this];simp
   ·subst q
    rw[if_pos (by omega),if_neg (by omega),Nat.testBit_lt_two_pow hv,eH hk]
    have:decide (c<U.length)=true:=decide_eq_true hk
    rw[this]
    cases U[c].testBit a<;>simp
   ·rw[if_neg (by omega),if_neg (by omega)]
theorem my{l:az} {U:List Nat}(h:Is l U){a:Nat}(ha:a<=31):∃r:Nat,da.f l (a:Int)=some (r:Int)/\r<2^U.length/\∀c,r.testBit c=(decide (c<U.length)&&le U c a):=by
 obtain⟨r,h1,h2,h3⟩:=down_l0 h ha U.length 0 0 (by omega) (by simp)
 refine⟨r,?_,h2,fun c=>by rw[h3 c,if_neg (by omega)]⟩
 unfold da.f
 rw[show ((0:Nat):Int)=0 from rfl] at h1
 rw[h1];rfl
theorem meet_eq{l:az} {U:List Nat}(h:Is l U){a b:Nat}(ha:a<U.length)(hb:b<U.length):cT.f l (a:Int) (b:Int)=some (mt U a b):=by
 have hl:=h.len
 obtain⟨ra,ea,la,ta⟩:=my h (a:=a) (by omega)
 obtain⟨rb,eb,lb,tb⟩:=my h (a:=b) (by omega)
 have h10:2^U.length<=2^10:=Nat.pow_le_pow_right (by omega) hl
 unfold cT.f
 rw[ea,eb]
 simp only[Option.bind_eq_bind,Option.bind_some]
 have key:cT.l0 l (ra:Int) (rb:Int) 0=some (out (fstOf U.length fun k=>if glb U a b k then some (k:Int) else none)):=by
  refine search (fun k=>cT.l0 l (ra:Int) (rb:Int) k) U.length _ ?_ ?_
  ·show cT.l0 l (ra:Int) (rb:Int) (U.length:Int)=_
   rw[cT.l0,h.n,if_neg (by omega)]
  ·intro k hk
   show cT.l0 l (ra:Int) (rb:Int) (k:Int)=_
   obtain⟨rk,ek,lk,tk⟩:=my h (a:=k) (by omega)
   rw[cT.l0,h.n,if_pos (by omega),ek,kf (by omega) (by omega),step1 (by omega) hk]
   simp only[Option.bind_eq_bind,Option.bind_some]
   have hg:((rk:Int)=((ra&&&rb:Nat):Int))↔glb U a b k=true:=by
    rw[Int.natCast_inj]
    unfold glb
    rw[decide_eq_true_iff]
    constructor
    ·intro e c hc
     have:=congrArg (fun x=>x.testBit c) e
     simp only[Nat.testBit_and,tk,ta,tb,decide_eq_true hc,Bool.true_and] at this
     rw[this,Bool.and_eq_true]
    ·intro q
     apply Nat.eq_of_testBit_eq
     intro c
     rw[Nat.testBit_and,tk,ta,tb]
     rcases Nat.lt_or_ge c U.length with hc|hc
     ·rw[decide_eq_true hc,Bool.true_and,Bool.true_and,Bool.true_and,Bool.eq_iff_iff,Bool.and_eq_true];exact q c hc
     ·rw[decide_eq_false (by omega)];rfl
   cases e:glb U a b k with
   |true=>rw[if_pos (hg.2 e)];rfl
   |false=>rw[if_neg (fun q=>by rw[hg.1 q] at e;cases e)];rfl
 rw[key]
 exact jV
theorem ph{l:az} {U:List Nat}(h:Is l U){a b k:Nat}(ha:a<U.length)(hb:b<U.length)(hk:k<U.length)(x:Bool):
  bC.l3 l (a:Int) (b:Int) (k:Int) 0 x=some (x&& !decide (∃c,c<U.length/\(le U c a&&le U c b&& !le U c k)=true)):=by
 have hl:=h.len
 refine fold (L:=fun c x=>bC.l3 l (a:Int) (b:Int) (k:Int) c x) (fun x=>?_) (fun c x hc=>?_) x
 ·show bC.l3 l (a:Int) (b:Int) (k:Int) (U.length:Int) x=_
  rw[bC.l3,h.n,if_neg (by omega)]
 ·show bC.l3 l (a:Int) (b:Int) (k:Int) (c:Int) x=_
  rw[bC.l3,h.n,if_pos (by omega),eS h hc (by omega),eS h hc (by omega),eS h hc (by omega),<-eH hc,<-eH hc,<-eH hc,step1 (by omega) hc]
  cases le U c a<;>cases le U c b<;>cases le U c k<;>simp
theorem glb_eq{U:List Nat}(hO:Ord U){a b k:Nat}(ha:a<U.length)(hb:b<U.length)(hk:k<U.length):
  (le U k a&&le U k b&& !decide (∃c,c<U.length/\(le U c a&&le U c b&& !le U c k)=true))=glb U a b k:=by
 unfold glb
 rw[Bool.eq_iff_iff,Bool.and_eq_true,Bool.and_eq_true,<-decide_not,decide_eq_true_iff,decide_eq_true_iff]
 constructor
 ·rintro⟨⟨h1,h2⟩,h3⟩ c hc
  refine⟨fun q=>⟨hO.trans c k a hc hk ha q h1,hO.trans c k b hc hk hb q h2⟩,fun⟨q1,q2⟩=>?_⟩
  cases e:le U c k with
  |true=>rfl
  |false=>exact absurd ⟨c,hc,by simp[q1,q2,e]⟩ h3
 ·intro q
  obtain⟨h1,h2⟩:=(q k hk).1 (hO.refl k hk)
  refine⟨⟨h1,h2⟩,?_⟩
  rintro⟨c,hc,e⟩
  simp only[Bool.and_eq_true,Bool.not_eq_true'] at e
  rw[(q c hc).2 e.1] at e
  simp at e
theorem kl{l:az} {U:List Nat}(h:Is l U)(hO:Ord U){a b:Nat}(ha:a<U.length)(hb:b<U.length):bC.f l (a:Int) (b:Int)=some (mt U a b):=by
 have hl:=h.len
 unfold bC.f
 have key:bC.l2 l (a:Int) (b:Int) 0=some (out (fstOf U.length fun k=>if glb U a b k then some (k:Int) else none)):=by
  refine search (fun k=>bC.l2 l (a:Int) (b:Int) k) U.length _ ?_ ?_
  ·show bC.l2 l (a:Int) (b:Int) (U.length:Int)=_
   rw[bC.l2,h.n,if_neg (by omega)]
  ·intro k hk
   show bC.l2 l (a:Int) (b:Int) (k:Int)=_
   rw[bC.l2,h.n,if_pos (by omega),eS h hk (by omega),eS h hk (by omega),<-eH hk,<-eH hk,step1 (by omega) hk]
   simp only[ph h ha hb hk]
   rw[<-glb_eq hO ha hb hk]
   generalize (!decide (∃c,c<U.length/\(le U c a&&le U c b&& !le U c k)=true))=P
   cases le U k a<;>cases le U k b<;>cases P<;>simp
 rw[key]
 exact jV
noncomputable def bad3(U:List Nat)(a b:Nat):Bool:=decide (jn U a b<0)||decide (mt U a b<0)
noncomputable def chk(l:az)(U:List Nat):Int:=if ¬May l U then 1 else if ¬Ord U then 2 else if∃a b,a<U.length/\b<U.length/\bad3 U a b=true then 3 else 0
theorem iT{l:az} {U:List Nat}(h:Nm l U):ck.f l=some (chk l U):=by
 have hl:=h.len
 unfold ck.f chk
 rw[may_prog h]
 by_cases hm:May l U
 ·rw[oZ h.toIs hm.bits]
  by_cases hO:Ord U
  ·unfold f9.f
   have:=nV (t:=(0:Int)) (t':=3) (n:=U.length) (yb:=ck.y0 l) (bad:=bad3 U) (by omega) (fun a b ha hb=>by
    unfold ck.y0 bad3
    rw[join_eq h.toIs hm.bits ha hb,meet_eq h.toIs ha hb]
    by_cases h1:jn U a b<0<;>by_cases h2:mt U a b<0<;>simp[h1,h2])
   rw[h.n]
   simp only[Option.bind_eq_bind,Option.bind_some]
   rw[this]
   by_cases hb:∃a b,a<U.length/\b<U.length/\bad3 U a b=true
   ·simp only[if_pos hb,hm,hO];simp
   ·simp only[if_neg hb,hm,hO];simp
  ·simp[hm,hO]
 ·simp[hm]
theorem oG{l:az} {U:List Nat}(h:Is l U)(hO:Ord U){a:Nat}(ha:a<U.length):
  bN.l3 l (a:Int) 0=some (out (fstOf U.length fun b=>if bad3 U a b then some (3:Int) else none)):=by
 have hl:=h.len
 refine search (fun k=>bN.l3 l (a:Int) k) U.length _ ?_ ?_
 ·show bN.l3 l (a:Int) (U.length:Int)=_
  rw[bN.l3,h.n,if_neg (by omega)]
 ·intro b hb
  show bN.l3 l (a:Int) (b:Int)=_
  rw[bN.l3,h.n,if_pos (by omega),kj h hO ha hb,kl h hO ha hb,step1 (by omega) hb]
  unfold bad3
  by_cases h1:jn U a b<0<;>by_cases h2:mt U a b<0<;>simp[h1,h2]
theorem oB{l:az} {U:List Nat}(h:Nm l U):bN.f l=some (chk l U):=by
 have hl:=h.len
 unfold bN.f chk
 rw[may_refd h]
 by_cases hm:May l U
 ·rw[pb h.toIs]
  by_cases hO:Ord U
  ·have key:bN.l2 l 0=some (out (fstOf U.length fun a=>if decide (∃b,b<U.length/\bad3 U a b=true) then some (3:Int) else none)):=by
    refine search (fun k=>bN.l2 l k) U.length _ ?_ ?_
    ·show bN.l2 l (U.length:Int)=_
     rw[bN.l2,h.n,if_neg (by omega)]
    ·intro a ha
     show bN.l2 l (a:Int)=_
     rw[bN.l2,h.n,if_pos (by omega),oG h.toIs hO ha,gO,step1 (by omega) ha]
     generalize decide (∃b,b<U.length/\bad3 U a b=true)=P
     cases P<;>simp[out]
   rw[key,gO]
   have e:(∃a,a<U.length/\decide (∃b,b<U.length/\bad3 U a b=true)=true)↔∃a b,a<U.length/\b<U.length/\bad3 U a b=true:=by
    constructor
    ·rintro⟨a,ha,q⟩;obtain⟨b,hb,q⟩:=of_decide_eq_true q;exact⟨a,b,ha,hb,q⟩
    ·rintro⟨a,b,ha,hb,q⟩;exact⟨a,ha,decide_eq_true ⟨b,hb,q⟩⟩
   simp only[e]
   by_cases hb:∃a b,a<U.length/\b<U.length/\bad3 U a b=true
   ·simp only[if_pos hb,decide_eq_true hb,hm,hO];simp[out]
   ·simp only[if_neg hb,decide_eq_false hb,hm,hO];simp[out]
  ·simp[hm,hO]
 ·simp[hm]
theorem gi{l:az} {U:List Nat}(h:chk l U=0):May l U/\Ord U/\∀a b,a<U.length->b<U.length->0<=jn U a b/\0<=mt U a b:=by
 unfold chk at h
 by_cases hm:May l U
 ·by_cases hO:Ord U
  ·by_cases hb:∃a b,a<U.length/\b<U.length/\bad3 U a b=true
   ·rw[if_neg (fun k=>k hm),if_neg (fun k=>k hO),if_pos hb] at h;cases h
   ·refine⟨hm,hO,fun a b ha hb'=>?_⟩
    have:¬bad3 U a b=true:=fun q=>hb ⟨a,b,ha,hb',q⟩
    simp[bad3] at this
    exact this
  ·rw[if_neg (fun k=>k hm),if_pos hO] at h;cases h
 ·rw[if_pos hm] at h;cases h
theorem idxFI_eq{xs:List Int} {p:Int->Bool} {g:Int->Option Bool}(hg:∀x,g x=some (p x))(hx:xs.length<=1000):
  bq.f xs g=some (fi xs.length (fun k=>p (xs.getD k 0))):=by
 unfold bq.f
 have key:bq.l0 xs g 0=some (out (fstOf xs.length fun k=>if p (xs.getD k 0) then some (k:Int) else none)):=by
  refine search (fun k=>bq.l0 xs g k) xs.length _ ?_ ?_
  ·show bq.l0 xs g (xs.length:Int)=_
   rw[bq.l0,if_neg (by omega)]
  ·intro k hk
   show bq.l0 xs g (k:Int)=_
   have e:xs.getD k 0=xs[k]:=by simp[hk]
   rw[bq.l0,if_pos (by omega),bo hk,step1 hx hk,e]
   simp only[Option.bind_eq_bind,Option.bind_some]
   rw[hg]
   cases p xs[k]<;>simp
 rw[key]
 exact jV
def inn(n:Nat)(a:Int):Bool:=decide (0<=a)&&decide (a<(n:Int))
theorem jA{xs:List Int} {p:Int->Bool} {g:Int->Option Bool}(hg:∀x,g x=some (p x))(hx:xs.length<=1000):
  ce.f xs g=some (xs.any p):=by
 unfold ce.f
 rw[idxFI_eq hg hx]
 show some (decide (fi xs.length (fun k=>p (xs.getD k 0))>=0))=_
 congr 1
 rw[Bool.eq_iff_iff,decide_eq_true_iff,List.any_eq_true]
 constructor
 ·intro q
  obtain⟨k,hk,hp,_⟩:=jW q
  refine⟨xs[k],List.getElem_mem hk,?_⟩
  simpa [hk] using hp
 ·rintro⟨x,hx,hp⟩
  obtain⟨k,hk,e⟩:=List.getElem_of_mem hx
  rcases(by omega:fi xs.length (fun k=>p (xs.getD k 0))<0\/fi xs.length (fun k=>p (xs.getD k 0))>=0) with q|q
  ·have:=fi_neg.1 q k hk
   simp[hk,e,hp] at this
  ·exact q
theorem jC{l:az} {U:List Nat}(h:Nm l U){xs:List Int}(hx:xs.length<=1000):
  ee.f l xs=some (if chk l U=0 then (if xs.all (inn U.length)=true then 0 else 9) else chk l U):=by
 unfold ee.f
 rw[iT h,jA (g:=fun z0=>fX.f z0 l) (p:=fun a=> !inn U.length a) (fun x=>by
  unfold fX.f inn
  rw[h.n]
  by_cases h1:x<0
  ·have h1':¬0<=x:=by omega
   simp[h1,h1']
  ·have h1':0<=x:=by omega
   by_cases h2:x<(U.length:Int)
   ·have h2':¬x>=(U.length:Int):=by omega
    simp[h1,h1',h2,h2']
   ·have h2':x>=(U.length:Int):=by omega
    simp[h1,h1',h2,h2']) hx]
 have:xs.any (fun a=> !inn U.length a)= !xs.all (inn U.length):=by rw[List.not_all_eq_any_not]
 rw[this]
 by_cases h0:chk l U=0<;>cases xs.all (inn U.length)<;>simp[h0]
theorem jp{n:Nat} {a:Int}(h:inn n a=true):∃k:Nat,a=(k:Int)/\k<n:=by
 unfold inn at h
 simp at h
 exact⟨a.toNat,by omega,by omega⟩
end
section
open Classical
theorem inRow{α:Type} {d:Kd α} {H:FH} {cs:List Value} {xs:List α}(h:(kL d).reps H cs xs):∀x∈xs,∃c,d.reps H c x:=by
 obtain⟨A,c,_,_,_,_,hs⟩:=h
 intro x hx
 rcases hs with e|⟨b,off,cells,t,fr,_,_,hr⟩
 ·rw[e] at hx;cases hx
 ·obtain⟨k,hk,e⟩:=List.getElem_of_mem hx
  exact⟨_,hr.2 k x (by rw[List.getElem?_eq_getElem hk,e])⟩
theorem inLen{α:Type} {d:Kd α} {H:FH} {cs:List Value} {xs:List α}(h:(kL d).reps H cs xs):xs.length<=big:=by
 obtain⟨A,c,_,_,_,hb,hs⟩:=h
 exact hb
theorem lat_in{l:az}(h:∃H cs,(kR aC).reps H cs l):(∀x∈l.Up,0<=x/\x<4294967296)/\l.Up.length<=big/\l.Names.length<=big:=by
 obtain⟨H,cs,c1,c2,e,h1,c3,c4,e2,h2,_⟩:=h
 have h1':(kL kS).reps H c1 l.Names:=h1
 have h2':(kL (kI .u32)).reps H c3 l.Up:=h2
 refine⟨fun x hx=>?_,inLen h2',inLen h1'⟩
 obtain⟨c,hc⟩:=inRow h2' x hx
 have:InR .u32 x:=hc.2
 unfold InR IntKind.min IntKind.max at this
 simp[IntKind.signed,IntKind.bits] at this
 omega
theorem few_l0{l:az}(hm:(if 10<(l.Names.length:Int) then (10:Int) else (l.Names.length:Int))=((min 10 l.Names.length:Nat):Int)):
  ∀(d k:Nat) (acc:List Str),min 10 l.Names.length=k+d->acc.length=k->(∀s∈acc,s.length<=15)->∃r,dS.l0 l acc (k:Int)=some r/\r.length=min 10 l.Names.length/\∀s∈r,s.length<=15
 |0,k,acc,e,ha,hs=>by
  refine⟨acc,?_,by omega,hs⟩
  have hlen:((lCut l.Names 0 ((min 10 l.Names.length:Nat):Int)).length)=min 10 l.Names.length:=by rw[lCut0,List.length_take];omega
  rw[dS.l0,hm,hlen,if_neg (by omega)]
 |d+1,k,acc,e,ha,hs=>by
  have hlen:((lCut l.Names 0 ((min 10 l.Names.length:Nat):Int)).length)=min 10 l.Names.length:=by rw[lCut0,List.length_take];omega
  have hk:k<(lCut l.Names 0 ((min 10 l.Names.length:Nat):Int)).length:=by omega
  rw[dS.l0,hm,if_pos (by omega),bo hk]
  simp only[Option.bind_eq_bind,Option.bind_some]
  generalize (lCut l.Names 0 ((min 10 l.Names.length:Nat):Int))[k]=s
  have hm2:(if 15<(s.length:Int) then (15:Int) else (s.length:Int))=((min 15 s.length:Nat):Int):=by split<;>omega
  rw[hm2,if_pos ⟨by omega,by omega⟩,if_pos (by unfold big;simp;omega),wrap64 (by omega) (by omega)]
  have:=few_l0 hm d (k+1) (acc++[sCut s 0 ((min 15 s.length:Nat):Int)]) (by omega) (by simp[ha]) (by
   intro t ht
   rw[List.mem_append] at ht
   rcases ht with ht|ht
   ·exact hs t ht
   ·simp at ht;subst ht
    simp[sCut];omega)
  rw[show ((k:Int)+1)=((k+1:Nat):Int) by omega]
  exact this
theorem few_eq{l:az}(h:∃H cs,(kR aC).reps H cs l):∃l' U,dS.f l=some l'/\Nm l' U:=by
 obtain⟨h1,h2,h3⟩:=lat_in h
 have hu:(if 10<(l.Up.length:Int) then (10:Int) else (l.Up.length:Int))=((min 10 l.Up.length:Nat):Int):=by split<;>omega
 have hm:(if 10<(l.Names.length:Int) then (10:Int) else (l.Names.length:Int))=((min 10 l.Names.length:Nat):Int):=by split<;>omega
 obtain⟨r,hr,hl,hs⟩:=few_l0 hm (min 10 l.Names.length) 0 [] (by omega) rfl (fun s hs=>by cases hs)
 refine⟨⟨r,lCut l.Up 0 ((min 10 l.Up.length:Nat):Int)⟩,(l.Up.take 10).map Int.toNat,?_,⟨⟨?_,?_,?_⟩,?_,fun s h=>Nat.le_trans (hs s h) (by omega)⟩⟩
 ·unfold dS.f
  rw[show ((0:Nat):Int)=0 from rfl] at hr
  rw[hu,hm,if_pos ⟨by omega,by omega⟩,if_pos ⟨by omega,by omega⟩,hr]
  rfl
 ·show lCut l.Up 0 ((min 10 l.Up.length:Nat):Int)=_
  rw[lCut0,List.map_map]
  have:l.Up.take (min 10 l.Up.length)=l.Up.take 10:=by
   rcases Nat.le_total 10 l.Up.length with q|q
   ·rw[Nat.min_eq_left q]
   ·rw[Nat.min_eq_right q,List.take_of_length_le (Nat.le_refl _),List.take_of_length_le q]
  rw[this]
  have e2:(l.Up.take 10).map ((fun x:Nat=>(x:Int))∘Int.toNat)=(l.Up.take 10).map id:=List.map_congr_left (fun x hx=>by
   have:=h1 x (List.mem_of_mem_take hx)
   simp;omega)
  rw[e2,List.map_id]
 ·intro x hx
  rw[List.mem_map] at hx
  obtain⟨y,hy,e⟩:=hx
  have:=h1 y (List.mem_of_mem_take hy)
  omega
 ·simp;omega
 ·show r.length<=10
  omega
section
variable{l:az} {U:List Nat}
theorem all2{n:Nat} {a b:Int}:([a,b]:List Int).all (inn n)=(inn n a&&inn n b):=by simp
theorem jb{n k:Nat}(h:k<n):inn n (k:Int)=true:=by unfold inn;simp;omega
theorem yes2(h:Nm l U)(hc:chk l U=0){a b:Nat}(ha:a<U.length)(hb:b<U.length):
  eE.f l (a:Int) (b:Int)=some (le U a b,0)/\fw.f l (a:Int) (b:Int)=some (jn U a b,0)/\fx.f l (a:Int) (b:Int)=some (mt U a b,0):=by
 obtain⟨hm,hO,_⟩:=gi hc
 have hl:=h.len
 refine⟨?_,?_,?_⟩
 ·unfold eE.f
  rw[jC h (by simp),all2,jb ha,jb hb,hc,lz h.toIs ha (by omega),eH ha];rfl
 ·unfold fw.f
  rw[jC h (by simp),all2,jb ha,jb hb,hc,join_eq h.toIs hm.bits ha hb];rfl
 ·unfold fx.f
  rw[jC h (by simp),all2,jb ha,jb hb,hc,meet_eq h.toIs ha hb];rfl
theorem yes2r(h:Nm l U)(hc:chk l U=0){a b:Nat}(ha:a<U.length)(hb:b<U.length):
  aP.f l (a:Int) (b:Int)=some (le U a b)/\bA.f l (a:Int) (b:Int)=some (jn U a b)/\bC.f l (a:Int) (b:Int)=some (mt U a b):=by
 obtain⟨hm,hO,_⟩:=gi hc
 have hl:=h.len
 refine⟨?_,kj h.toIs hO ha hb,kl h.toIs hO ha hb⟩
 rw[eS h.toIs ha (by omega),eH ha]
end
theorem idxU_eq{xs:List Int} {a:Int}(hx:xs.length<=1000):
  bz.f xs a=some (fi xs.length (fun k=>decide (a=xs.getD k 0))):=by
 unfold bz.f
 have key:bz.l0 xs a 0=some (out (fstOf xs.length fun k=>if decide (a=xs.getD k 0) then some (k:Int) else none)):=by
  refine search (fun k=>bz.l0 xs a k) xs.length _ ?_ ?_
  ·show bz.l0 xs a (xs.length:Int)=_
   rw[bz.l0,if_neg (by omega)]
  ·intro k hk
   show bz.l0 xs a (k:Int)=_
   have e:xs.getD k 0=xs[k]:=by simp[hk]
   rw[bz.l0,if_pos (by omega),bo hk,step1 hx hk,e]
   by_cases q:a=xs[k]<;>simp[q]
 rw[key]
 exact jV
theorem count8:∀x:Nat,x<256->gu.f (x:Int)=some (sAt ks0 (x:Int)):=by decide+kernel
theorem count1:∀x:Nat,x<256->∀k:Nat,k<8->x.testBit k=true->((sAt ks0 (x:Int)=1)↔x=2^k):=by decide+kernel
theorem all1s:∀n:Nat,n<9->IntKind.u32.wrap ((bShl .u32 1 (n:Int))-1)=((2^n-1:Nat):Int):=by decide+kernel
section
variable{l:az} {U:List Nat}
theorem getU(h:Is l U){k:Nat}(hk:k<U.length):l.Up.getD k 0=((U[k]:Nat):Int):=by rw[h.up];simp[hk]
theorem Up_len(h:Is l U):l.Up.length<=1000:=by rw[h.n];have:=h.len;omega
theorem l9(hO:Ord U){j k:Nat}(hj:j<U.length)(hk:k<U.length)(h1:∀c,c<U.length->le U j c=true)(h2:∀c,c<U.length->le U k c=true):j=k:=
 hO.anti j k hj hk (h1 k hk) (h2 j hj)
theorem pj(hO:Ord U){j k:Nat}(hj:j<U.length)(hk:k<U.length)(h1:∀c,c<U.length->le U c j=true)(h2:∀c,c<U.length->le U c k=true):j=k:=
 hO.anti j k hj hk (h2 j hj) (h1 k hk)
theorem mt_is(hO:Ord U){a b:Nat}(ha:a<U.length)(hb:b<U.length)(h:0<=mt U a b):∃k:Nat,mt U a b=(k:Int)/\k<U.length/\le U k a=true/\le U k b=true:=by
 obtain⟨k,hk,hp,e⟩:=jW h
 unfold glb at hp
 have hp:=of_decide_eq_true hp
 have:=(hp k hk).1 (hO.refl k hk)
 exact⟨k,e,hk,this.1,this.2⟩
theorem jn_is(hO:Ord U){a b:Nat}(ha:a<U.length)(hb:b<U.length)(h:0<=jn U a b):∃k:Nat,jn U a b=(k:Int)/\k<U.length/\le U a k=true/\le U b k=true:=by
 obtain⟨k,hk,hp,e⟩:=jW h
 unfold lub at hp
 have hp:=of_decide_eq_true hp
 have:=(hp k hk).1 (hO.refl k hk)
 exact⟨k,e,hk,this.1,this.2⟩
theorem bot_lo(hc:chk l U=0):∀(d k r:Nat),U.length=k+d->r<U.length->(∀c,c<k->le U r c=true)->∃r':Nat,r'<U.length/\∀c,c<U.length->le U r' c=true
 |0,k,r,e,hr,hb=>⟨r,hr,fun c hc=>hb c (by omega)⟩
 |d+1,k,r,e,hr,hb=>by
  obtain⟨hm,hO,hj⟩:=gi hc
  have hk:k<U.length:=by omega
  obtain⟨m,em,hm',m1,m2⟩:=mt_is hO hr hk (hj r k hr hk).2
  refine bot_lo hc d (k+1) m (by omega) hm' (fun c hc=>?_)
  rcases(by omega:c<k\/c=k) with q|rfl
  ·exact hO.trans m r c hm' hr (by omega) m1 (hb c q)
  ·exact m2
theorem top_hi(hc:chk l U=0):∀(d k r:Nat),U.length=k+d->r<U.length->(∀c,c<k->le U c r=true)->∃r':Nat,r'<U.length/\∀c,c<U.length->le U c r'=true
 |0,k,r,e,hr,hb=>⟨r,hr,fun c hc=>hb c (by omega)⟩
 |d+1,k,r,e,hr,hb=>by
  obtain⟨hm,hO,hj⟩:=gi hc
  have hk:k<U.length:=by omega
  obtain⟨m,em,hm',m1,m2⟩:=jn_is hO hr hk (hj r k hr hk).1
  refine top_hi hc d (k+1) m (by omega) hm' (fun c hc=>?_)
  rcases(by omega:c<k\/c=k) with q|rfl
  ·exact hO.trans c r m (by omega) hr hm' (hb c q) m1
  ·exact m2
theorem m3(h:Nm l U)(hc:chk l U=0):∀(d k r:Nat),U.length=k+d->r<U.length->(∀c,c<k->le U r c=true)->∃r':Nat,bU.l0 l (r:Int) (k:Int)=some (r':Int)/\r'<U.length/\∀c,c<U.length->le U r' c=true
 |0,k,r,e,hr,hb=>⟨r,by rw[bU.l0,h.n,if_neg (by omega)],hr,fun c hc=>hb c (by omega)⟩
 |d+1,k,r,e,hr,hb=>by
  obtain⟨hm,hO,hj⟩:=gi hc
  have hl:=h.len
  have hk:k<U.length:=by omega
  obtain⟨m,em,hm',m1,m2⟩:=mt_is hO hr hk (hj r k hr hk).2
  rw[bU.l0,h.n,if_pos (by omega),kl h.toIs hO hr hk,em,step1 (by omega) hk]
  refine m3 h hc d (k+1) m (by omega) hm' (fun c hc=>?_)
  rcases(by omega:c<k\/c=k) with q|rfl
  ·exact hO.trans m r c hm' hr (by omega) m1 (hb c q)
  ·exact m2
theorem m4(h:Nm l U)(hc:chk l U=0):∀(d k r:Nat),U.length=k+d->r<U.length->(∀c,c<k->le U c r=true)->∃r':Nat,dA.l0 l (r:Int) (k:Int)=some (r':Int)/\r'<U.length/\∀c,c<U.length->le U c r'=true
 |0,k,r,e,hr,hb=>⟨r,by rw[dA.l0,h.n,if_neg (by omega)],hr,fun c hc=>hb c (by omega)⟩
 |d+1,k,r,e,hr,hb=>by
  obtain⟨hm,hO,hj⟩:=gi hc
  have hl:=h.len
  have hk:k<U.length:=by omega
  obtain⟨m,em,hm',m1,m2⟩:=jn_is hO hr hk (hj r k hr hk).1
  rw[dA.l0,h.n,if_pos (by omega),kj h.toIs hO hr hk,em,step1 (by omega) hk]
  refine m4 h hc d (k+1) m (by omega) hm' (fun c hc=>?_)
  rcases(by omega:c<k\/c=k) with q|rfl
  ·exact hO.trans c r m (by omega) hr hm' (hb c q) m1
  ·exact m2
theorem lu(h:Nm l U)(hc:chk l U=0):∃y:Nat,(y<U.length/\∀c,c<U.length->le U y c=true)/\dI.f l=some ((y:Int),0):=by
 obtain⟨hm,hO,_⟩:=gi hc
 have hl:=h.len
 have hp:=hm.pos
 have h8:=hm.le8
 obtain⟨r,hr,hb⟩:=bot_lo hc U.length 0 0 (by omega) (by omega) (fun c hc=>by omega)
 refine⟨r,⟨hr,hb⟩,?_⟩
 ·unfold dI.f
  rw[jC h (by simp),hc,h.n]
  have e0:((if (0:Int)=0 then if (([]:List Int).all (inn U.length))=true then (0:Int) else 9 else 0))=0:=by simp
  rw[e0]
  have eb:∀f:Int->Option (Int×Int),(some (0:Int)>>=f)=f 0:=fun _=>rfl
  rw[eb]
  rw[if_pos rfl,if_pos (by omega),all1s U.length (by omega),idxU_eq (Up_len h.toIs)]
  have:fi l.Up.length (fun k=>decide (((2^U.length-1:Nat):Int)=l.Up.getD k 0))=(r:Int):=by
   rw[h.n]
   have key:∀k,k<U.length->(decide (((2^U.length-1:Nat):Int)=l.Up.getD k 0)=true↔∀c,c<U.length->le U k c=true):=by
    intro k hk
    rw[decide_eq_true_iff,getU h.toIs hk,Int.natCast_inj]
    constructor
    ·intro e c hcl
     rw[eH hk,<-e,Nat.testBit_two_pow_sub_one];exact decide_eq_true hcl
    ·intro q
     apply Nat.eq_of_testBit_eq
     intro c
     rw[Nat.testBit_two_pow_sub_one,<-eH hk]
     rcases Nat.lt_or_ge c U.length with hcl|hcl
     ·rw[q c hcl,decide_eq_true hcl]
     ·rw[decide_eq_false (by omega)]
      cases e:le U k c with
      |false=>rfl
      |true=>have:=l7 hm.bits e;omega
   exact fi_one hr ((key r hr).2 hb) (fun j hj q=>l9 hO hj hr ((key j hj).1 q) hb)
  rw[this];rfl
theorem bot_refd(h:Nm l U)(hc:chk l U=0){y:Nat}(hy:y<U.length)(q:∀c,c<U.length->le U y c=true):bU.f l=some (y:Int):=by
 obtain⟨hm,hO,_⟩:=gi hc
 have hp:=hm.pos
 obtain⟨r,h1,hr,hb⟩:=m3 h hc U.length 0 0 (by omega) (by omega) (fun c hc=>by omega)
 rw[show ((0:Nat):Int)=0 from rfl] at h1
 unfold bU.f
 rw[h1,l9 hO hr hy hb q];rfl
theorem top_one(hO:Ord U)(h8:U.length<=8)(hU:∀x∈U,x<2^U.length){k r:Nat}(hk:k<U.length)(hr:r<U.length)(hb:∀c,c<U.length->le U c r=true):(fv.f ((U[k]:Nat):Int))=some (decide (k=r)):=by
 have hx:U[k]<256:=Nat.lt_of_lt_of_le (hU _ (List.getElem_mem hk)) (Nat.pow_le_pow_right (n:=2) (by omega) h8)
 unfold fv.f
 rw[count8 _ hx]
 show some (decide (sAt ks0 ((U[k]:Nat):Int)=1))=_
 congr 1
 have hkk:U[k].testBit k=true:=by rw[<-eH hk];exact hO.refl k hk
 rw[decide_eq_decide,count1 _ hx k (by omega) hkk]
 constructor
 ·intro e
  have:=hb k hk
  rw[eH hk,e,Nat.testBit_two_pow] at this
  exact of_decide_eq_true this
 ·intro e
  subst e
  apply Nat.eq_of_testBit_eq
  intro c
  rw[Nat.testBit_two_pow,<-eH hk,Bool.eq_iff_iff,decide_eq_true_iff]
  constructor
  ·intro q
   have hcl:=l7 hU q
   exact hO.anti k c hk hcl q (hb c hcl)
  ·intro e;rw[<-e];exact hO.refl k hk
theorem top_prog(h:Nm l U)(hc:chk l U=0):∃y:Nat,(y<U.length/\∀c,c<U.length->le U c y=true)/\fN.f l=some ((y:Int),0):=by
 obtain⟨hm,hO,_⟩:=gi hc
 have hl:=h.len
 have hp:=hm.pos
 have h8:=hm.le8
 obtain⟨r,hr,hb⟩:=top_hi hc U.length 0 0 (by omega) (by omega) (fun c hc=>by omega)
 refine⟨r,⟨hr,hb⟩,?_⟩
 ·unfold fN.f
  rw[jC h (by simp),hc]
  have e0:((if (0:Int)=0 then if (([]:List Int).all (inn U.length))=true then (0:Int) else 9 else 0))=0:=by simp
  rw[e0]
  have eb:∀f:Int->Option (Int×Int),(some (0:Int)>>=f)=f 0:=fun _=>rfl
  rw[eb]
  rw[if_pos rfl]
  obtain⟨p,hp2⟩:∃p:Nat->Bool,∀k,p k=true↔k=r:=⟨fun k=>Nat.beq k r,fun k=>⟨fun e=>Nat.eq_of_beq_eq_true e,fun e=>by rw[e];exact Nat.beq_refl r⟩⟩
  have key:aS.l0 l.Up fv.f 0=some (out (fstOf U.length fun k=>if p k then some (k:Int) else none)):=by
   refine search (fun k=>aS.l0 l.Up fv.f k) U.length _ ?_ ?_
   ·show aS.l0 l.Up fv.f (U.length:Int)=_
    rw[aS.l0,h.n,if_neg (by omega)]
   ·intro k hk
    show aS.l0 l.Up fv.f (k:Int)=_
    rw[aS.l0,h.n,if_pos (by omega),h.at_ hk,step1 (by omega) hk]
    simp only[Option.bind_eq_bind,Option.bind_some]
    rw[top_one hO h8 hm.bits hk hr hb]
    by_cases e:k=r
    ·rw[(hp2 k).2 e,decide_eq_true e];rfl
    ·have:p k=false:=by
      cases q:p k with
      |false=>rfl
      |true=>exact absurd ((hp2 k).1 q) e
     rw[this,decide_eq_false e];rfl
  unfold aS.f
  rw[key]
  have hfi:fi U.length p=(r:Int):=fi_one hr ((hp2 r).2 rfl) (fun j hj q=>(hp2 j).1 q)
  unfold fi at hfi
  cases hv:fstOf U.length (fun k=>if p k then some (k:Int) else none) with
  |none=>rw[hv] at hfi;simp at hfi
  |some v=>rw[hv] at hfi;simp at hfi;subst hfi;rfl
theorem top_refd(h:Nm l U)(hc:chk l U=0){y:Nat}(hy:y<U.length)(q:∀c,c<U.length->le U c y=true):dA.f l=some (y:Int):=by
 obtain⟨hm,hO,_⟩:=gi hc
 have hp:=hm.pos
 obtain⟨r,h1,hr,hb⟩:=m4 h hc U.length 0 0 (by omega) (by omega) (fun c hc=>by omega)
 rw[show ((0:Nat):Int)=0 from rfl] at h1
 unfold dA.f
 rw[h1,pj hO hr hy hb q];rfl
end
section
variable{l:az} {U:List Nat}
theorem J_is(hc:chk l U=0):∃J:Nat->Nat->Nat,∀a b,a<U.length->b<U.length->jn U a b=(J a b:Int)/\J a b<U.length/\∀c,c<U.length->(le U (J a b) c=true↔le U a c=true/\le U b c=true):=by
 obtain⟨hm,hO,hj⟩:=gi hc
 refine⟨fun a b=>(jn U a b).toNat,fun a b ha hb=>?_⟩
 obtain⟨k,hk,hp,e⟩:=jW (hj a b ha hb).1
 have e':jn U a b=(k:Int):=e
 have:(jn U a b).toNat=k:=by omega
 simp only[this]
 unfold lub at hp
 exact⟨e',hk,of_decide_eq_true hp⟩
theorem M_is(hc:chk l U=0):∃M:Nat->Nat->Nat,∀a b,a<U.length->b<U.length->mt U a b=(M a b:Int)/\M a b<U.length/\∀c,c<U.length->(le U c (M a b)=true↔le U c a=true/\le U c b=true):=by
 obtain⟨hm,hO,hj⟩:=gi hc
 refine⟨fun a b=>(mt U a b).toNat,fun a b ha hb=>?_⟩
 obtain⟨k,hk,hp,e⟩:=jW (hj a b ha hb).2
 have e':mt U a b=(k:Int):=e
 have:(mt U a b).toNat=k:=by omega
 simp only[this]
 unfold glb at hp
 exact⟨e',hk,of_decide_eq_true hp⟩
end
end
section
theorem wrapZ{x:Int}(h0: -9223372036854775808<=x)(h1:x<9223372036854775808):IntKind.i64.wrap x=x:=by
 show (if (true&&decide (x%18446744073709551616>=9223372036854775808))=true then x%18446744073709551616-18446744073709551616 else x%18446744073709551616)=x
 simp only[Bool.true_and,decide_eq_true_eq]
 split<;>omega
theorem w1{n:Nat}(h:n<=100000):IntKind.i64.wrap ((n:Int)-1)=(n:Int)-1:=wrapZ (by omega) (by omega)
theorem w2{n:Nat}(h:n<=100000):IntKind.i64.wrap ((n:Int)-2)=(n:Int)-2:=wrapZ (by omega) (by omega)
theorem wS{n:Nat}(h:n<=100000):IntKind.i64.wrap ((n:Int)+1)=((n+1:Nat):Int):=by rw[wrapZ (by omega) (by omega)];rfl
theorem kc{α:Type} {l:List α} {x:α}:lAt (l++[x]) (((l++[x]).length:Int)-1)=some x:=by
 have:(((l++[x]).length:Int)-1)=((l.length:Nat):Int):=by simp
 rw[this,bo (by simp)];simp
theorem kG{α:Type} {l:List α} {x y:α}:lAt (l++[y]++[x]) (((l++[y]++[x]).length:Int)-2)=some y:=by
 have:(((l++[y]++[x]).length:Int)-2)=((l.length:Nat):Int):=by simp
 rw[this,bo (by simp)];simp
def pop(a b:Bool):List Bool->Option (List Bool)
 |x::y::r=>if x=a/\y=a then some (b::r) else none
 |_=>none
def st(op:Int)(S:List Bool):Option (List Bool):=
 if op=1\/op=2 then some (false::S) else if op=6\/op=7\/op=8\/op=9\/op=10\/op=11 then some (true::S)
 else if op=3\/op=4 then pop false false S else if op=5 then pop true false S else if op=12\/op=13 then pop true true S else none
def run:List Int->List Bool->Option (List Bool)
 |[],S=>some S
 |op::r,S=>(st op S).bind (run r)
theorem take_eq{a:Bool}:∀{S:List Bool},S.length<=1000->eR.f a S.reverse=some (match S with|x::y::r=>if x=a/\y=a then (r.reverse,true) else (S.reverse,false)|_=>(S.reverse,false))
 |[],h=>by unfold eR.f;simp[show IntKind.i64.wrap (-1)<1 by decide]
 |[x],h=>by unfold eR.f;simp[show IntKind.i64.wrap 0<1 by decide]
 |x::y::r,h=>by
  have hl:(x::y::r).reverse=r.reverse++[y]++[x]:=by simp
  have hlen:(r.reverse++[y]++[x]).length=r.length+2:=by simp
  have hr:r.length+2<=1000:=h
  rw[hl]
  unfold eR.f
  have e1:=kc (l:=r.reverse++[y]) (x:=x)
  have e2:=kG (l:=r.reverse) (x:=x) (y:=y)
  rw[w1 (by omega)]
  have e3:IntKind.i64.wrap ((((r.reverse++[y]++[x]).length:Nat):Int)-1-1)=(((r.reverse++[y]++[x]).length:Nat):Int)-2:=by rw[wrapZ (by omega) (by omega)];omega
  rw[e3,e1,e2,if_neg (by rw[hlen];omega)]
  have e4:(r.reverse++[y]++[x]).take ((((r.reverse++[y]++[x]).length:Nat):Int)-2).toNat=r.reverse:=by
   rw[hlen,show ((((r.length+2:Nat):Int)-2).toNat)=r.reverse.length by simp,List.append_assoc,List.take_left]
  rw[e4]
  have hb:(0:Int)<=(((r.reverse++[y]++[x]).length:Nat):Int)-2/\(((r.reverse++[y]++[x]).length:Nat):Int)-2<=(((r.reverse++[y]++[x]).length:Nat):Int):=by rw[hlen];omega
  simp only[if_pos hb,Option.bind_eq_bind,Option.bind_some]
  by_cases h1:x=a<;>by_cases h2:y=a<;>simp[h1,h2]
theorem cases13(op:Int):op=1\/op=2\/op=3\/op=4\/op=5\/op=6\/op=7\/op=8\/op=9\/op=10\/op=11\/op=12\/op=13\/¬(1<=op/\op<=13):=by omega
theorem made_step{l:List Int} {S:List Bool} {k:Nat}(hk:k<l.length)(hl:l.length<=900)(hS:S.length<=k):
    eF.l0 l S.reverse (k:Int)=(match st l[k] S with|some S'=>eF.l0 l S'.reverse ((k+1:Nat):Int)|none=>some (.inl (false,false))):=by
  rw[eF.l0,if_pos (by omega),bo hk,wS (by omega)]
  generalize l[k]=op
  have hB:2000<=big:=by decide
  have hb1:S.length+1<=big:=by omega
  simp only[Option.bind_eq_bind,Option.bind_some]
  rcases cases13 op with rfl|rfl|rfl|rfl|rfl|rfl|rfl|rfl|rfl|rfl|rfl|rfl|rfl|h
  case inr.inr.inr.inr.inr.inr.inr.inr.inr.inr.inr.inr.inr=>
    have e:∀n:Int,1<=n->n<=13->¬op=n:=fun n h1 h2 e=>h (by omega)
    simp[st,e 1,e 2,e 3,e 4,e 5,e 6,e 7,e 8,e 9,e 10,e 11,e 12,e 13]
  all_goals first
    |(simp[st,hb1];done)
    | (rw [take_eq (a := false) (S := S) (by omega), take_eq (a := true) (S := S) (by omega)]
       match S,hS with
       |[],_=>simp[st,pop,show 1<=big by omega]
       |[x],_=>simp[st,pop,show 1+1<=big by omega]
       |x::y::r,hS=>
         simp only[List.length_cons] at hS hb1
         have h1:r.length+1<=big:=by omega
         have h2:r.length+1+1+1<=big:=by omega
         cases x<;>cases y<;>simp[st,pop,h1,h2])
theorem st_len{op:Int} {S S':List Bool}(h:st op S=some S'):S'.length<=S.length+1:=by
 have hp:∀{a b:Bool},pop a b S=some S'->S'.length<=S.length+1:=by
  intro a b h
  match S,h with
  |[],h=>simp[pop] at h
  |[x],h=>simp[pop] at h
  |x::y::r,h=>
   by_cases q:x=a/\y=a
   ·simp[pop,q] at h;subst h;simp
   ·simp[pop,q] at h
 unfold st at h
 split at h
 ·cases h;simp
 ·split at h
  ·cases h;simp
  ·split at h
   ·exact hp h
   ·split at h
    ·exact hp h
    ·split at h
     ·exact hp h
     ·cases h
theorem made_l0{l:List Int}(hl:l.length<=900):∀(d k:Nat) (S:List Bool),l.length=k+d->S.length<=k->
  eF.l0 l S.reverse (k:Int)=some (match run (l.drop k) S with|some S'=>.inr S'.reverse|none=>.inl (false,false))
 |0,k,S,e,hS=>by
  rw[eF.l0,if_neg (by omega),List.drop_of_length_le (by omega)];rfl
 |d+1,k,S,e,hS=>by
  have hk:k<l.length:=by omega
  rw[made_step hk hl hS,List.drop_eq_getElem_cons hk]
  unfold run
  cases h:st l[k] S with
  |none=>rfl
  |some S'=>exact made_l0 hl d (k+1) S' (by omega) (by have:=st_len h;omega)
def right(l:List Int):Option Bool:=match run l [] with
 |some [b]=>if l.length>40 then none else some b
 |_=>none
theorem made_eq{l:List Int}(hl:l.length<=900):eF.f l=some (match right l with|some b=>(b,true)|none=>(false,false)):=by
 unfold eF.f right
 have:=made_l0 hl l.length 0 [] (by omega) (by simp)
 rw[show ((0:Nat):Int)=0 from rfl,List.reverse_nil] at this
 rw[this,List.drop_zero]
 match run l [] with
 |none=>rfl
 |some []=>rfl
 |some [b]=>
  by_cases h:l.length>40
  ·have h':(l.length:Int)>40:=by omega
   simp[h,h']
  ·have h':¬(l.length:Int)>40:=by omega
   simp[h,h',lAt]
 |some (x::y::r)=>
  have:¬(((x::y::r).reverse.length:Nat):Int)=1:=by simp;omega
  simp only[Option.bind_eq_bind,Option.bind_some,if_neg this]
  rfl
theorem km{l:List Int} {b:Bool}(hl:l.length<=900):eP.f l b=some (decide (right l=some b)):=by
 unfold eP.f
 rw[made_eq hl]
 cases right l with
 |none=>simp
 |some c=>cases b<;>cases c<;>simp
end
section
def code(b:Bool):Int:=if b then 2 else 1
def pil(S:List Bool):List Int:=(S.map code).reverse
theorem gA{S:List Bool}:(pil S).length=S.length:=by simp[pil]
theorem two_eq{c:Int}:∀{S:List Bool},S.length<=1000->dc.f (pil S) c=some (match S with|x::y::r=>decide (code x=c)&&decide (code y=c)|_=>false)
 |[],h=>by unfold dc.f;simp[pil]
 |[x],h=>by unfold dc.f;simp[pil]
 |x::y::r,h=>by
  have hl:pil (x::y::r)=pil r++[code y]++[code x]:=by simp[pil]
  have hlen:(pil r++[code y]++[code x]).length=r.length+2:=by simp[gA]
  have hr:r.length+2<=1000:=h
  rw[hl]
  unfold dc.f
  have e1:=kc (l:=pil r++[code y]) (x:=code x)
  have e2:=kG (l:=pil r) (x:=code x) (y:=code y)
  rw[w1 (by omega),w2 (by omega),e1,e2,if_pos (by rw[hlen];omega)]
  by_cases h1:code x=c<;>by_cases h2:code y=c<;>simp[h1,h2]
theorem pil_take1{x y:Bool} {r:List Bool}(h:r.length<=1000):(pil (x::y::r)).take (IntKind.i64.wrap (((pil (x::y::r)).length:Int)-1)).toNat=pil (y::r):=by
 have hl:pil (x::y::r)=pil (y::r)++[code x]:=by simp[pil]
 rw[w1 (by rw[gA];simp;omega),gA,hl]
 have:((((x::y::r).length:Nat):Int)-1).toNat=(pil (y::r)).length:=by rw[gA];simp
 rw[this,List.take_left]
theorem pil_take2{x y:Bool} {r:List Bool}(h:r.length<=1000):(pil (x::y::r)).take (IntKind.i64.wrap (((pil (x::y::r)).length:Int)-2)).toNat=pil r:=by
 have hl:pil (x::y::r)=pil r++[code y,code x]:=by simp[pil]
 rw[w2 (by rw[gA];simp;omega),gA,hl]
 have:((((x::y::r).length:Nat):Int)-2).toNat=(pil r).length:=by rw[gA];simp;omega
 rw[this,List.take_left]
theorem pil_b1{x y:Bool} {r:List Bool}(h:r.length<=1000):(0<=IntKind.i64.wrap (((pil (x::y::r)).length:Int)-1)/\IntKind.i64.wrap (((pil (x::y::r)).length:Int)-1)<=((pil (x::y::r)).length:Int)):=by
 rw[w1 (by rw[gA];simp;omega),gA];simp;omega
theorem pil_b2{x y:Bool} {r:List Bool}(h:r.length<=1000):(0<=IntKind.i64.wrap (((pil (x::y::r)).length:Int)-2)/\IntKind.i64.wrap (((pil (x::y::r)).length:Int)-2)<=((pil (x::y::r)).length:Int)):=by
 rw[w2 (by rw[gA];simp;omega),gA];simp;omega
theorem nZ{l:List Int} {S:List Bool} {k:Nat}(hk:k<l.length)(hl:l.length<=900)(hS:S.length<=k):
    cJ.l0 l (pil S) (k:Int)=(match st l[k] S with|some S'=>cJ.l0 l (pil S') ((k+1:Nat):Int)|none=>some (.inl 0)):=by
  rw[cJ.l0,if_pos (by omega),bo hk,wS (by omega)]
  generalize l[k]=op
  have hB:20000<=big:=by decide
  have hb1:(S.length+1)*8<=big:=by omega
  simp only[Option.bind_eq_bind,Option.bind_some]
  have pf:∀S,pil (false::S)=pil S++[1]:=fun S=>by simp[pil,code]
  have pt:∀S,pil (true::S)=pil S++[2]:=fun S=>by simp[pil,code]
  rcases cases13 op with rfl|rfl|rfl|rfl|rfl|rfl|rfl|rfl|rfl|rfl|rfl|rfl|rfl|h
  case inr.inr.inr.inr.inr.inr.inr.inr.inr.inr.inr.inr.inr=>
    have e:∀n:Int,1<=n->n<=13->¬op=n:=fun n h1 h2 e=>h (by omega)
    have g:¬(6<=op/\op<=11):=by omega
    by_cases g1:6<=op
    · have g2:¬op<=11:=fun q=>g ⟨g1,q⟩
      simp[st,e 1,e 2,e 3,e 4,e 5,e 6,e 7,e 8,e 9,e 10,e 11,e 12,e 13,g1,g2]
    · simp[st,e 1,e 2,e 3,e 4,e 5,e 6,e 7,e 8,e 9,e 10,e 11,e 12,e 13,g1]
  all_goals first
    |(simp[st,gA,hb1,pf,pt];done)
    | (rw [two_eq (c := 1) (S := S) (by omega), two_eq (c := 2) (S := S) (by omega)]
       match S,hS with
       |[],_=>simp[st,pop]
       |[x],_=>simp[st,pop]
       |x::y::r,hS=>
         simp only[List.length_cons] at hS hb1
         have hr:r.length<=1000:=by omega
         rw[pil_take1 hr,pil_take2 hr]
         simp only[if_pos (pil_b1 (x:=x) (y:=y) hr),if_pos (pil_b2 (x:=x) (y:=y) hr)]
         have h1:(r.length+1)*8<=big:=by omega
         cases x<;>cases y<;>simp[st,pop,code,gA,h1,pf,pt])
theorem mc{l:List Int}(hl:l.length<=900):∀(d k:Nat) (S:List Bool),l.length=k+d->S.length<=k->
  cJ.l0 l (pil S) (k:Int)=some (match run (l.drop k) S with|some S'=>.inr (pil S')|none=>.inl 0)
 |0,k,S,e,hS=>by
  rw[cJ.l0,if_neg (by omega),List.drop_of_length_le (by omega)];rfl
 |d+1,k,S,e,hS=>by
  have hk:k<l.length:=by omega
  rw[nZ hk hl hS,List.drop_eq_getElem_cons hk]
  unfold run
  cases h:st l[k] S with
  |none=>rfl
  |some S'=>exact mc hl d (k+1) S' (by omega) (by have:=st_len h;omega)
theorem pk{l:List Int}(hl:l.length<=900):cJ.f l=some (match right l with|some b=>code b|none=>0):=by
 unfold cJ.f right
 have:=mc hl l.length 0 [] (by omega) (by simp)
 rw[show ((0:Nat):Int)=0 from rfl] at this
 rw[show (([]:List Int))=pil [] from rfl,this,List.drop_zero]
 match run l [] with
 |none=>rfl
 |some []=>rfl
 |some [b]=>
  by_cases h:l.length>40
  ·have h':(l.length:Int)>40:=by omega
   simp[h,h',pil]
  ·have h':¬(l.length:Int)>40:=by omega
   simp[h,h',lAt,pil]
 |some (x::y::r)=>
  have:¬(((pil (x::y::r)).length:Nat):Int)=1:=by rw[gA];simp;omega
  simp only[Option.bind_eq_bind,Option.bind_some,if_neg this]
  rfl
end
section
inductive Tr where
 |lf (op:Int)
 |nd (op:Int) (x y:Tr)
def Tr.flat:Tr->List Int
 |.lf op=>[op]
 |.nd op x y=>x.flat++y.flat++[op]
def Tr.op:Tr->Int
 |.lf op=>op
 |.nd op _ _=>op
def Tr.size:Tr->Nat
 |.lf _=>1
 |.nd _ x y=>x.size+y.size+1
theorem iE:∀t:Tr,t.flat.length=t.size
 |.lf _=>rfl
 |.nd _ x y=>by simp[Tr.flat,Tr.size,iE x,iE y];omega
def LfOp(op:Int):Prop:=op=1\/op=2\/op=6\/op=7\/op=8\/op=9\/op=10\/op=11
def NdOp(op:Int):Prop:=op=3\/op=4\/op=5\/op=12\/op=13
def flats(T:List Tr):List Int:=(T.reverse.map Tr.flat).flatten
theorem iR{t:Tr} {T:List Tr}:flats (t::T)=flats T++t.flat:=by simp[flats]
end
section
theorem bsome{α β:Type}(a:α)(f:α->Option β):(some a>>=f)=f a:=rfl
end
section
def Tr.sort:Tr->Bool
 |.lf op=>decide (op>=6)
 |.nd op _ _=>decide (op>=12)
def Tr.wf:Tr->Prop
 |.lf op=>LfOp op
 |.nd op x y=>NdOp op/\x.wf/\y.wf/\x.sort=decide (op>=5)/\y.sort=decide (op>=5)
theorem st_sort{op:Int} {S S':List Bool}(h:st op S=some S'):
  (LfOp op/\S'=decide (op>=6)::S)\/(NdOp op/\∃r,S=decide (op>=5)::decide (op>=5)::r/\S'=decide (op>=12)::r):=by
 have hp:∀{a b:Bool},pop a b S=some S'->∃r,S=a::a::r/\S'=b::r:=by
  intro a b h
  match S,h with
  |[],h=>simp[pop] at h
  |[x],h=>simp[pop] at h
  |x::y::r,h=>
   by_cases q:x=a/\y=a
   ·simp[pop,q] at h;subst h;exact⟨r,by rw[q.1,q.2],rfl⟩
   ·simp[pop,q] at h
 unfold st at h
 split at h
 ·rename_i q;cases h
  rcases q with rfl|rfl<;>exact .inl ⟨by unfold LfOp;simp,rfl⟩
 ·split at h
  ·rename_i q;cases h
   rcases q with rfl|rfl|rfl|rfl|rfl|rfl<;>exact .inl ⟨by unfold LfOp;simp,rfl⟩
  ·split at h
   ·rename_i q
    rcases q with rfl|rfl<;>exact .inr ⟨by unfold NdOp;simp,hp h⟩
   ·split at h
    ·rename_i q;subst q;exact .inr ⟨by unfold NdOp;simp,hp h⟩
    ·split at h
     ·rename_i q
      rcases q with rfl|rfl<;>exact .inr ⟨by unfold NdOp;simp,hp h⟩
     ·cases h
theorem lC:∀{l:List Int} {S S':List Bool} {T:List Tr},run l S=some S'->T.map Tr.sort=S->(∀t∈T,t.wf)->
  ∃T':List Tr,T'.map Tr.sort=S'/\(∀t∈T',t.wf)/\flats T'=flats T++l
 |[],S,S',T,h,hT,ho=>by cases h;exact⟨T,hT,ho,by simp⟩
 |op::l,S,S',T,h,hT,ho=>by
  unfold run at h
  cases hs:st op S with
  |none=>rw[hs] at h;cases h
  |some S1=>
   rw[hs] at h
   rcases st_sort hs with ⟨h1,h2⟩|⟨h1,r,e,h2⟩
   ·obtain⟨T',q1,q2,q3⟩:=lC (T:=.lf op::T) h (by rw[h2,<-hT];rfl) (fun t ht=>by
     rcases List.mem_cons.1 ht with rfl|ht
     ·exact h1
     ·exact ho t ht)
    exact⟨T',q1,q2,by rw[q3,iR];simp[Tr.flat]⟩
   ·subst hT
    match T,e,ho with
    |b::a::R,e,ho=>
     simp only[List.map_cons,List.cons.injEq] at e
     obtain⟨T',q1,q2,q3⟩:=lC (T:=.nd op a b::R) h (by rw[h2,<-e.2.2];rfl) (fun t ht=>by
      rcases List.mem_cons.1 ht with rfl|ht
      ·exact⟨h1,ho a (by simp),ho b (by simp),e.2.1,e.1⟩
      ·exact ho t (by simp[ht]))
     exact⟨T',q1,q2,by rw[q3,iR,iR,iR];simp[Tr.flat]⟩
    |[],e,_=>simp at e
    |[_],e,_=>simp at e
theorem lr{l:List Int} {b:Bool}(h:right l=some b):∃t:Tr,t.wf/\t.sort=b/\t.flat=l/\l.length<=40:=by
 unfold right at h
 cases hr:run l [] with
 |none=>rw[hr] at h;cases h
 |some S=>
  rw[hr] at h
  match S,h with
  |[],h=>cases h
  |x::y::r,h=>cases h
  |[c],h=>
   simp only at h
   by_cases hl:l.length>40
   ·rw[if_pos hl] at h;cases h
   ·rw[if_neg hl] at h
    cases h
    obtain⟨T',q1,q2,q3⟩:=lC (T:=[]) hr rfl (fun t ht=>by cases ht)
    match T',q1 with
    |[t],q1=>exact⟨t,q2 t (by simp),by simpa using q1,by rw[iR] at q3;simpa [flats] using q3,by omega⟩
structure Je(l:az)(labels:List Int) where
 n:Nat
 le:Nat->Nat->Bool
 J:Nat->Nat->Nat
 M:Nat->Nat->Nat
 bot:Nat
 top:Nat
 labs:Nat->Nat
 hbot:bot<n/\dI.f l=some ((bot:Int),0)
 htop:top<n/\fN.f l=some ((top:Int),0)
 hflows:∀a b,a<n->b<n->eE.f l (a:Int) (b:Int)=some (le a b,0)
 hjoin:∀a b,a<n->b<n->J a b<n/\fw.f l (a:Int) (b:Int)=some ((J a b:Int),0)
 hmeet:∀a b,a<n->b<n->M a b<n/\fx.f l (a:Int) (b:Int)=some ((M a b:Int),0)
 hlen:labels.length=4
 hlab:∀i:Nat,i<4->lAt labels (i:Int)=some (labs i:Int)/\labs i<n
structure JeR{l:az} {labels:List Int}(E:Je l labels):Prop where
 rbot:bU.f l=some (E.bot:Int)
 rtop:dA.f l=some (E.top:Int)
 rflows:∀a b,a<E.n->b<E.n->aP.f l (a:Int) (b:Int)=some (E.le a b)
 rjoin:∀a b,a<E.n->b<E.n->bA.f l (a:Int) (b:Int)=some (E.J a b:Int)
 rmeet:∀a b,a<E.n->b<E.n->bC.f l (a:Int) (b:Int)=some (E.M a b:Int)
section
variable{l:az} {labels:List Int}(E:Je l labels)
def ev:Tr->Bool×Nat
 |.lf op=>(decide (op=1),if op=6 then E.bot else if op=7 then E.top else E.labs (op-8).toNat)
 |.nd op x y=>(if op=3 then (ev x).1&&(ev y).1 else if op=4 then (ev x).1||(ev y).1 else E.le (ev x).2 (ev y).2,if op=12 then E.J (ev x).2 (ev y).2 else E.M (ev x).2 (ev y).2)
theorem ev_lt:∀{t:Tr},t.wf->t.sort=true->(ev E t).2<E.n
 |.lf op,h,hs=>by
  rcases h with rfl|rfl|rfl|rfl|rfl|rfl|rfl|rfl
  ·simp[Tr.sort] at hs
  ·simp[Tr.sort] at hs
  ·exact E.hbot.1
  ·exact E.htop.1
  ·exact(E.hlab 0 (by omega)).2
  ·exact(E.hlab 1 (by omega)).2
  ·exact(E.hlab 2 (by omega)).2
  ·exact(E.hlab 3 (by omega)).2
 |.nd op x y,⟨h,hx,hy,sx,sy⟩,hs=>by
  rcases h with rfl|rfl|rfl|rfl|rfl
  ·simp[Tr.sort] at hs
  ·simp[Tr.sort] at hs
  ·simp[Tr.sort] at hs
  ·exact(E.hjoin _ _ (ev_lt hx sx) (ev_lt hy sy)).1
  ·exact(E.hmeet _ _ (ev_lt hx sx) (ev_lt hy sy)).1
def val(t:Tr):If221:=if t.sort then .c227 ((ev E t).2:Int) else .c218 (ev E t).1
theorem put_eq{P:List If221} {x:If221} {lb:List Int}(h:P.length<=1000):cf.f (⟨l,lb,P⟩:bS) x=some ⟨l,lb,P++[x]⟩:=by
 unfold cf.f
 have hB:200000<=big:=by decide
 have:(P.length+([x]:List If221).length)*16<=big:=by simp;omega
 exact if_pos this
theorem two_eq'{P:List If221} {x y:If221} {lb:List Int}(h:P.length<=1000):fV.f (⟨l,lb,P++[x]++[y]⟩:bS)=some (⟨l,lb,P⟩,x,y):=by
 unfold fV.f
 have hlen:(P++[x]++[y]).length=P.length+2:=by simp
 show (lAt (P++[x]++[y]) (IntKind.i64.wrap (((P++[x]++[y]).length:Int)-2))>>=_)=_
 rw[w2 (by omega),kG,bsome]
 have e1:IntKind.i64.wrap ((((P++[x]++[y]).length:Nat):Int)-2+1)=(((P++[x]++[y]).length:Nat):Int)-1:=by rw[wrapZ (by omega) (by omega)];omega
 show (lAt (P++[x]++[y]) (IntKind.i64.wrap ((((P++[x]++[y]).length:Nat):Int)-2+1))>>=_)=_
 rw[e1,kc (l:=P++[x]) (x:=y),bsome,if_pos (show (0:Int)<=(((P++[x]++[y]).length:Nat):Int)-2/\(((P++[x]++[y]).length:Nat):Int)-2<=(((P++[x]++[y]).length:Nat):Int) from ⟨by omega,by omega⟩)]
 have e2:(P++[x]++[y]).take ((((P++[x]++[y]).length:Nat):Int)-2).toNat=P:=by
  rw[hlen,show ((((P.length+2:Nat):Int)-2).toNat)=P.length by omega,List.append_assoc,List.take_left]
 rw[e2]
theorem both_eq{op:Int} {x y:Tr} {P:List If221}(hx:x.wf)(hy:y.wf)(ho:NdOp op)(sx:x.sort=decide (op>=5))(sy:y.sort=decide (op>=5)):
  eN.f (⟨l,labels,P⟩:bS) op (val E x) (val E y)=some (⟨l,labels,P⟩,val E (.nd op x y)):=by
 unfold eN.f
 by_cases h5:op>=5
 ·rw[decide_eq_true h5] at sx sy
  have lx:=ev_lt E hx sx
  have ly:=ev_lt E hy sy
  have e1:val E x=.c227 ((ev E x).2:Int):=by unfold val;rw[sx];rfl
  have e2:val E y=.c227 ((ev E y).2:Int):=by unfold val;rw[sy];rfl
  rw[e1,e2]
  show (if false=true then _ else (if true=true then _ else _))=_
  rw[if_neg (by decide),if_pos rfl]
  rcases ho with rfl|rfl|rfl|rfl|rfl
  ·omega
  ·omega
  ·rw[if_pos rfl]
   show (eE.f l ((ev E x).2:Int) ((ev E y).2:Int)>>=_)=_
   rw[E.hflows _ _ lx ly,bsome];rfl
  ·rw[if_neg (by decide),if_pos rfl]
   show (fw.f l ((ev E x).2:Int) ((ev E y).2:Int)>>=_)=_
   rw[(E.hjoin _ _ lx ly).2,bsome];rfl
  ·rw[if_neg (by decide),if_neg (by decide)]
   show (fx.f l ((ev E x).2:Int) ((ev E y).2:Int)>>=_)=_
   rw[(E.hmeet _ _ lx ly).2,bsome];rfl
 ·rw[decide_eq_false h5] at sx sy
  have e1:val E x=.c218 (ev E x).1:=by unfold val;rw[sx];rfl
  have e2:val E y=.c218 (ev E y).1:=by unfold val;rw[sy];rfl
  rw[e1,e2]
  show (if true=true then _ else _)=_
  rw[if_pos rfl]
  show (if op=3 then ((if (ev E x).1=true then some (If221.c218 (ev E y).1) else some (If221.c218 false))>>=_) else ((if (ev E x).1=true then some (If221.c218 true) else some (If221.c218 (ev E y).1))>>=_))=_
  have hv:val E (.nd op x y)=.c218 (ev E (.nd op x y)).1:=by
   unfold val
   have:(Tr.nd op x y).sort=false:=decide_eq_false (by omega)
   rw[this];rfl
  rw[hv]
  have he:∀op',(ev E (.nd op' x y)).1=(if op'=3 then (ev E x).1&&(ev E y).1 else if op'=4 then (ev E x).1||(ev E y).1 else E.le (ev E x).2 (ev E y).2):=fun _=>rfl
  rw[he]
  rcases ho with rfl|rfl|rfl|rfl|rfl
  ·rw[if_pos rfl,if_pos rfl]
   cases (ev E x).1<;>cases (ev E y).1<;>rfl
  ·rw[if_neg (show ¬((4:Int)=3) by decide),if_neg (show ¬((4:Int)=3) by decide),if_pos rfl]
   cases (ev E x).1<;>cases (ev E y).1<;>rfl
  ·omega
  ·omega
  ·omega
end
end
section
theorem n0{l r:List Int} {s:Nat} {op:Int} {x y:Tr}(e:l.drop s=(Tr.nd op x y).flat++r):
  l.drop s=x.flat++(y.flat++([op]++r))/\l.drop (s+x.size)=y.flat++([op]++r)/\∃h:s+x.size+y.size<l.length,l[s+x.size+y.size]=op:=by
 have e1:l.drop s=x.flat++(y.flat++([op]++r)):=by rw[e];simp[Tr.flat]
 have e2:l.drop (s+x.size)=y.flat++([op]++r):=by rw[<-List.drop_drop,e1,<-iE x,List.drop_left]
 have e3:l.drop (s+x.size+y.size)=[op]++r:=by rw[<-List.drop_drop,e2,<-iE y,List.drop_left]
 have hk:s+x.size+y.size<l.length:=by
  rcases Nat.lt_or_ge (s+x.size+y.size) l.length with q|q
  ·exact q
  ·rw[List.drop_of_length_le q] at e3;simp at e3
 rw[List.drop_eq_getElem_cons hk] at e3
 simp only[List.cons_append,List.nil_append,List.cons.injEq] at e3
 exact⟨e1,e2,hk,e3.1⟩
theorem leaf_at{l r:List Int} {s:Nat} {op:Int}(e:l.drop s=(Tr.lf op).flat++r):∃h:s<l.length,l[s]=op:=by
 have hs:s<l.length:=by
  rcases Nat.lt_or_ge s l.length with q|q
  ·exact q
  ·rw[List.drop_of_length_le q] at e;simp[Tr.flat] at e
 rw[List.drop_eq_getElem_cons hs] at e
 simp only[Tr.flat,List.cons_append,List.nil_append,List.cons.injEq] at e
 exact⟨hs,e.1⟩
theorem lD:∀t:Tr,1<=t.size
 |.lf _=>by simp[Tr.size]
 |.nd _ _ _=>by simp[Tr.size]
section
variable{l:az} {labels:List Int}(E:Je l labels)
theorem comes_lf{rule:List Int} {op:Int} {k:Nat} {P:List If221}(hk:k<rule.length)(hop:rule[k]=op)(ho:LfOp op)(hl:rule.length<=900)(hP:P.length<=900):
  bJ.l0 rule l.Names l.Up labels P (k:Int)=bJ.l0 rule l.Names l.Up labels (P++[val E (.lf op)]) ((k+1:Nat):Int):=by
 have hput:∀x,cf.f (⟨⟨l.Names,l.Up⟩,labels,P⟩:bS) x=some ⟨⟨l.Names,l.Up⟩,labels,P++[x]⟩:=fun x=>put_eq (by omega)
 have l0:=(E.hlab 0 (by omega)).1
 have l1:=(E.hlab 1 (by omega)).1
 have l2:=(E.hlab 2 (by omega)).1
 have l3:=(E.hlab 3 (by omega)).1
 have z0:IntKind.i64.wrap ((8:Int)-8)=((0:Nat):Int):=by decide
 have z1:IntKind.i64.wrap ((9:Int)-8)=((1:Nat):Int):=by decide
 have z2:IntKind.i64.wrap ((10:Int)-8)=((2:Nat):Int):=by decide
 have z3:IntKind.i64.wrap ((11:Int)-8)=((3:Nat):Int):=by decide
 rw[bJ.l0,if_pos (by omega),bo hk,hop,wS (by omega),bsome]
 rcases ho with rfl|rfl|rfl|rfl|rfl|rfl|rfl|rfl
 ·rw[if_pos rfl,hput];rfl
 ·rw[if_neg (show ¬((2:Int)=1) by decide),if_pos rfl,hput];rfl
 ·rw[if_neg (show ¬((6:Int)=1) by decide),if_neg (show ¬((6:Int)=2) by decide),if_pos rfl,show dI.f (⟨l.Names,l.Up⟩:az)=_ from E.hbot.2,bsome,hput];rfl
 ·rw[if_neg (show ¬((7:Int)=1) by decide),if_neg (show ¬((7:Int)=2) by decide),if_neg (show ¬((7:Int)=6) by decide),if_pos rfl,show fN.f (⟨l.Names,l.Up⟩:az)=_ from E.htop.2,bsome,hput];rfl
 ·rw[if_neg (show ¬((8:Int)=1) by decide),if_neg (show ¬((8:Int)=2) by decide),if_neg (show ¬((8:Int)=6) by decide),if_neg (show ¬((8:Int)=7) by decide),if_pos rfl,z0,l0,bsome,hput];rfl
 ·rw[if_neg (show ¬((9:Int)=1) by decide),if_neg (show ¬((9:Int)=2) by decide),if_neg (show ¬((9:Int)=6) by decide),if_neg (show ¬((9:Int)=7) by decide),if_neg (show ¬((9:Int)=8) by decide),if_pos rfl,z1,l1,bsome,hput];rfl
 ·rw[if_neg (show ¬((10:Int)=1) by decide),if_neg (show ¬((10:Int)=2) by decide),if_neg (show ¬((10:Int)=6) by decide),if_neg (show ¬((10:Int)=7) by decide),if_neg (show ¬((10:Int)=8) by decide),if_neg (show ¬((10:Int)=9) by decide),if_pos rfl,z2,l2,bsome,hput];rfl
 ·rw[if_neg (show ¬((11:Int)=1) by decide),if_neg (show ¬((11:Int)=2) by decide),if_neg (show ¬((11:Int)=6) by decide),if_neg (show ¬((11:Int)=7) by decide),if_neg (show ¬((11:Int)=8) by decide),if_neg (show ¬((11:Int)=9) by decide),if_neg (show ¬((11:Int)=10) by decide),if_pos rfl,z3,l3,bsome,hput];rfl
theorem comes_nd{rule:List Int} {op:Int} {x y:Tr} {k:Nat} {P:List If221}(hk:k<rule.length)(hop:rule[k]=op)(h:(Tr.nd op x y).wf)(hl:rule.length<=900)(hP:P.length<=900):
  bJ.l0 rule l.Names l.Up labels (P++[val E x]++[val E y]) (k:Int)=bJ.l0 rule l.Names l.Up labels (P++[val E (.nd op x y)]) ((k+1:Nat):Int):=by
 obtain⟨ho,hx,hy,sx,sy⟩:=h
 have hput:∀x,cf.f (⟨⟨l.Names,l.Up⟩,labels,P⟩:bS) x=some ⟨⟨l.Names,l.Up⟩,labels,P++[x]⟩:=fun x=>put_eq (by omega)
 have h2:fV.f (⟨⟨l.Names,l.Up⟩,labels,P++[val E x]++[val E y]⟩:bS)=some (⟨⟨l.Names,l.Up⟩,labels,P⟩,val E x,val E y):=two_eq' (by omega)
 have h3:eN.f (⟨l,labels,P⟩:bS) op (val E x) (val E y)=some (⟨l,labels,P⟩,val E (.nd op x y)):=both_eq E hx hy ho sx sy
 have n:∀q:Int,q=1\/q=2\/q=6\/q=7\/q=8\/q=9\/q=10\/q=11->¬op=q:=by
  intro q hq
  rcases ho with rfl|rfl|rfl|rfl|rfl<;>omega
 rw[bJ.l0,if_pos (by omega),bo hk,hop,wS (by omega),bsome]
 rw[if_neg (n 1 (by simp)),if_neg (n 2 (by simp)),if_neg (n 6 (by simp)),if_neg (n 7 (by simp)),if_neg (n 8 (by simp)),if_neg (n 9 (by simp)),if_neg (n 10 (by simp)),if_neg (n 11 (by simp)),h2,bsome]
 show ((((eN.f (⟨l,labels,P⟩:bS) op (val E x) (val E y)>>=_)>>=_)>>=_)=_)
 rw[h3,bsome]
 show ((((cf.f (⟨⟨l.Names,l.Up⟩,labels,P⟩:bS) (val E (.nd op x y))>>=_)>>=_)>>=_)=_)
 rw[hput];rfl
theorem lE{rule:List Int}(hl:rule.length<=900):∀(t:Tr),t.wf->∀(P:List If221) (k:Nat) (r:List Int),rule.drop k=t.flat++r->P.length<=k->
  bJ.l0 rule l.Names l.Up labels P (k:Int)=bJ.l0 rule l.Names l.Up labels (P++[val E t]) ((k+t.size:Nat):Int)
 |.lf op,ho,P,k,r,e,hP=>by
  obtain⟨hk,hop⟩:=leaf_at e
  exact comes_lf E hk hop ho hl (by omega)
 |.nd op x y,ho,P,k,r,e,hP=>by
  obtain⟨e1,e2,hk,hop⟩:=n0 e
  have px:=lD x
  rw[lE hl x ho.2.1 P k _ e1 hP,lE hl y ho.2.2.1 (P++[val E x]) (k+x.size) _ e2 (by simp;omega),comes_nd E hk hop ho hl (by omega)]
  have e4:k+x.size+y.size+1=k+(Tr.nd op x y).size:=by show _=k+(x.size+y.size+1);omega
  rw[e4]
theorem n1{t:Tr}(ho:t.wf)(hl:t.flat.length<=900):bJ.f (⟨l,labels,[]⟩:bS) t.flat=some (⟨l,labels,[val E t]⟩,val E t):=by
 unfold bJ.f
 have h:=lE E hl t ho [] 0 [] (by simp) (by simp)
 rw[show ((0:Nat):Int)=0 from rfl] at h
 show (bJ.l0 t.flat l.Names l.Up labels [] 0>>=_)=_
 rw[h,show 0+t.size=t.flat.length by rw[iE];omega,bJ.l0,if_neg (by omega),bsome]
 rfl
def vis(t:Tr):Bool:=if t.sort then false else (ev E t).1
def via(t:Tr):Int:=if t.sort then ((ev E t).2:Int) else 0
theorem thing(R:JeR E){rule:List Int}(hl:rule.length<=900):∀(t:Tr),t.wf->∀(n s:Nat) (r:List Int),t.size<=n->rule.drop s=t.flat++r->
  bO.F n l rule labels (((s+t.size:Nat):Int)-1)=some ⟨vis E t,via E t,(s:Int)⟩
 |t,_,0,_,_,hn,_=>by have:=lD t;omega
 |.lf op,ho,n+1,s,r,hn,e=>by
  obtain⟨hs,hop⟩:=leaf_at e
  have hi:(((s+(Tr.lf op).size:Nat):Int)-1)=((s:Nat):Int):=by show ((s+1:Nat):Int)-1=_;omega
  have l0:=(E.hlab 0 (by omega)).1
  have l1:=(E.hlab 1 (by omega)).1
  have l2:=(E.hlab 2 (by omega)).1
  have l3:=(E.hlab 3 (by omega)).1
  have z0:IntKind.i64.wrap ((8:Int)-8)=((0:Nat):Int):=by decide
  have z1:IntKind.i64.wrap ((9:Int)-8)=((1:Nat):Int):=by decide
  have z2:IntKind.i64.wrap ((10:Int)-8)=((2:Nat):Int):=by decide
  have z3:IntKind.i64.wrap ((11:Int)-8)=((3:Nat):Int):=by decide
  show bO.B (bO.F n) l rule labels _=_
  unfold bO.B
  rw[hi,bo hs,hop,bsome]
  rcases ho with rfl|rfl|rfl|rfl|rfl|rfl|rfl|rfl
  ·rfl
  ·rfl
  ·rw[if_neg (show ¬((6:Int)<=2) by decide),if_pos rfl,R.rbot];rfl
  ·rw[if_neg (show ¬((7:Int)<=2) by decide),if_neg (show ¬((7:Int)=6) by decide),if_pos rfl,R.rtop];rfl
  ·rw[if_neg (show ¬((8:Int)<=2) by decide),if_neg (show ¬((8:Int)=6) by decide),if_neg (show ¬((8:Int)=7) by decide),z0,l0];rfl
  ·rw[if_neg (show ¬((9:Int)<=2) by decide),if_neg (show ¬((9:Int)=6) by decide),if_neg (show ¬((9:Int)=7) by decide),z1,l1];rfl
  ·rw[if_neg (show ¬((10:Int)<=2) by decide),if_neg (show ¬((10:Int)=6) by decide),if_neg (show ¬((10:Int)=7) by decide),z2,l2];rfl
  ·rw[if_neg (show ¬((11:Int)<=2) by decide),if_neg (show ¬((11:Int)=6) by decide),if_neg (show ¬((11:Int)=7) by decide),z3,l3];rfl
 |.nd op x y,h,n+1,s,r,hn,e=>by
  obtain⟨ho,hx,hy,sx,sy⟩:=h
  obtain⟨e1,e2,hk,hop⟩:=n0 e
  have hsz:x.size+y.size+1<=n+1:=hn
  have hi:(((s+(Tr.nd op x y).size:Nat):Int)-1)=((s+x.size+y.size:Nat):Int):=by show ((s+(x.size+y.size+1):Nat):Int)-1=_;omega
  have hw2:IntKind.i64.wrap (((s+x.size+y.size:Nat):Int)-1)=((s+x.size+y.size:Nat):Int)-1:=wrapZ (by omega) (by omega)
  have hw3:IntKind.i64.wrap (((s+x.size:Nat):Int)-1)=((s+x.size:Nat):Int)-1:=wrapZ (by omega) (by omega)
  have hY:=thing R hl y hy n (s+x.size) _ (by omega) e2
  have hX:=thing R hl x hx n s _ (by omega) e1
  have n8:((if op>=8 then (some (decide (op<=11))) else (some false):Option Bool))=some false:=by
   rcases ho with rfl|rfl|rfl|rfl|rfl<;>rfl
  have n2:¬op<=2:=by rcases ho with rfl|rfl|rfl|rfl|rfl<;>decide
  have n6:¬op=6:=by rcases ho with rfl|rfl|rfl|rfl|rfl<;>decide
  have n7:¬op=7:=by rcases ho with rfl|rfl|rfl|rfl|rfl<;>decide
  show bO.B (bO.F n) l rule labels _=_
  unfold bO.B
  rw[hi,bo hk,hop,bsome,if_neg n2,if_neg n6,if_neg n7,n8,bsome,if_neg (show ¬(false=true) by decide),hw2,hY,bsome]
  show (bO.F n l rule labels (IntKind.i64.wrap (((s+x.size:Nat):Int)-1))>>=_)=_
  rw[hw3,hX,bsome]
  by_cases h5:op>=5
  ·rw[decide_eq_true h5] at sx sy
   have lx:=ev_lt E hx sx
   have ly:=ev_lt E hy sy
   have ax:via E x=((ev E x).2:Int):=by unfold via;rw[sx];rfl
   have ay:via E y=((ev E y).2:Int):=by unfold via;rw[sy];rfl
   rw[ax,ay]
   rcases ho with rfl|rfl|rfl|rfl|rfl
   ·omega
   ·omega
   ·rw[if_neg (show ¬((5:Int)=3) by decide),if_neg (show ¬((5:Int)=4) by decide),if_pos rfl]
    show ((aP.f l ((ev E x).2:Int) ((ev E y).2:Int)>>=_)>>=_)=_
    rw[R.rflows _ _ lx ly];rfl
   ·rw[if_neg (show ¬((12:Int)=3) by decide),if_neg (show ¬((12:Int)=4) by decide),if_neg (show ¬((12:Int)=5) by decide),if_pos rfl]
    show ((bA.f l ((ev E x).2:Int) ((ev E y).2:Int)>>=_)>>=_)=_
    rw[R.rjoin _ _ lx ly];rfl
   ·rw[if_neg (show ¬((13:Int)=3) by decide),if_neg (show ¬((13:Int)=4) by decide),if_neg (show ¬((13:Int)=5) by decide),if_neg (show ¬((13:Int)=12) by decide),if_pos rfl]
    show ((bC.f l ((ev E x).2:Int) ((ev E y).2:Int)>>=_)>>=_)=_
    rw[R.rmeet _ _ lx ly];rfl
  ·rw[decide_eq_false h5] at sx sy
   have ax:vis E x=(ev E x).1:=by unfold vis;rw[sx];rfl
   have ay:vis E y=(ev E y).1:=by unfold vis;rw[sy];rfl
   rw[ax,ay]
   have hv:vis E (.nd op x y)=(ev E (.nd op x y)).1:=by
    unfold vis
    have:(Tr.nd op x y).sort=false:=decide_eq_false (by omega)
    rw[this];rfl
   have ha:via E (.nd op x y)=0:=by
    unfold via
    have:(Tr.nd op x y).sort=false:=decide_eq_false (by omega)
    rw[this];rfl
   rw[hv,ha]
   have he:∀op',(ev E (.nd op' x y)).1=(if op'=3 then (ev E x).1&&(ev E y).1 else if op'=4 then (ev E x).1||(ev E y).1 else E.le (ev E x).2 (ev E y).2):=fun _=>rfl
   rw[he]
   rcases ho with rfl|rfl|rfl|rfl|rfl
   ·rw[if_pos rfl,if_pos rfl]
    show (((if (ev E x).1=true then some (ev E y).1 else some false)>>=_)>>=_)=_
    cases (ev E x).1<;>cases (ev E y).1<;>rfl
   ·rw[if_neg (show ¬((4:Int)=3) by decide),if_pos rfl,if_neg (show ¬((4:Int)=3) by decide),if_pos rfl]
    show (((if (ev E x).1=true then some true else some (ev E y).1)>>=_)>>=_)=_
    cases (ev E x).1<;>cases (ev E y).1<;>rfl
   ·omega
   ·omega
   ·omega
theorem mX(R:JeR E){t:Tr}(ho:t.wf)(hl:t.flat.length<=900):cu.f l t.flat labels=some ⟨vis E t,via E t,0⟩:=by
 have h:=thing E R hl t ho 1000 0 [] (by rw[<-iE];omega) (by simp)
 have hp:=lD t
 unfold cu.f bO.f
 have e:(((0+t.size:Nat):Int)-1)=((t.size:Nat):Int)-1:=by omega
 rw[e] at h
 rw[w1 (by omega),iE,h,bsome];rfl
end
end
section
open Classical
theorem je_of{l:az} {U:List Nat}(h:Nm l U)(hc:chk l U=0){labels:List Int}(h4:labels.length=4)(ha:labels.all (inn U.length)=true):
  ∃E:Je l labels,E.n=U.length/\E.le=le U/\(∀a b,a<U.length->b<U.length->jn U a b=(E.J a b:Int))/\(∀a b,a<U.length->b<U.length->mt U a b=(E.M a b:Int))/\
   (∀c,c<U.length->le U E.bot c=true)/\(∀c,c<U.length->le U c E.top=true)/\
   (∀a b,a<U.length->b<U.length->∀c,c<U.length->(le U (E.J a b) c=true↔le U a c=true/\le U b c=true))/\
   (∀a b,a<U.length->b<U.length->∀c,c<U.length->(le U c (E.M a b)=true↔le U c a=true/\le U c b=true)):=by
 obtain⟨hm,hO,_⟩:=gi hc
 obtain⟨J,hJ⟩:=J_is hc
 obtain⟨M,hM⟩:=M_is hc
 obtain⟨b,⟨b1,b3⟩,b2⟩:=lu h hc
 obtain⟨t,⟨t1,t3⟩,t2⟩:=top_prog h hc
 have hl:∀i:Nat,i<4->∃k:Nat,lAt labels (i:Int)=some (k:Int)/\k<U.length:=by
  intro i hi
  have hi':i<labels.length:=by omega
  obtain⟨k,e,hk⟩:=jp (List.all_eq_true.1 ha _ (List.getElem_mem hi'))
  exact⟨k,by rw[bo hi',e],hk⟩
 refine⟨⟨U.length,le U,J,M,b,t,fun i=>if hi:i<4 then (hl i hi).choose else 0,⟨b1,b2⟩,⟨t1,t2⟩,fun x y hx hy=>(yes2 h hc hx hy).1,fun x y hx hy=>?_,fun x y hx hy=>?_,h4,fun i hi=>?_⟩,rfl,rfl,fun x y hx hy=>(hJ x y hx hy).1,fun x y hx hy=>(hM x y hx hy).1,b3,t3,fun x y hx hy=>(hJ x y hx hy).2.2,fun x y hx hy=>(hM x y hx hy).2.2⟩
 ·obtain⟨e1,e2,e3⟩:=yes2 h hc hx hy
  rw[(hJ x y hx hy).1] at e2
  exact⟨(hJ x y hx hy).2.1,e2⟩
 ·obtain⟨e1,e2,e3⟩:=yes2 h hc hx hy
  rw[(hM x y hx hy).1] at e3
  exact⟨(hM x y hx hy).2.1,e3⟩
 ·have:=(hl i hi).choose_spec
  simp only[hi,dif_pos]
  exact this
theorem je_ref{l:az} {U:List Nat}(h:Nm l U)(hc:chk l U=0){labels:List Int} {E:Je l labels}(hn:E.n=U.length)(hle:E.le=le U)(hJ:∀a b,a<U.length->b<U.length->jn U a b=(E.J a b:Int))(hM:∀a b,a<U.length->b<U.length->mt U a b=(E.M a b:Int))
  (hb:∀c,c<U.length->le U E.bot c=true) (ht:∀c,c<U.length->le U c E.top=true):JeR E:=by
 have b1:=E.hbot.1
 have t1:=E.htop.1
 rw[hn] at b1 t1
 refine⟨bot_refd h hc b1 hb,top_refd h hc t1 ht,fun x y hx hy=>?_,fun x y hx hy=>?_,fun x y hx hy=>?_⟩
 ·rw[hn] at hx hy;rw[hle];exact(yes2r h hc hx hy).1
 ·rw[hn] at hx hy;rw[<-hJ x y hx hy];exact(yes2r h hc hx hy).2.1
 ·rw[hn] at hx hy;rw[<-hM x y hx hy];exact(yes2r h hc hx hy).2.2
def okL(n:Nat)(labels:List Int):Bool:=decide (labels.length=4)&&labels.all (inn n)
noncomputable def mayS(l:az)(U:List Nat)(r:List Int)(labels:List Int)(b:Bool):Int:=
 if chk l U=0 then (if right r=some b then (if okL U.length labels=true then 0 else 9) else 1) else chk l U
theorem odd_eq{l:az} {U:List Nat}(h:Nm l U)(x:Int):gy.f x l=some (!inn U.length x):=by
 unfold gy.f inn
 rw[h.n]
 by_cases h1:x<0
 ·have h1':¬0<=x:=by omega
  simp[h1,h1']
 ·have h1':0<=x:=by omega
  by_cases h2:x<(U.length:Int)
  ·have h2':¬x>=(U.length:Int):=by omega
   simp[h1,h1',h2,h2']
  ·have h2':x>=(U.length:Int):=by omega
   simp[h1,h1',h2,h2']
theorem md{l:az} {U:List Nat}(h:Nm l U){r labels:List Int} {b:Bool}(hr:r.length<=900)(hl:labels.length<=900):gk.f l r labels b=some (mayS l U r labels b):=by
 unfold gk.f mayS
 rw[iT h,bsome,km hr]
 by_cases hc:chk l U=0
 ·rw[if_pos hc,if_pos hc,bsome]
  by_cases hq:right r=some b
  ·rw[decide_eq_true hq,if_neg (by decide),if_pos hq]
   rw[jA (g:=fun z0=>gy.f z0 l) (p:=fun a=> !inn U.length a) (odd_eq h) (by omega)]
   have:labels.any (fun a=> !inn U.length a)= !labels.all (inn U.length):=by rw[List.not_all_eq_any_not]
   rw[this]
   unfold okL
   by_cases h4:labels.length=4
   ·have h4':(labels.length:Int)=4:=by omega
    rw[if_pos h4',bsome,bsome,decide_eq_true h4]
    cases labels.all (inn U.length)<;>rfl
   ·have h4':¬(labels.length:Int)=4:=by omega
    rw[if_neg h4',bsome,decide_eq_false h4];rfl
  ·rw[decide_eq_false hq,if_pos (show (!false)=true from rfl),if_neg hq]
 ·rw[if_neg hc,if_neg hc]
theorem jS{r:List Int} {b:Bool}(hr:r.length<=900):dr.f r b=some (decide (right r=some b)):=by
 unfold dr.f
 rw[pk hr]
 cases b<;>cases hq:right r with
 |none=>rfl
 |some c=>cases c<;>rfl
theorem mU{l:az} {U:List Nat} {r labels:List Int} {b:Bool}(h:mayS l U r labels b=0):chk l U=0/\right r=some b/\labels.length=4/\labels.all (inn U.length)=true:=by
 unfold mayS at h
 by_cases hc:chk l U=0
 ·rw[if_pos hc] at h
  by_cases hq:right r=some b
  ·rw[if_pos hq] at h
   by_cases ho:okL U.length labels=true
   ·unfold okL at ho
    rw[Bool.and_eq_true,decide_eq_true_iff] at ho
    exact⟨hc,hq,ho.1,ho.2⟩
   ·rw[if_neg ho] at h;cases h
  ·rw[if_neg hq] at h;cases h
 ·rw[if_neg hc] at h;exact absurd h hc
theorem cond_no{l:az} {U:List Nat}(h:Nm l U){r labels:List Int}(hr:r.length<=900)(hl:labels.length<=900)(hm:mayS l U r labels false≠0):fb.f l r labels=some (false,mayS l U r labels false):=by
 unfold fb.f
 rw[md h hr hl,bsome,if_neg hm]
theorem label_no{l:az} {U:List Nat}(h:Nm l U){r labels:List Int}(hr:r.length<=900)(hl:labels.length<=900)(hm:mayS l U r labels true≠0):dJ.f l r labels=some (0,mayS l U r labels true):=by
 unfold dJ.f
 rw[md h hr hl,bsome,if_neg hm]
end
section
open Classical
def names(r:List Int)(j:Nat):Bool:=r.any fun op=>decide (op=8+(j:Int))
theorem or_bit{v x:Nat}(hv:v<16)(hx:x<4):bOr .u32 (v:Int) (bShl .u32 1 (x:Int))=((v|||1<<<x:Nat):Int)/\v|||1<<<x<16:=by
 have h1:bShl .u32 1 (x:Int)=((1<<<x:Nat):Int):=nY (x:=1) (by omega) (by omega)
 have h2:1<<<x<16:=by
  have:x=0\/x=1\/x=2\/x=3:=by omega
  rcases this with rfl|rfl|rfl|rfl<;>decide
 rw[h1,bOr_nat (by omega) (by omega)]
 exact⟨rfl,Nat.or_lt_two_pow (n:=4) hv h2⟩
theorem mz{r:List Int}(hr:r.length<=900):∀(d k v:Nat),r.length=k+d->v<16->∃u:Nat,eO.l0 r (k:Int) (v:Int)=some (u:Int)/\u<16/\∀j,j<4->u.testBit j=(v.testBit j||names (r.drop k) j)
 |0,k,v,e,hv=>⟨v,by rw[eO.l0,if_neg (by omega)],hv,fun j hj=>by rw[List.drop_of_length_le (by omega)];simp[names]⟩
 |d+1,k,v,e,hv=>by
  have hk:k<r.length:=by omega
  rw[List.drop_eq_getElem_cons hk]
  by_cases hop:8<=r[k]/\r[k]<=11
  ·obtain⟨x,hx,hxo⟩:∃x:Nat,x<4/\r[k]=8+(x:Int):=⟨(r[k]-8).toNat,by omega,by omega⟩
   obtain⟨o1,o2⟩:=or_bit hv hx
   obtain⟨u,h1,h2,h3⟩:=mz hr d (k+1) (v|||1<<<x) (by omega) o2
   have hw:IntKind.i64.wrap (r[k]-8)=(x:Int):=by rw[wrapZ (by omega) (by omega)];omega
   refine⟨u,?_,h2,fun j hj=>?_⟩
   ·have hb:((if r[k]>=8 then (some (decide (r[k]<=11))) else (some false):Option Bool))=some true:=by rw[if_pos hop.1,decide_eq_true hop.2]
    rw[eO.l0,if_pos (by omega),bo hk,bsome,hb,bsome,if_pos rfl,hw,if_pos (by omega),bsome,o1,wS (by omega)]
    exact h1
   ·rw[h3 j hj,Nat.testBit_or,Nat.testBit_shiftLeft]
    unfold names
    rw[List.any_cons,hxo]
    by_cases hjx:j=x
    ·subst hjx;simp
    ·have h1:((j>=x:Bool)&&Nat.testBit 1 (j-x))=false:=by
      by_cases q:j>=x
      ·have:1<=j-x:=by omega
       have h0:Nat.testBit 1 (j-x)=false:=Nat.testBit_lt_two_pow (Nat.lt_of_lt_of_le (by decide) (Nat.pow_le_pow_right (n:=2) (by omega) this))
       simp[h0]
      ·simp[q]
     have h2:decide ((8:Int)+(x:Int)=8+(j:Int))=false:=decide_eq_false (by omega)
     rw[h1,h2];simp
  ·obtain⟨u,h1,h2,h3⟩:=mz hr d (k+1) v (by omega) hv
   refine⟨u,?_,h2,fun j hj=>?_⟩
   ·have hb:((if r[k]>=8 then (some (decide (r[k]<=11))) else (some false):Option Bool))=some false:=by
     by_cases q:r[k]>=8
     ·rw[if_pos q,decide_eq_false (fun q2=>hop ⟨q,q2⟩)]
     ·rw[if_neg q]
    rw[eO.l0,if_pos (by omega),bo hk,bsome,hb,bsome,if_neg (by decide),bsome,wS (by omega)]
    exact h1
   ·rw[h3 j hj]
    unfold names
    rw[List.any_cons,decide_eq_false (by omega),Bool.false_or]
theorem uses_eq{r:List Int}(hr:r.length<=900):∃u:Nat,u<16/\(∀j,j<4->u.testBit j=names r j)/\eO.f r=some (match right r with|none=>(0,1)|some _=>((u:Int),0)):=by
 obtain⟨u,h1,h2,h3⟩:=mz hr r.length 0 0 (by omega) (by omega)
 refine⟨u,h2,fun j hj=>by rw[h3 j hj];simp,?_⟩
 unfold eO.f
 rw[made_eq hr,bsome]
 rw[show ((0:Nat):Int)=0 from rfl] at h1
 cases right r with
 |none=>rfl
 |some b=>rw[if_neg (show ¬((!true)=true) by decide),h1,bsome]
theorem cond_is{l:az} {U:List Nat}(h:Nm l U){labels:List Int}(E:Je l labels){t:Tr}(ho:t.wf)(hs:t.sort=false)(hr:t.flat.length<=900)(hl:labels.length<=900)(hm:mayS l U t.flat labels false=0):
  fb.f l t.flat labels=some ((ev E t).1,0):=by
 have h1:=n1 E ho hr
 have hv:val E t=.c218 (ev E t).1:=by unfold val;rw[hs];rfl
 unfold fb.f
 rw[md h hr hl,hm,bsome,if_pos rfl]
 show (bJ.f (⟨l,labels,[]⟩:bS) t.flat>>=_)=_
 rw[h1,bsome,hv];rfl
theorem nI{l:az} {U:List Nat}(h:Nm l U){labels:List Int}(E:Je l labels){t:Tr}(ho:t.wf)(hs:t.sort=true)(hr:t.flat.length<=900)(hl:labels.length<=900)(hm:mayS l U t.flat labels true=0):
  dJ.f l t.flat labels=some (((ev E t).2:Int),0):=by
 have h1:=n1 E ho hr
 have hv:val E t=.c227 ((ev E t).2:Int):=by unfold val;rw[hs];rfl
 unfold dJ.f
 rw[md h hr hl,hm,bsome,if_pos rfl]
 show (bJ.f (⟨l,labels,[]⟩:bS) t.flat>>=_)=_
 rw[h1,bsome,hv];rfl
end
section
theorem jD{α:Type} {xs:List α} {n:Nat}:lCut xs 0 (if (n:Int)<(xs.length:Int) then (n:Int) else (xs.length:Int))=xs.take n:=by
 unfold lCut
 split
 ·simp
 ·rw[show (0:Int).toNat=0 from rfl,Int.toNat_natCast,Nat.sub_zero,List.drop_zero,List.take_of_length_le (Nat.le_refl xs.length),List.take_of_length_le (by omega)]
theorem kT{n m:Nat}:(0:Int)<=(if (n:Int)<(m:Int) then (n:Int) else (m:Int))/\(if (n:Int)<(m:Int) then (n:Int) else (m:Int))<=(m:Int):=by split<;>omega
structure Few(R:List aW):Prop where
 len:R.length<=15
 may:∀r∈R,r.May.length<=45
 res:∀r∈R,r.Res.length<=45
 pc:∀r∈R,r.Pc.length<=45
def fewR(R:List aW):List aW:=(R.take 15).map fun r=>⟨r.May.take 45,r.Res.take 45,r.Pc.take 45⟩
theorem tfew_l0{R:List aW}:∀(d k:Nat) (acc:List aW),(R.take 15).length=k+d->acc.length=k->dE.l0 ⟨R⟩ acc (k:Int)=some (acc++((R.take 15).drop k).map fun r=>⟨r.May.take 45,r.Res.take 45,r.Pc.take 45⟩)
 |0,k,acc,e,ha=>by
  rw[dE.l0,show (15:Int)=((15:Nat):Int) from rfl,jD,if_neg (show ¬(k:Int)<((R.take 15).length:Int) by omega),List.drop_of_length_le (by omega)];simp
 |d+1,k,acc,e,ha=>by
  have hk:k<(R.take 15).length:=by omega
  have h15:(R.take 15).length<=15:=by simp;omega
  have hB:200000<=big:=by decide
  rw[dE.l0,show (15:Int)=((15:Nat):Int) from rfl,show (45:Int)=((45:Nat):Int) from rfl,jD,if_pos (show (k:Int)<((R.take 15).length:Int) by omega)]
  show (lAt (R.take 15) (k:Int)>>=_)=_
  rw[bo hk,bsome,if_pos kT,if_pos kT,if_pos kT,jD,jD,jD]
  rw[if_pos (by simp;omega),wS (by omega),tfew_l0 d (k+1) _ (by omega) (by simp[ha]),List.drop_eq_getElem_cons hk]
  simp
theorem tfew_eq{R:List aW}:dE.f ⟨R⟩=some ⟨fewR R⟩:=by
 unfold dE.f
 have h:=tfew_l0 (R:=R) (R.take 15).length 0 [] (by omega) rfl
 rw[show ((0:Nat):Int)=0 from rfl] at h
 rw[show (15:Int)=((15:Nat):Int) from rfl,if_pos kT,h]
 simp[fewR]
theorem tfew_ok{R:List aW}:Few (fewR R):=by
 refine⟨by simp[fewR];omega,fun r hr=>?_,fun r hr=>?_,fun r hr=>?_⟩<;>
  (obtain⟨x,_,rfl⟩:=List.mem_map.1 hr;simp;omega)
def ar(op:Nat):Nat:=[0,1,1,2,2,2,3,1,1,1,2,1,0].getD op 0
theorem ar_le(op:Nat):ar op<=3:=by
 unfold ar
 rcases Nat.lt_or_ge op 13 with h|h
 ·revert op;decide
 ·rw[List.getD_eq_getElem?_getD,List.getElem?_eq_none (by simpa using h)];simp
theorem ar_eq{op:Nat}(h:op<13):lAt gl0 (op:Int)=some (ar op:Int):=by revert op;decide
def hasS(op:Nat)(l:List Int):Bool:=(List.range 4).all fun n=>decide (n<=ar op)|| !names l n
theorem thas_p{op:Nat}(h:op<13){l:List Int}(hl:l.length<=900){b:Bool}(hr:right l=some b):ft.f (op:Int) l=some (hasS op l):=by
 obtain⟨u,hu,hb,he⟩:=uses_eq hl
 have ha:=ar_le op
 unfold ft.f
 rw[he,hr,bsome]
 show ((if (0:Int)=0 then _ else _:Option Bool)>>=_)=_
 rw[if_pos rfl,ar_eq h,bsome,wS (by omega),if_pos (by omega),bsome]
 show some (decide (bShr .u32 (u:Int) ((ar op+1:Nat):Int)=0))=_
 rw[kg (by omega)]
 congr 1
 rw[Bool.eq_iff_iff,decide_eq_true_iff]
 unfold hasS
 rw[List.all_eq_true]
 constructor
 ·intro q n hn
  have hn4:n<4:=by simpa using hn
  rcases Nat.lt_or_ge (ar op) n with hlt|hge
  ·have:u.testBit n=false:=by
    have q0:u>>>(ar op+1)=0:=by omega
    have:=congrArg (fun x=>x.testBit (n-(ar op+1))) q0
    simp only[Nat.testBit_shiftRight,Nat.zero_testBit] at this
    rwa [show ar op+1+(n-(ar op+1))=n by omega] at this
   rw[hb n hn4] at this
   simp[this]
  ·simp[hge]
 ·intro q
  have:u>>>(ar op+1)=0:=by
   apply Nat.eq_of_testBit_eq
   intro j
   rw[Nat.testBit_shiftRight,Nat.zero_testBit]
   rcases Nat.lt_or_ge (ar op+1+j) 4 with h4|h4
   ·have:=q (ar op+1+j) (by simpa using h4)
    rw[hb _ h4]
    simpa [show ¬(ar op+1+j<=ar op) by omega] using this
   ·exact Nat.testBit_lt_two_pow (Nat.lt_of_lt_of_le hu (by have:=Nat.pow_le_pow_right (n:=2) (by omega) h4;simpa using this))
  omega
def rowE(op:Nat)(r:aW):Int:=if right r.May=some false/\right r.Res=some true/\right r.Pc=some true then (if hasS op r.May&&(hasS op r.Res&&hasS op r.Pc) then 0 else 7) else 1
theorem trow_p{op:Nat}(h:op<13){r:aW}(h1:r.May.length<=45)(h2:r.Res.length<=45)(h3:r.Pc.length<=45):
  f1.f r=some (!decide (rowE op r=1))/\(rowE op r≠1->fP.f (op:Int) r=some (!decide (rowE op r=7))):=by
 unfold f1.f fP.f rowE
 rw[km (by omega),km (by omega),km (by omega)]
 by_cases q1:right r.May=some false
 ·by_cases q2:right r.Res=some true
  ·by_cases q3:right r.Pc=some true
   ·rw[if_pos ⟨q1,q2,q3⟩,thas_p h (by omega) q1,thas_p h (by omega) q2,thas_p h (by omega) q3,decide_eq_true q1,decide_eq_true q2,decide_eq_true q3]
    cases hasS op r.May<;>cases hasS op r.Res<;>cases hasS op r.Pc<;>exact⟨rfl,fun _=>rfl⟩
   ·rw[if_neg (fun q=>q3 q.2.2),decide_eq_true q1,decide_eq_true q2,decide_eq_false q3]
    exact⟨rfl,fun q=>absurd rfl q⟩
  ·rw[if_neg (fun q=>q2 q.2.1),decide_eq_true q1,decide_eq_false q2]
   exact⟨rfl,fun q=>absurd rfl q⟩
 ·rw[if_neg (fun q=>q1 q.1),decide_eq_false q1]
  exact⟨rfl,fun q=>absurd rfl q⟩
def ckl:List aW->Nat->Option (Nat×Int)
 |[],_=>none
 |r::R,k=>if rowE k r=0 then ckl R (k+1) else some (k,rowE k r)
theorem pm(op:Nat)(r:aW):rowE op r=0\/rowE op r=1\/rowE op r=7:=by
 unfold rowE
 split
 ·split
  ·exact .inl rfl
  ·exact .inr (.inr rfl)
 ·exact .inr (.inl rfl)
section
variable{R:List aW}(hF:Few R)(h13:R.length=13)
include hF h13
theorem m5:∀(d k:Nat),R.length=k+d->er.l0 ⟨R⟩ (k:Int)=some (match ckl (R.drop k) k with|some (i,e)=>.inl ((i:Int),e)|none=>.inr ())
 |0,k,e=>by
  rw[er.l0,if_neg (by show ¬(k:Int)<(R.length:Int);omega),List.drop_of_length_le (by omega)];rfl
 |d+1,k,e=>by
  have hk:k<R.length:=by omega
  have hm:=List.getElem_mem hk
  obtain⟨p1,p2⟩:=trow_p (op:=k) (by omega) (hF.may _ hm) (hF.res _ hm) (hF.pc _ hm)
  rw[er.l0,if_pos (by show (k:Int)<(R.length:Int);omega)]
  show (lAt R (k:Int)>>=_)=_
  rw[bo hk,bsome,List.drop_eq_getElem_cons hk]
  show (f1.f R[k]>>=_)=_
  rw[p1,bsome]
  unfold ckl
  rcases pm k R[k] with q|q|q
  ·rw[if_pos q,q,if_neg (by decide)]
   show (fP.f (k:Int) R[k]>>=_)=_
   rw[p2 (by rw[q];decide),bsome,q,if_neg (by decide),wS (by omega),m5 d (k+1) (by omega)]
  ·rw[if_neg (show ¬rowE k R[k]=0 by rw[q];decide),q,if_pos (by decide)]
  ·rw[if_neg (show ¬rowE k R[k]=0 by rw[q];decide),q,if_neg (by decide)]
   show (fP.f (k:Int) R[k]>>=_)=_
   rw[p2 (by rw[q];decide),bsome,q,if_pos (by decide)]
end
def chT(R:List aW):Int×Int:=if R.length=13 then (match ckl R 0 with|some (i,e)=>((i:Int),e)|none=>(0,0)) else (0,1)
theorem mW{R:List aW}(hF:Few R):er.f ⟨R⟩=some (chT R):=by
 unfold er.f chT
 by_cases h:R.length=13
 ·have h':(R.length:Int)=13:=by omega
  have hl:=m5 hF h R.length 0 (by omega)
  rw[show ((0:Nat):Int)=0 from rfl,List.drop_zero] at hl
  rw[if_pos h',if_pos h,hl,bsome]
  cases ckl R 0<;>rfl
 ·rw[if_neg (by show ¬(R.length:Int)=13;omega),if_neg h]
structure RowR(r:aW):Prop where
 may:right r.May=some false
 res:right r.Res=some true
 pc:right r.Pc=some true
theorem n3:∀{R:List aW} {k:Nat},ckl R k=none->∀(i:Nat) (hi:i<R.length),rowE (k+i) R[i]=0
 |[],k,h,i,hi=>by cases hi
 |r::R,k,h,i,hi=>by
  unfold ckl at h
  split at h
  ·rename_i q
   match i with
   |0=>exact q
   |i+1=>
    have:=n3 h i (by simpa using hi)
    rw[show k+1+i=k+(i+1) by omega] at this
    simpa using this
  ·cases h
theorem n4:∀{R:List aW} {k i:Nat} {e:Int},ckl R k=some (i,e)->e≠0
 |[],k,i,e,h=>by cases h
 |r::R,k,i,e,h=>by
  unfold ckl at h
  split at h
  ·exact n4 h
  ·rename_i q;cases h;exact q
theorem pn{op:Nat} {r:aW}(h:rowE op r=0):RowR r:=by
 unfold rowE at h
 split at h
 ·rename_i q;exact⟨q.1,q.2.1,q.2.2⟩
 ·cases h
theorem chT_zero{R:List aW}(h:(chT R).2=0):R.length=13/\(chT R).1=0/\(∀r∈R,RowR r)/\∀(i:Nat) (hi:i<R.length),rowE i R[i]=0:=by
 unfold chT at h⊢
 by_cases q:R.length=13
 ·rw[if_pos q] at h⊢
  cases hc:ckl R 0 with
  |some p=>
   obtain⟨i,e⟩:=p
   rw[hc] at h
   exact absurd h (n4 hc)
  |none=>
   have h0:=n3 hc
   refine⟨q,rfl,fun r hr=>?_,fun i hi=>by have:=h0 i hi;rwa [Nat.zero_add] at this⟩
   obtain⟨i,hi,e⟩:=List.mem_iff_getElem.1 hr
   have:=h0 i hi
   rw[e] at this
   exact pn this
 ·rw[if_neg q] at h;cases h
end
section
theorem refAr_eq{op:Nat}(h:op<13):fZ.f (op:Int)=some (ar op:Int):=by revert op;decide
theorem m8{l:List Int}(hl:l.length<=900){j:Nat}(hj:j<4):∀(d k:Nat),l.length=k+d->dR.l0 l (j:Int) (k:Int)=some (if names (l.drop k) j then .inl true else .inr ())
 |0,k,e=>by rw[dR.l0,if_neg (by omega),List.drop_of_length_le (by omega)];rfl
 |d+1,k,e=>by
  have hk:k<l.length:=by omega
  rw[dR.l0,if_pos (by omega),bo hk,bsome,List.drop_eq_getElem_cons hk,show IntKind.i64.wrap (8+(j:Int))=8+(j:Int) from wrapZ (by omega) (by omega)]
  unfold names
  rw[List.any_cons]
  by_cases q:l[k]=8+(j:Int)
  ·rw[if_pos q,decide_eq_true q];rfl
  ·rw[if_neg q,decide_eq_false q,wS (by omega),m8 hl hj d (k+1) (by omega)];rfl
theorem refHas_eq{l:List Int}(hl:l.length<=900){j:Nat}(hj:j<4):dR.f l (j:Int)=some (names l j):=by
 unfold dR.f
 have h:=m8 hl hj l.length 0 (by omega)
 rw[show ((0:Nat):Int)=0 from rfl] at h
 rw[h,bsome,List.drop_zero]
 cases names l j<;>rfl
theorem m9{l:List Int}(hl:l.length<=900):∀(d k:Nat),4=k+d->cy.l0 l (k:Int)=some (if ((List.range 4).drop k).all (fun n=> !names l n) then .inr () else .inl false)
 |0,k,e=>by
  obtain rfl:k=4:=by omega
  rw[cy.l0,if_neg (by omega)];rfl
 |d+1,k,e=>by
  have hk:k<(List.range 4).length:=by simp;omega
  rw[cy.l0,if_pos (by omega),refHas_eq hl (by omega),bsome,List.drop_eq_getElem_cons hk,List.all_cons,List.getElem_range]
  cases names l k with
  |true=>rfl
  |false=>rw[if_neg (by decide),wS (by omega),m9 hl d (k+1) (by omega)];rfl
theorem thas_r{op:Nat}(h:op<13){l:List Int}(hl:l.length<=900):cy.f (op:Int) l=some (hasS op l):=by
 have ha:=ar_le op
 unfold cy.f
 rw[refAr_eq h,bsome,wS (by omega),m9 hl (3-ar op) (ar op+1) (by omega),bsome]
 have:((List.range 4).drop (ar op+1)).all (fun n=> !names l n)=hasS op l:=by
  unfold hasS
  generalize ar op=a at ha
  match a,ha with
  |0,_=>simp[List.range,List.range.loop]
  |1,_=>simp[List.range,List.range.loop]
  |2,_=>simp[List.range,List.range.loop]
  |3,_=>simp[List.range,List.range.loop]
 rw[this]
 cases hasS op l<;>rfl
theorem trow_r{op:Nat}(h:op<13){r:aW}(h1:r.May.length<=45)(h2:r.Res.length<=45)(h3:r.Pc.length<=45):fE.f (op:Int) r=some (rowE op r):=by
 unfold fE.f rowE
 rw[jS (by omega),jS (by omega),jS (by omega)]
 by_cases q1:right r.May=some false
 ·by_cases q2:right r.Res=some true
  ·by_cases q3:right r.Pc=some true
   ·rw[if_pos ⟨q1,q2,q3⟩,thas_r h (by omega),thas_r h (by omega),thas_r h (by omega),decide_eq_true q1,decide_eq_true q2,decide_eq_true q3]
    cases hasS op r.May<;>cases hasS op r.Res<;>cases hasS op r.Pc<;>rfl
   ·rw[if_neg (fun q=>q3 q.2.2),decide_eq_true q1,decide_eq_true q2,decide_eq_false q3];rfl
  ·rw[if_neg (fun q=>q2 q.2.1),decide_eq_true q1,decide_eq_false q2];rfl
 ·rw[if_neg (fun q=>q1 q.1),decide_eq_false q1];rfl
section
variable{R:List aW}(hF:Few R)(h13:R.length=13)
include hF h13
theorem kH:∀(d k:Nat),R.length=k+d->cW.l0 ⟨R⟩ (k:Int)=some (match ckl (R.drop k) k with|some (i,e)=>.inl ⟨(i:Int),e⟩|none=>.inr ())
 |0,k,e=>by
  rw[cW.l0,if_neg (by show ¬(k:Int)<(R.length:Int);omega),List.drop_of_length_le (by omega)];rfl
 |d+1,k,e=>by
  have hk:k<R.length:=by omega
  have hm:=List.getElem_mem hk
  rw[cW.l0,if_pos (by show (k:Int)<(R.length:Int);omega)]
  show (lAt R (k:Int)>>=_)=_
  rw[bo hk,bsome,List.drop_eq_getElem_cons hk]
  show (fE.f (k:Int) R[k]>>=_)=_
  rw[trow_r (by omega) (hF.may _ hm) (hF.res _ hm) (hF.pc _ hm),bsome]
  unfold ckl
  by_cases q:rowE k R[k]=0
  ·rw[if_pos q,if_pos q,wS (by omega),kH d (k+1) (by omega)]
  ·rw[if_neg q,if_neg q]
end
theorem nK{R:List aW}(hF:Few R):cW.f ⟨R⟩=some ⟨(chT R).1,(chT R).2⟩:=by
 unfold cW.f chT
 by_cases h:R.length=13
 ·have h':(R.length:Int)=13:=by omega
  have hl:=kH hF h R.length 0 (by omega)
  rw[show ((0:Nat):Int)=0 from rfl,List.drop_zero] at hl
  rw[if_pos h',if_pos h,hl,bsome]
  cases ckl R 0<;>rfl
 ·rw[if_neg (by show ¬(R.length:Int)=13;omega),if_neg h]
end
section
theorem ff:¬(false=true):=by decide
theorem tt:true=true:=rfl
end
section
theorem wrap_in(x:Int): -9223372036854775808<=IntKind.i64.wrap x/\IntKind.i64.wrap x<9223372036854775808:=by
 show-9223372036854775808<=(if (true&&decide (x%18446744073709551616>=9223372036854775808))=true then x%18446744073709551616-18446744073709551616 else x%18446744073709551616)/\(if (true&&decide (x%18446744073709551616>=9223372036854775808))=true then x%18446744073709551616-18446744073709551616 else x%18446744073709551616)<9223372036854775808
 have h1:=Int.emod_nonneg x (show (18446744073709551616:Int)≠0 by decide)
 have h2:=Int.emod_lt_of_pos x (show (0:Int)<18446744073709551616 by decide)
 split
 ·rename_i h
  simp at h
  omega
 ·rename_i h
  simp at h
  omega
theorem kU(x a b:Int):eY.f x a b=some (decide (a<=x/\x<=b)):=by
 unfold eY.f
 by_cases h:x>=a
 ·rw[if_pos h];simp;omega
 ·rw[if_neg h,decide_eq_false (by omega)];rfl
def insB(n:Int)(x:aI):Bool:=
 if x.Op=1 then decide (-20<=x.N/\x.N<=20/\0<=x.L/\x.L<n) else decide (0<=x.Op/\x.Op<=12/\x.L=0/\(if x.Op=8 then 0<=x.N/\x.N<=12 else if x.Op=9 then 0<=x.N/\x.N<=3 else if x.Op=10 then 0<=x.N/\x.N<=1 else x.N=0))
theorem two{a b:Prop}[Decidable a][Decidable b]:((if a then (some (decide b)) else (some false):Option Bool))=some (decide (a/\b)):=by by_cases h:a<;>simp[h]
theorem right_r(n:Int)(x:aI):fF.f n x=some (insB n x):=by
 unfold fF.f insB
 by_cases h1:x.Op=1
 ·rw[if_pos h1,if_pos h1,two]
  by_cases a:x.N>=-20
  ·by_cases b:x.N<=20
   ·rw[if_pos a,if_pos b,bsome];congr 1;apply decide_eq_decide.2;omega
   ·rw[if_pos a,if_neg b,bsome,decide_eq_false (by omega)]
  ·rw[if_neg a,bsome,decide_eq_false (by omega)]
 ·rw[if_neg h1,if_neg h1]
  by_cases h2:x.Op<0
  ·rw[if_pos h2,bsome,if_pos rfl,decide_eq_false (by omega)]
  ·by_cases h3:x.Op>12
   ·rw[if_neg h2,if_pos h3,bsome,if_pos rfl,decide_eq_false (by omega)]
   ·by_cases h4:x.L=0
    ·rw[if_neg h2,if_neg h3,decide_eq_true h4,bsome,if_neg (by decide)]
     by_cases q8:x.Op=8
     ·rw[if_pos q8,two,bsome];congr 1;apply decide_eq_decide.2;rw[if_pos q8];omega
     ·rw[if_neg q8]
      by_cases q9:x.Op=9
      ·rw[if_pos q9,two,bsome];congr 1;apply decide_eq_decide.2;rw[if_neg q8,if_pos q9];omega
      ·rw[if_neg q9]
       by_cases q10:x.Op=10
       ·rw[if_pos q10]
        by_cases z:x.N=0
        ·rw[if_pos z,bsome,decide_eq_true];rw[if_neg q8,if_neg q9,if_pos q10];omega
        ·rw[if_neg z,bsome];congr 1;apply decide_eq_decide.2;rw[if_neg q8,if_neg q9,if_pos q10];omega
       ·rw[if_neg q10];congr 1;apply decide_eq_decide.2;rw[if_neg q8,if_neg q9,if_neg q10];omega
    ·rw[if_neg h2,if_neg h3,decide_eq_false h4,bsome,if_pos (show (!false)=true from rfl),decide_eq_false (by omega)]
theorem right_p(n:Int)(x:aI):gW.f n x=some (insB n x):=by
 unfold gW.f
 have hs:ir.f=some [(1,some fun z0=>eY.f z0 (-20) 20),(8,some fun z0=>eY.f z0 0 12),(9,some fun z0=>eY.f z0 0 3),(10,some fun z0=>eY.f z0 0 1)]:=rfl
 by_cases h2:x.Op<0
 ·rw[if_pos h2,bsome,if_pos rfl];unfold insB;rw[if_neg (by omega),decide_eq_false (by omega)]
 ·by_cases h3:x.Op>=13
  ·rw[if_neg h2,decide_eq_true h3,bsome,if_pos rfl];unfold insB;rw[if_neg (by omega),decide_eq_false (by omega)]
  ·rw[if_neg h2,decide_eq_false h3,bsome,if_neg (by decide),hs,bsome]
   unfold insB mGet mFind mFind mFind mFind mFind
   by_cases q1:x.Op=1
   ·simp only[q1,if_true,two,bsome,kU]
    by_cases z: -20<=x.N/\x.N<=20
    ·simp[z]
    ·simp[z];intros;omega
   ·by_cases q8:x.Op=8
    ·simp only[q8,if_true,bsome,kU]
     by_cases z:0<=x.N/\x.N<=12
     ·simp[z]
     ·have zz:0<=x.N->12<x.N:=by omega
      simp[z]
      rw[if_pos zz];rfl
    ·by_cases q9:x.Op=9
     ·simp only[q9,if_true,bsome,kU]
      by_cases z:0<=x.N/\x.N<=3
      ·simp[z]
      ·have zz:0<=x.N->3<x.N:=by omega
       simp[z]
       rw[if_pos zz];rfl
     ·by_cases q10:x.Op=10
      ·simp only[q10,if_true,bsome,kU]
       by_cases z:0<=x.N/\x.N<=1
       ·simp[z]
       ·have zz:0<=x.N->1<x.N:=by omega
        simp[z]
        rw[if_pos zz];rfl
      ·have z1:0<=x.Op:=by omega
       have z2:x.Op<=12:=by omega
       simp only[q1,q8,q9,q10,if_false,bsome]
       by_cases z:x.N=0
       ·simp[z,z1,z2]
       ·simp[z]
end
section
theorem cutok{n m:Nat}:(0:Int)<=(if (n:Int)<(m:Int) then (n:Int) else (m:Int))/\(if (n:Int)<(m:Int) then (n:Int) else (m:Int))<=(m:Int):=by split<;>omega
end
section
def rightB(n:Int)(code:List aI):Bool:=decide (code.length<=12)&&code.all (insB n)
theorem nc{l:az} {c:List aI}(hl:c.length<=1000):∀(d k:Nat),c.length=k+d->cK.l0 l c (k:Int)=some (if (c.drop k).all (insB (l.Up.length:Int))=true then .inr () else .inl false)
 |0,k,e=>by rw[cK.l0,if_neg (by omega),List.drop_of_length_le (by omega)];rfl
 |d+1,k,e=>by
  have hk:k<c.length:=by omega
  rw[cK.l0,if_pos (by omega),bo hk,bsome,right_r,bsome,wS (by omega),nc hl d (k+1) (by omega),List.drop_eq_getElem_cons hk,List.all_cons]
  cases insB (l.Up.length:Int) c[k]<;>simp
theorem rright_eq{l:az} {c:List aI}(hl:c.length<=1000):cK.f l c=some (rightB (l.Up.length:Int) c):=by
 unfold cK.f rightB
 have:=nc (l:=l) hl c.length 0 (by omega)
 rw[show ((0:Nat):Int)=0 from rfl,List.drop_zero] at this
 rw[this,bsome]
 cases c.all (insB (l.Up.length:Int)) with
 |true=>rw[if_pos rfl,Bool.and_true];show some (decide ((c.length:Int)<=12))=_;congr 1;apply decide_eq_decide.2;omega
 |false=>rw[if_neg (by decide),Bool.and_false]
theorem ne{l:az} {c:List aI}(hl:c.length<=1000):∀(d k:Nat),c.length=k+d->∃r:Int⊕Unit,bb.l0 c (fun z0=>f2.f z0 l) (k:Int)=some r/\(match r with|.inl j=>0<=j/\(c.drop k).all (insB (l.Up.length:Int))=false|.inr ()=>(c.drop k).all (insB (l.Up.length:Int))=true)
 |0,k,e=>by rw[bb.l0,if_neg (by omega),List.drop_of_length_le (by omega)];exact⟨_,rfl,rfl⟩
 |d+1,k,e=>by
  have hk:k<c.length:=by omega
  obtain⟨r,h1,h2⟩:=ne (l:=l) hl d (k+1) (by omega)
  rw[bb.l0,if_pos (by omega),bo hk,bsome]
  show∃r,(f2.f c[k] l>>=_)=_/\_
  have hr:f2.f c[k] l=some (!insB (l.Up.length:Int) c[k]):=by unfold f2.f;rw[right_p];rfl
  rw[hr,bsome,wS (by omega),h1,List.drop_eq_getElem_cons hk,List.all_cons]
  cases q:insB (l.Up.length:Int) c[k] with
  |true=>rw[if_neg (by decide),Bool.true_and];exact⟨r,rfl,h2⟩
  |false=>rw[if_pos (by decide),Bool.false_and];exact⟨.inl (k:Int),rfl,by omega,rfl⟩
theorem pright_eq{l:az} {U:List Nat}(h:Nm l U){c:List aI}(hl:c.length<=1000):fm.f l c=some (decide (chk l U=0)&&rightB (l.Up.length:Int) c):=by
 unfold fm.f rightB cq.f bb.f
 rw[iT h,bsome]
 by_cases hc:chk l U=0
 ·rw[if_pos hc,decide_eq_true hc,Bool.true_and]
  by_cases h12:(c.length:Int)<=12
  ·obtain⟨r,h1,h2⟩:=ne (l:=l) hl c.length 0 (by omega)
   rw[show ((0:Nat):Int)=0 from rfl] at h1
   rw[if_pos h12,h1,bsome,decide_eq_true (show c.length<=12 by omega),Bool.true_and]
   rw[List.drop_zero] at h2
   cases r with
   |inl j=>rw[h2.2];show (((some (decide (j>=0))>>=_):Option Bool)>>=_)=_;rw[decide_eq_true h2.1];rfl
   |inr u=>cases u;rw[show c.all (insB (l.Up.length:Int))=true from h2];rfl
  ·rw[if_neg h12,decide_eq_false (show ¬c.length<=12 by omega)];rfl
 ·rw[if_neg hc,decide_eq_false hc];rfl
end
section
theorem kW{α:Type} {a:List α} {n:Nat}:(lCut a 0 (if (n:Int)<(a.length:Int) then (n:Int) else (a.length:Int))).length<=n:=by
 unfold lCut
 split
 ·simp;omega
 ·simp;omega
end
section
def labB(n:Int)(a:Int):Bool:=decide (a>=0/\a<n)
def valB(v:Int):Bool:=decide (v>=-20/\v<=20)
def plaB(v:Int):Bool:=decide (v>=0/\v<=12)
def okA(n:Int)(a:aG):Bool:=valB a.V&&labB n a.L
def okS(n:Int)(x:aF):Bool:=labB n x.L&&(if x.Ret=true then plaB x.V else valB x.V)
def rightS(n:Int)(s:al):Bool:=rightB n s.Code&&plaB s.Pc.V&&labB n s.Pc.L&&(decide (s.Mem.length<=6)&&decide (s.Stack.length<=12)&&decide (s.Out.length<=8))&&s.Mem.all (okA n)&&s.Stack.all (okS n)&&s.Out.all (okA n)
theorem mf{a b:Prop}[Decidable a][Decidable b]:((if a then (some (decide b)) else (some false):Option Bool))=some (decide (a/\b)):=by by_cases h:a<;>simp[h]
theorem value_p(v:Int):fQ.f v=some (valB v):=by
 unfold fQ.f valB
 rw[mf];rfl
theorem place_p(v:Int):eV.f v=some (plaB v):=by
 unfold eV.f plaB
 rw[mf];rfl
theorem mA(l:az)(a:Int):dq.f a l=some (labB (l.Up.length:Int) a):=by
 unfold dq.f labB
 rw[mf];rfl
theorem mB(l:az)(a:Int):cX.f l a=some (labB (l.Up.length:Int) a):=by
 unfold cX.f labB
 rw[mf];rfl
theorem odd_p(l:az)(a:aG):fR.f a (some (fun z0=>dq.f z0 l))=some (!okA (l.Up.length:Int) a):=by
 unfold fR.f okA
 rw[value_p,bsome]
 cases valB a.V with
 |false=>rfl
 |true=>
  rw[if_neg (by decide),bsome]
  show ((dq.f a.L l>>=_)>>=_)=_
  rw[mA,bsome,bsome];rfl
theorem strange_p(l:az)(x:aF):ge.f x (some (fun z0=>dq.f z0 l))=some (!okS (l.Up.length:Int) x):=by
 unfold ge.f okS
 rw[bsome]
 show ((dq.f x.L l>>=_)>>=_)=_
 rw[mA,bsome,value_p,place_p,bsome,bsome]
 cases labB (l.Up.length:Int) x.L<;>cases x.Ret<;>cases valB x.V<;>cases plaB x.V<;>rfl
theorem idxA{xs:List aG} {p:aG->Option Bool} {q:aG->Bool}(hp:∀x,p x=some (!q x))(hl:xs.length<=1000):∀(d k:Nat),xs.length=k+d->∃r:Int⊕Unit,aV.l0 xs p (k:Int)=some r/\(match r with|.inl j=>0<=j/\(xs.drop k).all q=false|.inr ()=>(xs.drop k).all q=true)
 |0,k,e=>by rw[aV.l0,if_neg (by omega),List.drop_of_length_le (by omega)];exact⟨_,rfl,rfl⟩
 |d+1,k,e=>by
  have hk:k<xs.length:=by omega
  obtain⟨r,h1,h2⟩:=idxA hp hl d (k+1) (by omega)
  rw[aV.l0,if_pos (by omega),bo hk,bsome,hp,bsome,wS (by omega),h1,List.drop_eq_getElem_cons hk,List.all_cons]
  cases q xs[k] with
  |true=>rw[if_neg (by decide),Bool.true_and];exact⟨r,rfl,h2⟩
  |false=>rw[if_pos (by decide),Bool.false_and];exact⟨.inl (k:Int),rfl,by omega,rfl⟩
theorem conA{xs:List aG} {p:aG->Option Bool} {q:aG->Bool}(hp:∀x,p x=some (!q x))(hl:xs.length<=1000):bL.f xs p=some (!xs.all q):=by
 unfold bL.f aV.f
 obtain⟨r,h1,h2⟩:=idxA hp hl xs.length 0 (by omega)
 rw[show ((0:Nat):Int)=0 from rfl] at h1
 rw[h1,bsome]
 rw[List.drop_zero] at h2
 rcases r with j|u
 ·obtain⟨h3,h4⟩:=h2
  show some (decide (j>=0))=_
  rw[h4,decide_eq_true h3];rfl
 ·have h2:xs.all q=true:=h2
  rw[h2];rfl
theorem idxS{xs:List aF} {p:aF->Option Bool} {q:aF->Bool}(hp:∀x,p x=some (!q x))(hl:xs.length<=1000):∀(d k:Nat),xs.length=k+d->∃r:Int⊕Unit,bh.l0 xs p (k:Int)=some r/\(match r with|.inl j=>0<=j/\(xs.drop k).all q=false|.inr ()=>(xs.drop k).all q=true)
 |0,k,e=>by rw[bh.l0,if_neg (by omega),List.drop_of_length_le (by omega)];exact⟨_,rfl,rfl⟩
 |d+1,k,e=>by
  have hk:k<xs.length:=by omega
  obtain⟨r,h1,h2⟩:=idxS hp hl d (k+1) (by omega)
  rw[bh.l0,if_pos (by omega),bo hk,bsome,hp,bsome,wS (by omega),h1,List.drop_eq_getElem_cons hk,List.all_cons]
  cases q xs[k] with
  |true=>rw[if_neg (by decide),Bool.true_and];exact⟨r,rfl,h2⟩
  |false=>rw[if_pos (by decide),Bool.false_and];exact⟨.inl (k:Int),rfl,by omega,rfl⟩
theorem conS{xs:List aF} {p:aF->Option Bool} {q:aF->Bool}(hp:∀x,p x=some (!q x))(hl:xs.length<=1000):bT.f xs p=some (!xs.all q):=by
 unfold bT.f bh.f
 obtain⟨r,h1,h2⟩:=idxS hp hl xs.length 0 (by omega)
 rw[show ((0:Nat):Int)=0 from rfl] at h1
 rw[h1,bsome]
 rw[List.drop_zero] at h2
 rcases r with j|u
 ·obtain⟨h3,h4⟩:=h2
  show some (decide (j>=0))=_
  rw[h4,decide_eq_true h3];rfl
 ·have h2:xs.all q=true:=h2
  rw[h2];rfl
structure Sz(s:al):Prop where
 code:s.Code.length<=1000
 mem:s.Mem.length<=1000
 stack:s.Stack.length<=1000
 out:s.Out.length<=1000
theorem le_int{a b:Nat}:(decide ((a:Int)<=(b:Int)))=decide (a<=b):=decide_eq_decide.2 (by omega)
theorem kP{l:az} {U:List Nat}(h:Nm l U)(hc:chk l U=0){s:al}(z:Sz s):fe.f l s=some (rightS (l.Up.length:Int) s):=by
 unfold fe.f rightS
 rw[pright_eq h z.code,decide_eq_true hc,Bool.true_and,place_p,conA (odd_p l) z.mem,conA (odd_p l) z.out,conS (strange_p l) z.stack]
 have hz:((if (s.Mem.length:Int)<=6 then (if (s.Stack.length:Int)<=12 then (some (decide ((s.Out.length:Int)<=8))) else (some false)) else (some false):Option Bool))=some (decide (s.Mem.length<=6)&&decide (s.Stack.length<=12)&&decide (s.Out.length<=8)):=by
  by_cases h1:s.Mem.length<=6
  ·rw[if_pos (by omega),decide_eq_true h1]
   by_cases h2:s.Stack.length<=12
   ·rw[if_pos (by omega),decide_eq_true h2]
    show some (decide ((s.Out.length:Int)<=((8:Nat):Int)))=_
    rw[le_int];rfl
   ·rw[if_neg (by omega),decide_eq_false h2];rfl
  ·rw[if_neg (by omega),decide_eq_false h1];rfl
 rw[hz,bsome,bsome]
 generalize (decide (s.Mem.length<=6)&&decide (s.Stack.length<=12)&&decide (s.Out.length<=8))=Z
 generalize s.Mem.all (okA (l.Up.length:Int))=M
 generalize s.Stack.all (okS (l.Up.length:Int))=S
 generalize s.Out.all (okA (l.Up.length:Int))=O
 generalize rightB (l.Up.length:Int) s.Code=C
 generalize plaB s.Pc.V=P
 cases C with
 |false=>rfl
 |true=>
  rw[if_pos rfl,bsome]
  cases P with
  |false=>rfl
  |true=>
   rw[if_pos rfl,bsome]
   show ((dq.f s.Pc.L l>>=_)>>=_)=_
   rw[mA,bsome]
   cases labB (l.Up.length:Int) s.Pc.L<;>cases Z<;>cases M<;>cases S<;>cases O<;>rfl
theorem oa{l:az} {xs:List aG}(hl:xs.length<=1000):∀(d k:Nat),xs.length=k+d->bZ.l0 l xs (k:Int)=some (if (xs.drop k).all (okA (l.Up.length:Int))=true then .inr () else .inl false)
 |0,k,e=>by rw[bZ.l0,if_neg (by omega),List.drop_of_length_le (by omega)];rfl
 |d+1,k,e=>by
  have hk:k<xs.length:=by omega
  have key:((if xs[k].V<(-20) then (some true) else (if xs[k].V>20 then (some true) else (cX.f l xs[k].L>>=fun y30=>some (!y30))):Option Bool))=some (!okA (l.Up.length:Int) xs[k]):=by
   rw[mB,bsome]
   unfold okA valB
   by_cases h1:xs[k].V< -20
   ·rw[if_pos h1,decide_eq_false (by omega)];rfl
   ·by_cases h2:xs[k].V>20
    ·rw[if_neg h1,if_pos h2,decide_eq_false (by omega)];rfl
    ·rw[if_neg h1,if_neg h2,decide_eq_true (by omega)];rfl
  rw[bZ.l0,if_pos (by omega),bo hk,bsome,key,bsome,wS (by omega),oa hl d (k+1) (by omega),List.drop_eq_getElem_cons hk,List.all_cons]
  cases okA (l.Up.length:Int) xs[k]<;>simp
theorem atoms_r{l:az} {xs:List aG}(hl:xs.length<=1000):bZ.f l xs=some (xs.all (okA (l.Up.length:Int))):=by
 unfold bZ.f
 have:=oa (l:=l) hl xs.length 0 (by omega)
 rw[show ((0:Nat):Int)=0 from rfl,List.drop_zero] at this
 rw[this,bsome]
 cases xs.all (okA (l.Up.length:Int))<;>rfl
theorem od{l:az} {xs:List aF}(hl:xs.length<=1000):∀(d k:Nat),xs.length=k+d->cY.l0 l xs (k:Int)=some (if (xs.drop k).all (okS (l.Up.length:Int))=true then .inr () else .inl false)
 |0,k,e=>by rw[cY.l0,if_neg (by omega),List.drop_of_length_le (by omega)];rfl
 |d+1,k,e=>by
  have hk:k<xs.length:=by omega
  have key:((if xs[k].V<(-20) then (some true) else (if xs[k].V>20 then (some true) else (cX.f l xs[k].L>>=fun y45=>if (!y45)=true then (some true) else (if xs[k].Ret=true then (if xs[k].V<0 then (some true) else (some (decide (xs[k].V>12)))) else (some false)))):Option Bool))=some (!okS (l.Up.length:Int) xs[k]):=by
   rw[mB,bsome]
   unfold okS valB plaB
   by_cases h1:xs[k].V< -20
   ·rw[if_pos h1,decide_eq_false (show ¬(xs[k].V>=0/\xs[k].V<=12) by omega),decide_eq_false (show ¬(xs[k].V>=-20/\xs[k].V<=20) by omega)]
    cases labB (l.Up.length:Int) xs[k].L<;>cases xs[k].Ret<;>rfl
   ·by_cases h2:xs[k].V>20
    ·rw[if_neg h1,if_pos h2,decide_eq_false (show ¬(xs[k].V>=0/\xs[k].V<=12) by omega),decide_eq_false (show ¬(xs[k].V>=-20/\xs[k].V<=20) by omega)]
     cases labB (l.Up.length:Int) xs[k].L<;>cases xs[k].Ret<;>rfl
    ·rw[if_neg h1,if_neg h2,decide_eq_true (show (xs[k].V>=-20/\xs[k].V<=20) by omega)]
     by_cases h3:xs[k].V<0
     ·rw[if_pos h3,decide_eq_false (show ¬(xs[k].V>=0/\xs[k].V<=12) by omega)]
      cases labB (l.Up.length:Int) xs[k].L<;>cases xs[k].Ret<;>rfl
     ·by_cases h4:xs[k].V>12
      ·rw[if_neg h3,decide_eq_true h4,decide_eq_false (show ¬(xs[k].V>=0/\xs[k].V<=12) by omega)]
       cases labB (l.Up.length:Int) xs[k].L<;>cases xs[k].Ret<;>rfl
      ·rw[if_neg h3,decide_eq_false h4,decide_eq_true (show (xs[k].V>=0/\xs[k].V<=12) by omega)]
       cases labB (l.Up.length:Int) xs[k].L<;>cases xs[k].Ret<;>rfl
  rw[cY.l0,if_pos (by omega),bo hk,bsome,key,bsome,wS (by omega),od hl d (k+1) (by omega),List.drop_eq_getElem_cons hk,List.all_cons]
  cases okS (l.Up.length:Int) xs[k]<;>simp
theorem stack_r{l:az} {xs:List aF}(hl:xs.length<=1000):cY.f l xs=some (xs.all (okS (l.Up.length:Int))&&decide (xs.length<=12)):=by
 unfold cY.f
 have:=od (l:=l) hl xs.length 0 (by omega)
 rw[show ((0:Nat):Int)=0 from rfl,List.drop_zero] at this
 rw[this,bsome]
 cases xs.all (okS (l.Up.length:Int)) with
 |true=>
  show some (decide ((xs.length:Int)<=((12:Nat):Int)))=_
  rw[le_int];rfl
 |false=>rfl
theorem lw{l:az} {s:al}(z:Sz s):dg.f l s=some (rightS (l.Up.length:Int) s):=by
 unfold dg.f rightS
 rw[rright_eq z.code,mB,atoms_r z.mem,atoms_r z.out,stack_r z.stack,bsome,bsome,bsome]
 have hp:((if s.Pc.V<0 then (some true) else (if s.Pc.V>12 then (some true) else (some (!labB (l.Up.length:Int) s.Pc.L))):Option Bool))=some (!(plaB s.Pc.V&&labB (l.Up.length:Int) s.Pc.L)):=by
  unfold plaB
  by_cases h1:s.Pc.V<0
  ·rw[if_pos h1,decide_eq_false (by omega)];rfl
  ·by_cases h2:s.Pc.V>12
   ·rw[if_neg h1,if_pos h2,decide_eq_false (by omega)];rfl
   ·rw[if_neg h1,if_neg h2,decide_eq_true (by omega)];rfl
 rw[bsome,hp,bsome]
 have h6:((s.Mem.length:Int)<=6)↔s.Mem.length<=6:=by omega
 have h8:(decide ((s.Out.length:Int)<=8))=decide (s.Out.length<=8):=decide_eq_decide.2 (by omega)
 rw[h8]
 by_cases q:s.Mem.length<=6
 ·rw[if_pos (h6.2 q),decide_eq_true q]
  cases rightB (l.Up.length:Int) s.Code<;>cases plaB s.Pc.V<;>cases labB (l.Up.length:Int) s.Pc.L<;>cases s.Mem.all (okA (l.Up.length:Int))<;>cases s.Stack.all (okS (l.Up.length:Int))<;>cases s.Out.all (okA (l.Up.length:Int))<;>cases decide (s.Stack.length<=12)<;>cases decide (s.Out.length<=8)<;>rfl
 ·rw[if_neg (fun k=>q (h6.1 k)),decide_eq_false q]
  cases rightB (l.Up.length:Int) s.Code<;>cases plaB s.Pc.V<;>cases labB (l.Up.length:Int) s.Pc.L<;>cases s.Mem.all (okA (l.Up.length:Int))<;>rfl
end
section
theorem cut_eq(s:al):∃s',fk.f s=some s'/\Sz s':=by
 unfold fk.f
 rw[show (15:Int)=((15:Nat):Int) from rfl,if_pos cutok,if_pos cutok,if_pos cutok,if_pos cutok]
 refine⟨_,rfl,⟨?_,?_,?_,?_⟩⟩
 ·exact Nat.le_trans kW (by decide)
 ·exact Nat.le_trans kW (by decide)
 ·exact Nat.le_trans kW (by decide)
 ·exact Nat.le_trans kW (by decide)
end
end Go.Proofs.YtmjcpkmongafnaaGreatDoor.Ss
