import Derived.Test.YtmjcpkmongafnaaGreatDoorGTT
set_option linter.unusedVariables false
set_option linter.unusedSimpArgs false
set_option linter.unusedSectionVars false
namespace Go.Proofs.YtmjcpkmongafnaaGreatDoor.Ss
open Go Go.Proofs.YtmjcpkmongafnaaGreatDoor.Ab Go.Proofs.YtmjcpkmongafnaaGreatDoor.TT
section
theorem wrap64{x:Int}(h0:0<=x)(h1:x<9223372036854775808):IntKind.i64.wrap x=x:=by
 have e:x%(18446744073709551616:Int)=x:=Int.emod_eq_of_lt h0 (by omega)
 show (if (true&&decide (x%18446744073709551616>=9223372036854775808))=true then x%18446744073709551616-18446744073709551616 else x%18446744073709551616)=x
 rw[e,if_neg]
 simp
 omega
theorem br{α:Type} {xs:List α} {i:Nat}(h:i<xs.length):lAt xs (i:Int)=some xs[i]:=by
 simp[lAt,h]
end
section
theorem wrapU32{m:Nat}(h:m<4294967296):IntKind.u32.wrap (m:Int)=(m:Int):=by
 have e:(m:Int)%(4294967296:Int)=(m:Int):=Int.emod_eq_of_lt (by omega) (by omega)
 show (if (false&&decide ((m:Int)%4294967296>=2147483648))=true then (m:Int)%4294967296-4294967296 else (m:Int)%4294967296)=m
 rw[e,if_neg]
 simp
theorem fD{m:Nat}(h:m<4294967296):(BitVec.ofInt 32 (m:Int)).toNat=m:=by
 rw[BitVec.ofInt_natCast,BitVec.toNat_ofNat]
 exact Nat.mod_eq_of_lt h
theorem iC{a b:Nat}(ha:a<4294967296)(hb:b<4294967296):bAnd .u32 (a:Int) (b:Int)=((a&&&b:Nat):Int):=by
 unfold bAnd
 show IntKind.u32.wrap (((BitVec.ofInt 32 (a:Int)&&&BitVec.ofInt 32 (b:Int)).toNat:Nat):Int)=_
 rw[BitVec.toNat_and,fD ha,fD hb]
 exact wrapU32 (Nat.lt_of_le_of_lt Nat.and_le_left ha)
theorem bOr_nat{a b:Nat}(ha:a<4294967296)(hb:b<4294967296):bOr .u32 (a:Int) (b:Int)=((a|||b:Nat):Int):=by
 unfold bOr
 show IntKind.u32.wrap (((BitVec.ofInt 32 (a:Int)|||BitVec.ofInt 32 (b:Int)).toNat:Nat):Int)=_
 rw[BitVec.toNat_or,fD ha,fD hb]
 exact wrapU32 (Nat.or_lt_two_pow (n:=32) ha hb)
theorem iD{a k:Nat}(hk:k<=32):bShr .u32 (a:Int) (k:Int)=((a>>>k:Nat):Int):=by
 unfold bShr
 show (a:Int).fdiv (2^(min ((k:Int).toNat) 32))=_
 rw[Int.toNat_natCast,Nat.min_eq_left hk,Nat.shiftRight_eq_div_pow]
 rw[Int.fdiv_eq_ediv_of_nonneg _ (Int.le_of_lt (Int.pow_pos (by omega)))]
 norm_cast
end
section
open Classical
structure Is(l:aq)(U:List Nat):Prop where
 up:l.Up=U.map (fun x:Nat=>(x:Int))
 lt:∀x∈U,x<4294967296
 len:U.length<=10
theorem Is.n{l:aq} {U:List Nat}(h:Is l U):l.Up.length=U.length:=by rw[h.up];simp
theorem Is.at_{l:aq} {U:List Nat}(h:Is l U){i:Nat}(hi:i<U.length):lAt l.Up (i:Int)=some ((U[i]:Nat):Int):=by
 rw[h.up,br (by simpa using hi)]
 simp
theorem Is.u{l:aq} {U:List Nat}(h:Is l U){i:Nat}(hi:i<U.length):U[i]<4294967296:=h.lt _ (List.getElem_mem hi)
theorem shr1(u b:Nat):((u>>>b)&&&1=1)↔u.testBit b=true:=by
 rw[Nat.testBit,Nat.and_comm]
 rw[Nat.one_and_eq_mod_two]
 simp
theorem ju{l:aq} {U:List Nat}(h:Is l U){a b:Nat}(ha:a<U.length)(hb:b<=31):cF.f l a b=some (U[a].testBit b):=by
 unfold cF.f
 rw[h.at_ ha]
 show (if ¬(b:Int)<0 then some (decide (bAnd .u32 (bShr .u32 (U[a]:Nat) b) 1=1)) else none)=_
 rw[if_pos (by omega),iD (by omega)]
 have hs:U[a]>>>b<4294967296:=Nat.lt_of_le_of_lt (by rw[Nat.shiftRight_eq_div_pow];exact Nat.div_le_self ..) (h.u ha)
 rw[show (1:Int)=((1:Nat):Int) from rfl,iC hs (by omega)]
 congr 1
 rw[Bool.eq_iff_iff,decide_eq_true_iff,<-shr1]
 exact Int.natCast_inj
section
variable{τ:Type} {yb:τ->Int->Int->Option (Bool×(τ×Nat))} {n:Nat} {t t':τ} {bad:Nat->Nat->Bool}
theorem pairs_l3(hn:n<=1000)(a:Nat)(h:∀b,b<n->yb t a b=some (if bad a b then (false,(t',1)) else (true,(t,0)))):
  ∀(d k:Nat),n=k+d->ba.l3 (yOf yb) (n:Int) (a:Int) (t,0) (k:Int)=some (if∃b,k<=b/\b<n/\bad a b=true then .inl (t',1) else .inr (t,0)):=by
 intro d
 induction d with
 |zero=>
  intro k e
  rw[ba.l3,if_neg (by omega),if_neg (by rintro⟨b,h1,h2,_⟩;omega)]
 |succ d ih=>
  intro k e
  rw[ba.l3,if_pos (by omega)]
  rw[show yOf yb (t,0) (a:Int) (k:Int)=yb t a k from rfl,h k (by omega)]
  by_cases hb:bad a k=true
  ·rw[if_pos hb,if_pos ⟨k,Nat.le_refl _,by omega,hb⟩];rfl
  ·rw[if_neg hb]
   show ba.l3 (yOf yb) (n:Int) (a:Int) (t,0) (IntKind.i64.wrap ((k:Int)+1))=_
   rw[wrap64 (by omega) (by omega),show ((k:Int)+1)=((k+1:Nat):Int) by omega,ih (k+1) (by omega)]
   congr 1
   by_cases h1:∃b,k+1<=b/\b<n/\bad a b=true
   ·rw[if_pos h1]
    obtain⟨b,q1,q2,q3⟩:=h1
    rw[if_pos ⟨b,by omega,q2,q3⟩]
   ·rw[if_neg h1,if_neg]
    rintro⟨b,q1,q2,q3⟩
    rcases Nat.lt_or_ge k b with q|q
    ·exact h1 ⟨b,q,q2,q3⟩
    ·exact hb (by rw[show k=b by omega];exact q3)
theorem pairs_l2(hn:n<=1000)(h:∀a b,a<n->b<n->yb t a b=some (if bad a b then (false,(t',1)) else (true,(t,0)))):
  ∀(d k:Nat),n=k+d->ba.l2 (yOf yb) (n:Int) (t,0) (k:Int)=some (if∃a b,k<=a/\a<n/\b<n/\bad a b=true then .inl (t',1) else .inr (t,0)):=by
 intro d
 induction d with
 |zero=>
  intro k e
  rw[ba.l2,if_neg (by omega),if_neg (by rintro⟨a,b,h1,h2,_⟩;omega)]
 |succ d ih=>
  intro k e
  rw[ba.l2,if_pos (by omega)]
  have:=pairs_l3 (t':=t') hn k (fun b hb=>h k b (by omega) hb) n 0 (by omega)
  rw[show ((0:Nat):Int)=0 from rfl] at this
  rw[this]
  by_cases hb:∃b,0<=b/\b<n/\bad k b=true
  ·rw[if_pos hb]
   obtain⟨b,_,q2,q3⟩:=hb
   rw[if_pos ⟨k,b,Nat.le_refl _,by omega,q2,q3⟩];rfl
  ·rw[if_neg hb]
   show ba.l2 (yOf yb) (n:Int) (t,0) (IntKind.i64.wrap ((k:Int)+1))=_
   rw[wrap64 (by omega) (by omega),show ((k:Int)+1)=((k+1:Nat):Int) by omega,ih (k+1) (by omega)]
   congr 1
   by_cases h1:∃a b,k+1<=a/\a<n/\b<n/\bad a b=true
   ·rw[if_pos h1]
    obtain⟨a,b,q0,q1,q2,q3⟩:=h1
    rw[if_pos ⟨a,b,by omega,q1,q2,q3⟩]
   ·rw[if_neg h1,if_neg]
    rintro⟨a,b,q0,q1,q2,q3⟩
    rcases Nat.lt_or_ge k a with q|q
    ·exact h1 ⟨a,b,q,q1,q2,q3⟩
    ·exact hb ⟨b,Nat.zero_le _,q2,by rw[show k=a by omega];exact q3⟩
theorem lL(hn:n<=1000)(h:∀a b,a<n->b<n->yb t a b=some (if bad a b then (false,(t',1)) else (true,(t,0)))):
  ba.f (yOf yb) (t,0) (n:Int)=some (if∃a b,a<n/\b<n/\bad a b=true then (t',1) else (t,0)):=by
 unfold ba.f
 have:=pairs_l2 (t':=t') hn h n 0 (by omega)
 rw[show ((0:Nat):Int)=0 from rfl] at this
 rw[this]
 by_cases h1:∃a b,a<n/\b<n/\bad a b=true
 ·rw[if_pos h1]
  obtain⟨a,b,q⟩:=h1
  rw[if_pos ⟨a,b,Nat.zero_le _,q⟩];rfl
 ·rw[if_neg h1,if_neg (fun⟨a,b,_,q⟩=>h1 ⟨a,b,q⟩)];rfl
end
theorem lM{a b:Nat}(ha:a<4294967296)(hb:b<4294967296):bAndNot .u32 (a:Int) (b:Int)=0↔∀c,a.testBit c=true->b.testBit c=true:=by
 unfold bAndNot
 show IntKind.u32.wrap (((BitVec.ofInt 32 (a:Int)&&& ~~~BitVec.ofInt 32 (b:Int)).toNat:Nat):Int)=0↔_
 rw[wrapU32 (BitVec.isLt _)]
 have hbit:∀c,((BitVec.ofInt 32 (a:Int)&&& ~~~BitVec.ofInt 32 (b:Int)).toNat).testBit c=(a.testBit c&& !b.testBit c):=by
  intro c
  rw[BitVec.testBit_toNat,BitVec.getLsbD_and,BitVec.getLsbD_not,<-BitVec.testBit_toNat,<-BitVec.testBit_toNat,fD ha,fD hb]
  by_cases hc:c<32
  ·simp[hc]
  ·have:a.testBit c=false:=Nat.testBit_lt_two_pow (Nat.lt_of_lt_of_le ha (Nat.pow_le_pow_right (n:=2) (by omega) (show 32<=c by omega)))
   simp[this]
 constructor
 ·intro h c hc
  have h0:(BitVec.ofInt 32 (a:Int)&&& ~~~BitVec.ofInt 32 (b:Int)).toNat=0:=by omega
  have:=hbit c
  rw[h0,hc] at this
  simpa using this
 ·intro h
  have h0:(BitVec.ofInt 32 (a:Int)&&& ~~~BitVec.ofInt 32 (b:Int)).toNat=0:=by
   apply Nat.eq_of_testBit_eq
   intro c
   rw[hbit c]
   cases hc:a.testBit c with
   |false=>simp
   |true=>simp[h c hc]
  rw[h0];rfl
def le(U:List Nat)(a b:Nat):Bool:=(U.getD a 0).testBit b
theorem dZ{U:List Nat} {a b:Nat}(ha:a<U.length):le U a b=U[a].testBit b:=by simp[le,ha]
def Above(U:List Nat)(a b:Nat):Prop:=∀c,c<32->le U b c=true->le U a c=true
noncomputable def badO(U:List Nat)(a b:Nat):Bool:=(if a=b then !le U a b else le U a b&&le U b a)||(le U a b&& !decide (Above U a b))
theorem order_y0{l:aq} {U:List Nat}(h:Is l U){a b:Nat}(ha:a<U.length)(hb:b<U.length):
  cG.y0 l () (a:Int) (b:Int)=some (if badO U a b then (false,((),1)) else (true,((),0))):=by
 have hl:=h.len
 have hz:(decide (bAndNot .u32 ((U[b]:Nat):Int) ((U[a]:Nat):Int)=0))=decide (Above U a b):=by
  unfold Above
  rw[decide_eq_decide,lM (h.u hb) (h.u ha)]
  constructor
  ·intro q c _ hc;rw[dZ hb] at hc;rw[dZ ha];exact q c hc
  ·intro q c hc
   have hc32:c<32:=by
    rcases Nat.lt_or_ge c 32 with q|q
    ·exact q
    ·rw[Nat.testBit_lt_two_pow (Nat.lt_of_lt_of_le (h.u hb) (Nat.pow_le_pow_right (n:=2) (by omega) q))] at hc;cases hc
   have:=q c hc32 (by rw[dZ hb];exact hc)
   rwa [dZ ha] at this
 unfold cG.y0
 rw[ju h ha (by omega),ju h hb (by omega),h.at_ hb,h.at_ ha,<-dZ ha,<-dZ hb]
 unfold badO
 by_cases hS:Above U a b<;>simp only[hS,decide_true,decide_false] at hz⊢
 all_goals
  by_cases e:a=b
  ·subst e
   simp only[if_true,Option.bind_eq_bind,Option.bind_some]
   cases h1:le U a a<;>simp[hz]
  ·have e':¬(a:Int)=(b:Int):=by omega
   simp only[if_neg e,if_neg e',Option.bind_eq_bind,Option.bind_some]
   cases h1:le U a b<;>cases h2:le U b a<;>simp[hz]
def fstOf{ρ:Type}(n:Nat)(bad:Nat->Option ρ):Option ρ:=(List.range n).findSome? bad
def out{ρ:Type}:Option ρ->ρ⊕Unit
 |some r=>.inl r
 |none=>.inr ()
theorem search{ρ:Type}(L:Int->Option (ρ⊕Unit))(n:Nat)(bad:Nat->Option ρ)(hend:L (n:Int)=some (.inr ()))
  (hstep:∀k,k<n->L (k:Int)=(match bad k with|some r=>some (.inl r)|none=>L ((k+1:Nat):Int))):L 0=some (out (fstOf n bad)):=by
 have key:∀d k,n=k+d->L (k:Int)=some (out ((List.range' k d).findSome? bad)):=by
  intro d
  induction d with
  |zero=>intro k e;rw[show k=n by omega,hend];rfl
  |succ d ih=>
   intro k e
   rw[hstep k (by omega),List.range'_succ,List.findSome?_cons]
   cases hb:bad k with
   |some r=>rfl
   |none=>exact ih (k+1) (by omega)
 have:=key n 0 (by omega)
 rw[<-List.range_eq_range'] at this
 exact this
theorem iE{ρ:Type} {n:Nat} {bad:Nat->Option ρ}:fstOf n bad=none↔∀k,k<n->bad k=none:=by
 unfold fstOf
 rw[List.findSome?_eq_none_iff]
 simp
theorem fst_congr{ρ:Type} {n:Nat} {p q:Nat->Option ρ}(h:∀k,k<n->p k=q k):fstOf n p=fstOf n q:=by
 unfold fstOf
 have:∀l:List Nat,(∀k∈l,k<n)->l.findSome? p=l.findSome? q:=by
  intro l
  induction l with
  |nil=>intro _;rfl
  |cons a l ih=>
   intro hl
   rw[List.findSome?_cons,List.findSome?_cons,h a (hl a (List.mem_cons_self ..)),ih (fun k hk=>hl k (List.mem_cons_of_mem _ hk))]
 exact this _ (fun k hk=>by simpa using hk)
theorem fst_const{ρ:Type} {n:Nat} {bad:Nat->Option ρ} {r:ρ}(h:∀k s,bad k=some s->s=r):fstOf n bad=if∃k,k<n/\bad k≠none then some r else none:=by
 cases hf:fstOf n bad with
 |none=>rw[if_neg];rintro⟨k,hk,hb⟩;exact hb (iE.1 hf k hk)
 |some s=>
  have hs:s=r:=by
   unfold fstOf at hf
   obtain⟨k,_,hk⟩:=List.exists_of_findSome?_eq_some hf
   exact h k s hk
  rw[if_pos,hs]
  apply Classical.byContradiction
  intro hn
  have:fstOf n bad=none:=iE.2 (fun k hk=>Classical.byContradiction fun hb=>hn ⟨k,hk,hb⟩)
  rw[this] at hf;cases hf
theorem step1{k n:Nat}(h:n<=1000)(hk:k<n):IntKind.i64.wrap ((k:Int)+1)=((k+1:Nat):Int):=by
 rw[wrap64 (by omega) (by omega)];omega
theorem order_eq{l:aq} {U:List Nat}(h:Is l U):cG.f l=some (decide (¬∃a b,a<U.length/\b<U.length/\badO U a b=true)):=by
 unfold cG.f dV.f
 have hl:=h.len
 have:=lL (t:=()) (t':=()) (n:=U.length) (yb:=cG.y0 l) (bad:=badO U) (by omega) (fun a b ha hb=>order_y0 h ha hb)
 rw[h.n]
 simp only[Option.bind_eq_bind,Option.bind_some]
 rw[this]
 by_cases hb:∃a b,a<U.length/\b<U.length/\badO U a b=true
 ·rw[if_pos hb,decide_eq_false (fun k=>k hb)];rfl
 ·rw[if_neg hb,decide_eq_true hb];rfl
theorem lN{ρ:Type} {n:Nat} {f:Nat->Bool} {r:ρ}:(fstOf n fun k=>if f k then some r else none)=if decide (∃k,k<n/\f k=true)=true then some r else none:=by
 rw[fst_const (r:=r) (by intro k s e;split at e<;>simp_all)]
 have e:(∃k,k<n/\(if f k=true then some r else none:Option ρ)≠none)↔∃k,k<n/\f k=true:=by
  constructor
  ·rintro⟨k,hk,hb⟩;exact⟨k,hk,by split at hb<;>simp_all⟩
  ·rintro⟨k,hk,hb⟩;exact⟨k,hk,by rw[if_pos hb];simp⟩
 by_cases q:∃k,k<n/\f k=true
 ·rw[if_pos (e.2 q),decide_eq_true q];rfl
 ·rw[if_neg (fun k=>q (e.1 k)),decide_eq_false q];rfl
structure Ord(U:List Nat):Prop where
 refl:∀a,a<U.length->le U a a=true
 anti:∀a b,a<U.length->b<U.length->le U a b=true->le U b a=true->a=b
 trans:∀a b c,a<U.length->b<U.length->c<U.length->le U a b=true->le U b c=true->le U a c=true
theorem jU{U:List Nat}(hU:∀x∈U,x<2^U.length){a c:Nat}(h:le U a c=true):c<U.length:=by
 rcases Nat.lt_or_ge c U.length with q|q
 ·exact q
 ·unfold le at h
  have hx:U.getD a 0<2^U.length:=by
   rcases Nat.lt_or_ge a U.length with q2|q2
   ·have:=hU _ (List.getElem_mem q2)
    simpa [List.getD,q2] using this
   ·have:U.getD a 0=0:=by simp[List.getD,q2]
    rw[this];exact Nat.pow_pos (by omega)
  rw[Nat.testBit_lt_two_pow (Nat.lt_of_lt_of_le hx (Nat.pow_le_pow_right (n:=2) (by omega) q))] at h
  cases h
theorem ord_lat{U:List Nat}(hn:U.length<=10)(hU:∀x∈U,x<2^U.length):(¬∃a b,a<U.length/\b<U.length/\badO U a b=true)↔Ord U:=by
 constructor
 ·intro q
  refine⟨fun a ha=>?_,fun a b ha hb h1 h2=>?_,fun a b c ha hb hc h1 h2=>?_⟩
  ·cases e:le U a a with
   |true=>rfl
   |false=>exact absurd ⟨a,a,ha,ha,by simp[badO,e]⟩ q
  ·apply Classical.byContradiction
   intro e
   exact q ⟨a,b,ha,hb,by simp[badO,e,h1,h2]⟩
  ·cases e:le U a c with
   |true=>rfl
   |false=>
    refine absurd ⟨a,b,ha,hb,?_⟩ q
    have:¬Above U a b:=fun k=>by rw[k c (by omega) h2] at e;cases e
    simp[badO,h1,this]
 ·rintro q ⟨a,b,ha,hb,h1⟩
  unfold badO at h1
  rw[Bool.or_eq_true] at h1
  rcases h1 with h1|h1
  ·by_cases e:a=b
   ·subst e;rw[if_pos rfl,q.refl a ha] at h1;cases h1
   ·rw[if_neg e,Bool.and_eq_true] at h1;exact e (q.anti a b ha hb h1.1 h1.2)
  ·rw[Bool.and_eq_true] at h1
   have:Above U a b:=fun c _ hc=>q.trans a b c ha hb (jU hU hc) h1.1 hc
   simp[this] at h1
theorem mz{l:aq} {U:List Nat}(h:Is l U)(hU:∀x∈U,x<2^U.length):cG.f l=some (decide (Ord U)):=by
 rw[order_eq h]
 exact(by simp only[ord_lat h.len hU])
end
section
open Classical
def far(s:Str)(k:Nat):Bool:=decide (sAt s (k:Int)<97)||decide (sAt s (k:Int)>122)
theorem name_l0{s:Str}(hs:s.length<=1000):bO.l0 s 0=some (out (fstOf s.length fun k=>if far s k then some false else none)):=by
 refine search (fun k=>bO.l0 s k) s.length _ ?_ ?_
 ·show bO.l0 s (s.length:Int)=_
  rw[bO.l0,if_neg (by omega)]
 ·intro k hk
  show bO.l0 s (k:Int)=_
  rw[bO.l0,if_pos (by omega),step1 hs hk]
  have hb:(0:Int)<=(k:Int)/\(k:Int)<(s.length:Int):=⟨by omega,by omega⟩
  simp only[if_pos hb]
  unfold far
  by_cases h1:sAt s (k:Int)<97<;>by_cases h2:sAt s (k:Int)>122<;>simp[h1,h2]
noncomputable def nameOk(s:Str):Bool:= !decide (∃k,k<s.length/\far s k=true)&&(!decide (s=[])&&decide (s.length<=12))
theorem name_eq{s:Str}(hs:s.length<=1000):bO.f s=some (nameOk s):=by
 unfold bO.f nameOk
 rw[name_l0 hs,lN]
 generalize decide (∃k,k<s.length/\far s k=true)=P
 by_cases h1:s=[]
 ·subst h1;cases P<;>simp[out]
 ·have:0<s.length:=List.length_pos_iff.2 h1
  cases P<;>by_cases h2:s.length<=12<;>simp[out,h1,h2,this]<;>omega
theorem l6{xs:List Str} {a:Str}(hx:xs.length<=1000):bI.f xs a=some (decide (a∈xs)):=by
 unfold bI.f bg.f
 have key:bg.l0 xs a 0=some (out (fstOf xs.length fun k=>if xs[k]?=some a then some (k:Int) else none)):=by
  refine search (fun k=>bg.l0 xs a k) xs.length _ ?_ ?_
  ·show bg.l0 xs a (xs.length:Int)=_
   rw[bg.l0,if_neg (by omega)]
  ·intro k hk
   show bg.l0 xs a (k:Int)=_
   rw[bg.l0,if_pos (by omega),br hk,step1 hx hk,List.getElem?_eq_getElem hk]
   by_cases e:a=xs[k]
   ·simp[<-e]
   ·have:¬xs[k]=a:=fun q=>e q.symm
    simp[e,this]
 rw[key]
 cases hf:fstOf xs.length (fun k=>if xs[k]?=some a then some (k:Int) else none) with
 |none=>
  have hno:¬a∈xs:=by
   intro hm
   obtain⟨k,hk,e⟩:=List.getElem_of_mem hm
   have:=iE.1 hf k hk
   rw[if_pos (by rw[List.getElem?_eq_getElem hk,e])] at this;cases this
  simp[out,hno]
 |some r=>
  unfold fstOf at hf
  obtain⟨k,hk0,hk⟩:=List.exists_of_findSome?_eq_some hf
  have hm:a∈xs:=by
   by_cases e:xs[k]?=some a
   ·exact List.mem_of_getElem? e
   ·rw[if_neg e] at hk;cases hk
  have hr:r>=0:=by
   by_cases e:xs[k]?=some a
   ·rw[if_pos e] at hk;cases hk;omega
   ·rw[if_neg e] at hk;cases hk
  simp[out,hm,hr]
theorem high_shr{u n:Nat}(hn:n<=31):decide (bShr .u32 (u:Int) (n:Int)=0)= !decide (2^n<=u):=by
 rw[iD (by omega),<-decide_not,decide_eq_decide,Nat.shiftRight_eq_div_pow]
 rw[show (((u/2^n:Nat):Int)=0↔u/2^n=0) by omega]
 rw[Nat.div_eq_zero_iff]
 have hp:0<2^n:=Nat.pow_pos (by omega)
 omega
structure Nm(l:aq)(U:List Nat):Prop extends Is l U where
 nl:l.Names.length<=10
 sl:∀s∈l.Names,s.length<=1000
noncomputable def badM(N:List Str)(U:List Nat)(i:Nat):Bool:= !nameOk (N.getD i [])||(decide (N.getD i []∈N.take i)||decide (2^U.length<=U.getD i 0))
theorem lCut0{α:Type} {xs:List α} {i:Nat}:lCut xs 0 (i:Int)=xs.take i:=by simp[lCut]
theorem may_l0{l:aq} {U:List Nat}(h:Nm l U)(he:l.Names.length=U.length):
  bY.l0 l 0=some (out (fstOf U.length fun i=>if badM l.Names U i then some false else none)):=by
 have hl:=h.len
 refine search (fun k=>bY.l0 l k) U.length _ ?_ ?_
 ·show bY.l0 l (U.length:Int)=_
  rw[bY.l0,if_neg (by omega)]
 ·intro k hk
  show bY.l0 l (k:Int)=_
  have hkn:k<l.Names.length:=by omega
  have h15:l.Names[k].length<=1000:=Nat.le_trans (h.sl _ (List.getElem_mem hkn)) (by omega)
  rw[bY.l0,if_pos (by omega),br hkn]
  simp only[Option.bind_eq_bind,Option.bind_some]
  rw[name_eq h15]
  simp only[Option.bind_eq_bind,Option.bind_some]
  have hb:(0:Int)<=(k:Int)/\(k:Int)<=(l.Names.length:Int):=⟨by omega,by omega⟩
  simp only[if_pos hb]
  rw[lCut0,l6 (by simp;omega)]
  simp only[Option.bind_eq_bind,Option.bind_some]
  rw[h.at_ hk,h.n]
  simp only[Option.bind_eq_bind,Option.bind_some]
  have hb':¬(U.length:Int)<0:=by omega
  simp only[if_pos hb']
  rw[high_shr (by omega),step1 (by omega) hk]
  unfold badM
  have e1:l.Names.getD k []=l.Names[k]:=by simp[hkn]
  have e2:U.getD k 0=U[k]:=by simp[hk]
  rw[e1,e2]
  generalize decide (l.Names[k]∈l.Names.take k)=P
  generalize decide (2^U.length<=U[k])=Q
  cases nameOk l.Names[k]<;>cases P<;>cases Q<;>simp
structure May(l:aq)(U:List Nat):Prop where
 pos:1<=U.length
 le8:U.length<=8
 nm:l.Names.length=U.length
 ok:¬∃i,i<U.length/\badM l.Names U i=true
theorem may_prog{l:aq} {U:List Nat}(h:Nm l U):bY.f l=some (decide (May l U)):=by
 unfold bY.f
 rw[h.n]
 by_cases h1:(U.length:Int)<1
 ·have:¬May l U:=fun q=>by have:=q.pos;omega
  simp[h1,this]
 ·by_cases h2:(U.length:Int)>8
  ·have:¬May l U:=fun q=>by have:=q.le8;omega
   simp[h1,h2,this]
  ·by_cases he:l.Names.length=U.length
   ·have e:(l.Names.length:Int)=(U.length:Int):=by omega
    rw[may_l0 h he,lN]
    have hm:decide (May l U)= !decide (∃i,i<U.length/\badM l.Names U i=true):=by
     rw[<-decide_not,decide_eq_decide]
     exact⟨fun q=>q.ok,fun q=>⟨by omega,by omega,he,q⟩⟩
    rw[hm]
    generalize decide (∃i,i<U.length/\badM l.Names U i=true)=P
    cases P<;>simp[h1,h2,e,out]
   ·have:¬May l U:=fun q=>he q.nm
    have e:¬(l.Names.length:Int)=(U.length:Int):=by omega
    simp[h1,h2,this,e]
theorem May.bits{l:aq} {U:List Nat}(q:May l U):∀x∈U,x<2^U.length:=by
 intro x hx
 obtain⟨i,hi,e⟩:=List.getElem_of_mem hx
 apply Classical.byContradiction
 intro hn
 refine q.ok ⟨i,hi,?_⟩
 have e2:U.getD i 0=x:=by simp[hi,e]
 unfold badM
 rw[e2]
 simp[show 2^U.length<=x by omega]
noncomputable def fi(n:Nat)(p:Nat->Bool):Int:=match fstOf n (fun k=>if p k then some (k:Int) else none) with|some r=>r|none=> -1
theorem jV{n:Nat} {p:Nat->Bool}:(match (out (fstOf n (fun k=>if p k then some (k:Int) else none)):Int⊕Unit) with|.inl r=>some r|.inr ()=>some (-1:Int))=some (fi n p):=by
 unfold fi
 cases fstOf n (fun k=>if p k then some (k:Int) else none)<;>rfl
theorem fi_congr{n:Nat} {p q:Nat->Bool}(h:∀k,k<n->p k=q k):fi n p=fi n q:=by
 unfold fi
 rw[fst_congr (fun k hk=>by rw[h k hk])]
theorem fi_neg{n:Nat} {p:Nat->Bool}:fi n p<0↔∀k,k<n->p k=false:=by
 unfold fi
 cases hf:fstOf n (fun k=>if p k then some (k:Int) else none) with
 |none=>
  refine⟨fun _ k hk=>?_,fun _=>by simp⟩
  have:=iE.1 hf k hk
  cases hp:p k with
  |false=>rfl
  |true=>rw[hp] at this;simp at this
 |some r=>
  unfold fstOf at hf
  obtain⟨k,hk0,hk⟩:=List.exists_of_findSome?_eq_some hf
  cases hp:p k with
  |false=>rw[hp] at hk;simp at hk
  |true=>
   rw[hp] at hk
   simp at hk
   refine⟨fun q=>by simp at q;omega,fun q=>?_⟩
   rw[q k (by simpa using hk0)] at hp;cases hp
theorem ia{n:Nat} {p:Nat->Bool}(h:0<=fi n p):∃k,k<n/\p k=true/\fi n p=(k:Int):=by
 unfold fi at h⊢
 cases hf:fstOf n (fun k=>if p k then some (k:Int) else none) with
 |none=>rw[hf] at h;simp at h
 |some r=>
  unfold fstOf at hf
  obtain⟨k,hk0,hk⟩:=List.exists_of_findSome?_eq_some hf
  cases hp:p k with
  |false=>rw[hp] at hk;simp at hk
  |true=>rw[hp] at hk;simp at hk;exact⟨k,by simpa using hk0,hp,by simp[<-hk]⟩
theorem fi_one{n k:Nat} {p:Nat->Bool}(hk:k<n)(hp:p k=true)(h1:∀j,j<n->p j=true->j=k):fi n p=(k:Int):=by
 have:0<=fi n p:=by
  rcases(by omega:fi n p<0\/0<=fi n p) with q|q
  ·rw[fi_neg.1 q k hk] at hp;cases hp
  ·exact q
 obtain⟨j,hj,hpj,e⟩:=ia this
 rw[e,h1 j hj hpj]
noncomputable def lub(U:List Nat)(a b k:Nat):Bool:=decide (∀c,c<U.length->(le U k c=true↔le U a c=true/\le U b c=true))
noncomputable def glb(U:List Nat)(a b k:Nat):Bool:=decide (∀c,c<U.length->(le U c k=true↔le U c a=true/\le U c b=true))
noncomputable def jn(U:List Nat)(a b:Nat):Int:=fi U.length (lub U a b)
noncomputable def mt(U:List Nat)(a b:Nat):Int:=fi U.length (glb U a b)
theorem idxF_eq{xs:List Int} {p:Int->Bool} {g:Int->Option Bool}(hg:∀x,g x=some (p x))(hx:xs.length<=1000):
  aH.f xs g=some (fi xs.length (fun k=>p (xs.getD k 0))):=by
 unfold aH.f
 have key:aH.l0 xs g 0=some (out (fstOf xs.length fun k=>if p (xs.getD k 0) then some (k:Int) else none)):=by
  refine search (fun k=>aH.l0 xs g k) xs.length _ ?_ ?_
  ·show aH.l0 xs g (xs.length:Int)=_
   rw[aH.l0,if_neg (by omega)]
  ·intro k hk
   show aH.l0 xs g (k:Int)=_
   have e:xs.getD k 0=xs[k]:=by simp[hk]
   rw[aH.l0,if_pos (by omega),br hk,step1 hx hk,e]
   simp only[Option.bind_eq_bind,Option.bind_some]
   rw[hg]
   cases p xs[k]<;>simp
 rw[key]
 exact jV
theorem bits_eq{U:List Nat}(hU:∀x∈U,x<2^U.length){a b k:Nat}(ha:a<U.length)(hb:b<U.length)(hk:k<U.length):
  (U[k]=U[a]&&&U[b])↔(∀c,c<U.length->(le U k c=true↔le U a c=true/\le U b c=true)):=by
 constructor
 ·intro e c _
  rw[dZ hk,dZ ha,dZ hb,e,Nat.testBit_and,Bool.and_eq_true]
 ·intro h
  apply Nat.eq_of_testBit_eq
  intro c
  rw[Nat.testBit_and,<-dZ hk,<-dZ ha,<-dZ hb]
  rcases Nat.lt_or_ge c U.length with q|q
  ·rw[Bool.eq_iff_iff,Bool.and_eq_true];exact h c q
  ·have f:∀a,le U a c=false:=by
    intro a
    cases e:le U a c with
    |false=>rfl
    |true=>have:=jU hU e;omega
   rw[f,f,f];rfl
theorem join_eq{l:aq} {U:List Nat}(h:Is l U)(hU:∀x∈U,x<2^U.length){a b:Nat}(ha:a<U.length)(hb:b<U.length):dr.f l (a:Int) (b:Int)=some (jn U a b):=by
 have hl:=h.len
 unfold dr.f
 rw[h.at_ ha,h.at_ hb]
 simp only[Option.bind_eq_bind,Option.bind_some]
 rw[iC (h.u ha) (h.u hb),idxF_eq (g:=fun z0=>eB.f z0 ((U[a]&&&U[b]:Nat):Int)) (p:=fun x=>decide (x=((U[a]&&&U[b]:Nat):Int))) (fun x=>rfl) (by rw[h.n];omega)]
 simp only[Option.bind_some]
 rw[h.n]
 congr 1
 refine fi_congr fun k hk=>?_
 unfold lub
 rw[decide_eq_decide,<-bits_eq hU ha hb hk]
 have:l.Up.getD k 0=((U[k]:Nat):Int):=by rw[h.up];simp[hk]
 rw[this]
 exact Int.natCast_inj
theorem lO{x k:Nat}(hk:k<=20)(hx:x<=1):bShl .u32 (x:Int) (k:Int)=((x<<<k:Nat):Int):=by
 unfold bShl
 show IntKind.u32.wrap ((x:Int)*(2^(min ((k:Int).toNat) 32):Nat))=_
 rw[Int.toNat_natCast,Nat.min_eq_left (by omega),<-Int.natCast_mul,Nat.shiftLeft_eq]
 refine wrapU32 ?_
 have:2^k<=2^20:=Nat.pow_le_pow_right (by omega) hk
 have:x*2^k<=1*2^20:=Nat.mul_le_mul hx this
 omega
theorem shr_and1(u b:Nat):(u>>>b)&&&1=(u.testBit b).toNat:=by
 have:=shr1 u b
 rcases(show (u>>>b)&&&1=0\/(u>>>b)&&&1=1 by rw[Nat.and_comm,Nat.one_and_eq_mod_two];omega) with q|q
 ·cases e:u.testBit b with
  |false=>rw[q];rfl
  |true=>rw[this.2 e] at q;cases q
 ·rw[this.1 q,q];rfl
theorem down_l0{l:aq} {U:List Nat}(h:Is l U){a:Nat}(ha:a<=31):
  ∀(d k v:Nat),U.length=k+d->v<2^k->∃r:Nat,bQ.l0 l (a:Int) (k:Int) (v:Int)=some (r:Int)/\r<2^U.length/\∀c,r.testBit c=if c<k then v.testBit c else (decide (c<U.length)&&le U c a)
 |0,k,v,e,hv=>by
  have hl:=h.len
  refine⟨v,?_,by rw[e];exact hv,fun c=>?_⟩
  ·rw[bQ.l0,h.n,if_neg (by omega)]
  ·by_cases hc:c<k
   ·rw[if_pos hc]
   ·rw[if_neg hc,Nat.testBit_lt_two_pow (Nat.lt_of_lt_of_le hv (Nat.pow_le_pow_right (n:=2) (by omega) (by omega)))]
    have:¬c<U.length:=by omega
    simp[this]
 |d+1,k,v,e,hv=>by
  have hl:=h.len
  have hk:k<U.length:=by omega
  have hs:U[k]>>>a<4294967296:=Nat.lt_of_le_of_lt (by rw[Nat.shiftRight_eq_div_pow];exact Nat.div_le_self ..) (h.u hk)
  have hb1:(U[k].testBit a).toNat<=1:=by cases U[k].testBit a<;>decide
  have hsh:(U[k].testBit a).toNat<<<k<2^(k+1):=by
   rw[Nat.shiftLeft_eq,Nat.pow_succ]
   have hp:0<2^k:=Nat.pow_pos (by omega)
   cases U[k].testBit a<;>simp<;>omega
  have h10:2^(k+1)<=2^20:=Nat.pow_le_pow_right (by omega) (by omega)
  have hv':v<2^(k+1):=Nat.lt_of_lt_of_le hv (Nat.pow_le_pow_right (by omega) (by omega))
  obtain⟨r,hr1,hr2,hr3⟩:=down_l0 h ha d (k+1) (v|||((U[k].testBit a).toNat<<<k)) (by omega) (Nat.or_lt_two_pow hv' hsh)
  refine⟨r,?_,hr2,fun c=>?_⟩
  ·rw[bQ.l0,h.n,if_pos (by omega),h.at_ hk]
   simp only[Option.bind_eq_bind,Option.bind_some]
   rw[if_pos (by omega),if_pos (by omega),iD (by omega),show (1:Int)=((1:Nat):Int) from rfl,iC hs (by omega),shr_and1,lO (by omega) hb1,bOr_nat (by omega) (by omega)]
   rw[show ((1:Nat):Int)=1 from rfl,step1 (by omega) hk]
   exact hr1
  ·rw[hr3 c,Nat.testBit_or,Nat.testBit_shiftLeft]
   rcases Nat.lt_trichotomy c k with q|q|q
   ·rw[if_pos (by omega),if_pos q]
    have:decide (c>=k)=false:=decide_eq_false (by omega)
    rw[this];simp
   ·subst q
    rw[if_pos (by omega),if_neg (by omega),Nat.testBit_lt_two_pow hv,dZ hk]
    have:decide (c<U.length)=true:=decide_eq_true hk
    rw[this]
    cases U[c].testBit a<;>simp
   ·rw[if_neg (by omega),if_neg (by omega)]
theorem j6{l:aq} {U:List Nat}(h:Is l U){a:Nat}(ha:a<=31):∃r:Nat,bQ.f l (a:Int)=some (r:Int)/\r<2^U.length/\∀c,r.testBit c=(decide (c<U.length)&&le U c a):=by
 obtain⟨r,h1,h2,h3⟩:=down_l0 h ha U.length 0 0 (by omega) (by simp)
 refine⟨r,?_,h2,fun c=>by rw[h3 c,if_neg (by omega)]⟩
 unfold bQ.f
 rw[show ((0:Nat):Int)=0 from rfl] at h1
 rw[h1];rfl
theorem meet_eq{l:aq} {U:List Nat}(h:Is l U){a b:Nat}(ha:a<U.length)(hb:b<U.length):bN.f l (a:Int) (b:Int)=some (mt U a b):=by
 have hl:=h.len
 obtain⟨ra,ea,la,ta⟩:=j6 h (a:=a) (by omega)
 obtain⟨rb,eb,lb,tb⟩:=j6 h (a:=b) (by omega)
 have h10:2^U.length<=2^10:=Nat.pow_le_pow_right (by omega) hl
 unfold bN.f
 rw[ea,eb]
 simp only[Option.bind_eq_bind,Option.bind_some]
 have key:bN.l0 l (ra:Int) (rb:Int) 0=some (out (fstOf U.length fun k=>if glb U a b k then some (k:Int) else none)):=by
  refine search (fun k=>bN.l0 l (ra:Int) (rb:Int) k) U.length _ ?_ ?_
  ·show bN.l0 l (ra:Int) (rb:Int) (U.length:Int)=_
   rw[bN.l0,h.n,if_neg (by omega)]
  ·intro k hk
   show bN.l0 l (ra:Int) (rb:Int) (k:Int)=_
   obtain⟨rk,ek,lk,tk⟩:=j6 h (a:=k) (by omega)
   rw[bN.l0,h.n,if_pos (by omega),ek,iC (by omega) (by omega),step1 (by omega) hk]
   simp only[Option.bind_eq_bind,Option.bind_some]
   have hg:((rk:Int)=((ra&&&rb:Nat):Int))↔glb U a b k=true:=by
    rw[Int.natCast_inj]
    unfold glb
    rw[decide_eq_true_iff]
    constructor
    ·intro e c hc
     have:=congrArg (fun x=>x.testBit c) e
     simp only[Nat.testBit_and,tk,ta,tb,decide_eq_true hc,Bool.true_and] at this
     rw[this,Bool.and_eq_true]
    ·intro q
     apply Nat.eq_of_testBit_eq
     intro c
     rw[Nat.testBit_and,tk,ta,tb]
     rcases Nat.lt_or_ge c U.length with hc|hc
     ·rw[decide_eq_true hc,Bool.true_and,Bool.true_and,Bool.true_and,Bool.eq_iff_iff,Bool.and_eq_true];exact q c hc
     ·rw[decide_eq_false (by omega)];rfl
   cases e:glb U a b k with
   |true=>rw[if_pos (hg.2 e)];rfl
   |false=>rw[if_neg (fun q=>by rw[hg.1 q] at e;cases e)];rfl
 rw[key]
 exact jV
noncomputable def bad3(U:List Nat)(a b:Nat):Bool:=decide (jn U a b<0)||decide (mt U a b<0)
noncomputable def chk(l:aq)(U:List Nat):Int:=if ¬May l U then 1 else if ¬Ord U then 2 else if∃a b,a<U.length/\b<U.length/\bad3 U a b=true then 3 else 0
theorem fU{l:aq} {U:List Nat}(h:Nm l U):bE.f l=some (chk l U):=by
 have hl:=h.len
 unfold bE.f chk
 rw[may_prog h]
 by_cases hm:May l U
 ·rw[mz h.toIs hm.bits]
  by_cases hO:Ord U
  ·unfold dV.f
   have:=lL (t:=(0:Int)) (t':=3) (n:=U.length) (yb:=bE.y0 l) (bad:=bad3 U) (by omega) (fun a b ha hb=>by
    unfold bE.y0 bad3
    rw[join_eq h.toIs hm.bits ha hb,meet_eq h.toIs ha hb]
    by_cases h1:jn U a b<0<;>by_cases h2:mt U a b<0<;>simp[h1,h2])
   rw[h.n]
   simp only[Option.bind_eq_bind,Option.bind_some]
   rw[this]
   by_cases hb:∃a b,a<U.length/\b<U.length/\bad3 U a b=true
   ·simp only[if_pos hb,hm,hO];simp
   ·simp only[if_neg hb,hm,hO];simp
  ·simp[hm,hO]
 ·simp[hm]
theorem eY{l:aq} {U:List Nat}(h:chk l U=0):May l U/\Ord U/\∀a b,a<U.length->b<U.length->0<=jn U a b/\0<=mt U a b:=by
 unfold chk at h
 by_cases hm:May l U
 ·by_cases hO:Ord U
  ·by_cases hb:∃a b,a<U.length/\b<U.length/\bad3 U a b=true
   ·rw[if_neg (fun k=>k hm),if_neg (fun k=>k hO),if_pos hb] at h;cases h
   ·refine⟨hm,hO,fun a b ha hb'=>?_⟩
    have:¬bad3 U a b=true:=fun q=>hb ⟨a,b,ha,hb',q⟩
    simp[bad3] at this
    exact this
  ·rw[if_neg (fun k=>k hm),if_pos hO] at h;cases h
 ·rw[if_pos hm] at h;cases h
theorem idxFI_eq{xs:List Int} {p:Int->Bool} {g:Int->Option Bool}(hg:∀x,g x=some (p x))(hx:xs.length<=1000):
  aW.f xs g=some (fi xs.length (fun k=>p (xs.getD k 0))):=by
 unfold aW.f
 have key:aW.l0 xs g 0=some (out (fstOf xs.length fun k=>if p (xs.getD k 0) then some (k:Int) else none)):=by
  refine search (fun k=>aW.l0 xs g k) xs.length _ ?_ ?_
  ·show aW.l0 xs g (xs.length:Int)=_
   rw[aW.l0,if_neg (by omega)]
  ·intro k hk
   show aW.l0 xs g (k:Int)=_
   have e:xs.getD k 0=xs[k]:=by simp[hk]
   rw[aW.l0,if_pos (by omega),br hk,step1 hx hk,e]
   simp only[Option.bind_eq_bind,Option.bind_some]
   rw[hg]
   cases p xs[k]<;>simp
 rw[key]
 exact jV
def inn(n:Nat)(a:Int):Bool:=decide (0<=a)&&decide (a<(n:Int))
theorem gB{xs:List Int} {p:Int->Bool} {g:Int->Option Bool}(hg:∀x,g x=some (p x))(hx:xs.length<=1000):
  bB.f xs g=some (xs.any p):=by
 unfold bB.f
 rw[idxFI_eq hg hx]
 show some (decide (fi xs.length (fun k=>p (xs.getD k 0))>=0))=_
 congr 1
 rw[Bool.eq_iff_iff,decide_eq_true_iff,List.any_eq_true]
 constructor
 ·intro q
  obtain⟨k,hk,hp,_⟩:=ia q
  refine⟨xs[k],List.getElem_mem hk,?_⟩
  simpa [hk] using hp
 ·rintro⟨x,hx,hp⟩
  obtain⟨k,hk,e⟩:=List.getElem_of_mem hx
  rcases(by omega:fi xs.length (fun k=>p (xs.getD k 0))<0\/fi xs.length (fun k=>p (xs.getD k 0))>=0) with q|q
  ·have:=fi_neg.1 q k hk
   simp[hk,e,hp] at this
  ·exact q
theorem fW{l:aq} {U:List Nat}(h:Nm l U){xs:List Int}(hx:xs.length<=1000):
  cE.f l xs=some (if chk l U=0 then (if xs.all (inn U.length)=true then 0 else 9) else chk l U):=by
 unfold cE.f
 rw[fU h,gB (g:=fun z0=>dO.f z0 l) (p:=fun a=> !inn U.length a) (fun x=>by
  unfold dO.f inn
  rw[h.n]
  by_cases h1:x<0
  ·have h1':¬0<=x:=by omega
   simp[h1,h1']
  ·have h1':0<=x:=by omega
   by_cases h2:x<(U.length:Int)
   ·have h2':¬x>=(U.length:Int):=by omega
    simp[h1,h1',h2,h2']
   ·have h2':x>=(U.length:Int):=by omega
    simp[h1,h1',h2,h2']) hx]
 have:xs.any (fun a=> !inn U.length a)= !xs.all (inn U.length):=by rw[List.not_all_eq_any_not]
 rw[this]
 by_cases h0:chk l U=0<;>cases xs.all (inn U.length)<;>simp[h0]
theorem iX{n:Nat} {a:Int}(h:inn n a=true):∃k:Nat,a=(k:Int)/\k<n:=by
 unfold inn at h
 simp at h
 exact⟨a.toNat,by omega,by omega⟩
end
section
open Classical
theorem inRow{α:Type} {d:Kd α} {H:FH} {cs:List Value} {xs:List α}(h:(kL d).reps H cs xs):∀x∈xs,∃c,d.reps H c x:=by
 obtain⟨A,c,_,_,_,_,hs⟩:=h
 intro x hx
 rcases hs with e|⟨b,off,cells,t,fr,_,_,hr⟩
 ·rw[e] at hx;cases hx
 ·obtain⟨k,hk,e⟩:=List.getElem_of_mem hx
  exact⟨_,hr.2 k x (by rw[List.getElem?_eq_getElem hk,e])⟩
theorem inLen{α:Type} {d:Kd α} {H:FH} {cs:List Value} {xs:List α}(h:(kL d).reps H cs xs):xs.length<=big:=by
 obtain⟨A,c,_,_,_,hb,hs⟩:=h
 exact hb
theorem lat_in{l:aq}(h:∃H cs,(kR aA).reps H cs l):(∀x∈l.Up,0<=x/\x<4294967296)/\l.Up.length<=big/\l.Names.length<=big:=by
 obtain⟨H,cs,c1,c2,e,h1,c3,c4,e2,h2,_⟩:=h
 have h1':(kL kS).reps H c1 l.Names:=h1
 have h2':(kL (kI .u32)).reps H c3 l.Up:=h2
 refine⟨fun x hx=>?_,inLen h2',inLen h1'⟩
 obtain⟨c,hc⟩:=inRow h2' x hx
 have:InR .u32 x:=hc.2
 unfold InR IntKind.min IntKind.max at this
 simp[IntKind.signed,IntKind.bits] at this
 omega
theorem few_l0{l:aq}(hm:(if 10<(l.Names.length:Int) then (10:Int) else (l.Names.length:Int))=((min 10 l.Names.length:Nat):Int)):
  ∀(d k:Nat) (acc:List Str),min 10 l.Names.length=k+d->acc.length=k->(∀s∈acc,s.length<=15)->∃r,cu.l0 l acc (k:Int)=some r/\r.length=min 10 l.Names.length/\∀s∈r,s.length<=15
 |0,k,acc,e,ha,hs=>by
  refine⟨acc,?_,by omega,hs⟩
  have hlen:((lCut l.Names 0 ((min 10 l.Names.length:Nat):Int)).length)=min 10 l.Names.length:=by rw[lCut0,List.length_take];omega
  rw[cu.l0,hm,hlen,if_neg (by omega)]
 |d+1,k,acc,e,ha,hs=>by
  have hlen:((lCut l.Names 0 ((min 10 l.Names.length:Nat):Int)).length)=min 10 l.Names.length:=by rw[lCut0,List.length_take];omega
  have hk:k<(lCut l.Names 0 ((min 10 l.Names.length:Nat):Int)).length:=by omega
  rw[cu.l0,hm,if_pos (by omega),br hk]
  simp only[Option.bind_eq_bind,Option.bind_some]
  generalize (lCut l.Names 0 ((min 10 l.Names.length:Nat):Int))[k]=s
  have hm2:(if 15<(s.length:Int) then (15:Int) else (s.length:Int))=((min 15 s.length:Nat):Int):=by split<;>omega
  rw[hm2,if_pos ⟨by omega,by omega⟩,if_pos (by unfold big;simp;omega),wrap64 (by omega) (by omega)]
  have:=few_l0 hm d (k+1) (acc++[sCut s 0 ((min 15 s.length:Nat):Int)]) (by omega) (by simp[ha]) (by
   intro t ht
   rw[List.mem_append] at ht
   rcases ht with ht|ht
   ·exact hs t ht
   ·simp at ht;subst ht
    simp[sCut];omega)
  rw[show ((k:Int)+1)=((k+1:Nat):Int) by omega]
  exact this
theorem few_eq{l:aq}(h:∃H cs,(kR aA).reps H cs l):∃l' U,cu.f l=some l'/\Nm l' U:=by
 obtain⟨h1,h2,h3⟩:=lat_in h
 have hu:(if 10<(l.Up.length:Int) then (10:Int) else (l.Up.length:Int))=((min 10 l.Up.length:Nat):Int):=by split<;>omega
 have hm:(if 10<(l.Names.length:Int) then (10:Int) else (l.Names.length:Int))=((min 10 l.Names.length:Nat):Int):=by split<;>omega
 obtain⟨r,hr,hl,hs⟩:=few_l0 hm (min 10 l.Names.length) 0 [] (by omega) rfl (fun s hs=>by cases hs)
 refine⟨⟨r,lCut l.Up 0 ((min 10 l.Up.length:Nat):Int)⟩,(l.Up.take 10).map Int.toNat,?_,⟨⟨?_,?_,?_⟩,?_,fun s h=>Nat.le_trans (hs s h) (by omega)⟩⟩
 ·unfold cu.f
  rw[show ((0:Nat):Int)=0 from rfl] at hr
  rw[hu,hm,if_pos ⟨by omega,by omega⟩,if_pos ⟨by omega,by omega⟩,hr]
  rfl
 ·show lCut l.Up 0 ((min 10 l.Up.length:Nat):Int)=_
  rw[lCut0,List.map_map]
  have:l.Up.take (min 10 l.Up.length)=l.Up.take 10:=by
   rcases Nat.le_total 10 l.Up.length with q|q
   ·rw[Nat.min_eq_left q]
   ·rw[Nat.min_eq_right q,List.take_of_length_le (Nat.le_refl _),List.take_of_length_le q]
  rw[this]
  have e2:(l.Up.take 10).map ((fun x:Nat=>(x:Int))∘Int.toNat)=(l.Up.take 10).map id:=List.map_congr_left (fun x hx=>by
   have:=h1 x (List.mem_of_mem_take hx)
   simp;omega)
  rw[e2,List.map_id]
 ·intro x hx
  rw[List.mem_map] at hx
  obtain⟨y,hy,e⟩:=hx
  have:=h1 y (List.mem_of_mem_take hy)
  omega
 ·simp;omega
 ·show r.length<=10
  omega
section
variable{l:aq} {U:List Nat}
theorem all2{n:Nat} {a b:Int}:([a,b]:List Int).all (inn n)=(inn n a&&inn n b):=by simp
theorem gf{n k:Nat}(h:k<n):inn n (k:Int)=true:=by unfold inn;simp;omega
theorem yes2(h:Nm l U)(hc:chk l U=0){a b:Nat}(ha:a<U.length)(hb:b<U.length):
  cP.f l (a:Int) (b:Int)=some (le U a b,0)/\dA.f l (a:Int) (b:Int)=some (jn U a b,0)/\dB.f l (a:Int) (b:Int)=some (mt U a b,0):=by
 obtain⟨hm,hO,_⟩:=eY hc
 have hl:=h.len
 refine⟨?_,?_,?_⟩
 ·unfold cP.f
  rw[fW h (by simp),all2,gf ha,gf hb,hc,ju h.toIs ha (by omega),dZ ha];rfl
 ·unfold dA.f
  rw[fW h (by simp),all2,gf ha,gf hb,hc,join_eq h.toIs hm.bits ha hb];rfl
 ·unfold dB.f
  rw[fW h (by simp),all2,gf ha,gf hb,hc,meet_eq h.toIs ha hb];rfl
end
theorem idxU_eq{xs:List Int} {a:Int}(hx:xs.length<=1000):
  bb.f xs a=some (fi xs.length (fun k=>decide (a=xs.getD k 0))):=by
 unfold bb.f
 have key:bb.l0 xs a 0=some (out (fstOf xs.length fun k=>if decide (a=xs.getD k 0) then some (k:Int) else none)):=by
  refine search (fun k=>bb.l0 xs a k) xs.length _ ?_ ?_
  ·show bb.l0 xs a (xs.length:Int)=_
   rw[bb.l0,if_neg (by omega)]
  ·intro k hk
   show bb.l0 xs a (k:Int)=_
   have e:xs.getD k 0=xs[k]:=by simp[hk]
   rw[bb.l0,if_pos (by omega),br hk,step1 hx hk,e]
   by_cases q:a=xs[k]<;>simp[q]
 rw[key]
 exact jV
theorem count8:∀x:Nat,x<256->eC.f (x:Int)=some (sAt ks0 (x:Int)):=by decide+kernel
theorem count1:∀x:Nat,x<256->∀k:Nat,k<8->x.testBit k=true->((sAt ks0 (x:Int)=1)↔x=2^k):=by decide+kernel
theorem all1s:∀n:Nat,n<9->IntKind.u32.wrap ((bShl .u32 1 (n:Int))-1)=((2^n-1:Nat):Int):=by decide+kernel
section
variable{l:aq} {U:List Nat}
theorem getU(h:Is l U){k:Nat}(hk:k<U.length):l.Up.getD k 0=((U[k]:Nat):Int):=by rw[h.up];simp[hk]
theorem Up_len(h:Is l U):l.Up.length<=1000:=by rw[h.n];have:=h.len;omega
theorem mA(hO:Ord U){j k:Nat}(hj:j<U.length)(hk:k<U.length)(h1:∀c,c<U.length->le U j c=true)(h2:∀c,c<U.length->le U k c=true):j=k:=
 hO.anti j k hj hk (h1 k hk) (h2 j hj)
theorem mt_is(hO:Ord U){a b:Nat}(ha:a<U.length)(hb:b<U.length)(h:0<=mt U a b):∃k:Nat,mt U a b=(k:Int)/\k<U.length/\le U k a=true/\le U k b=true:=by
 obtain⟨k,hk,hp,e⟩:=ia h
 unfold glb at hp
 have hp:=of_decide_eq_true hp
 have:=(hp k hk).1 (hO.refl k hk)
 exact⟨k,e,hk,this.1,this.2⟩
theorem jn_is(hO:Ord U){a b:Nat}(ha:a<U.length)(hb:b<U.length)(h:0<=jn U a b):∃k:Nat,jn U a b=(k:Int)/\k<U.length/\le U a k=true/\le U b k=true:=by
 obtain⟨k,hk,hp,e⟩:=ia h
 unfold lub at hp
 have hp:=of_decide_eq_true hp
 have:=(hp k hk).1 (hO.refl k hk)
 exact⟨k,e,hk,this.1,this.2⟩
theorem bot_lo(hc:chk l U=0):∀(d k r:Nat),U.length=k+d->r<U.length->(∀c,c<k->le U r c=true)->∃r':Nat,r'<U.length/\∀c,c<U.length->le U r' c=true
 |0,k,r,e,hr,hb=>⟨r,hr,fun c hc=>hb c (by omega)⟩
 |d+1,k,r,e,hr,hb=>by
  obtain⟨hm,hO,hj⟩:=eY hc
  have hk:k<U.length:=by omega
  obtain⟨m,em,hm',m1,m2⟩:=mt_is hO hr hk (hj r k hr hk).2
  refine bot_lo hc d (k+1) m (by omega) hm' (fun c hc=>?_)
  rcases(by omega:c<k\/c=k) with q|rfl
  ·exact hO.trans m r c hm' hr (by omega) m1 (hb c q)
  ·exact m2
theorem top_hi(hc:chk l U=0):∀(d k r:Nat),U.length=k+d->r<U.length->(∀c,c<k->le U c r=true)->∃r':Nat,r'<U.length/\∀c,c<U.length->le U c r'=true
 |0,k,r,e,hr,hb=>⟨r,hr,fun c hc=>hb c (by omega)⟩
 |d+1,k,r,e,hr,hb=>by
  obtain⟨hm,hO,hj⟩:=eY hc
  have hk:k<U.length:=by omega
  obtain⟨m,em,hm',m1,m2⟩:=jn_is hO hr hk (hj r k hr hk).1
  refine top_hi hc d (k+1) m (by omega) hm' (fun c hc=>?_)
  rcases(by omega:c<k\/c=k) with q|rfl
  ·exact hO.trans c r m (by omega) hr hm' (hb c q) m1
  ·exact m2
theorem lC(h:Nm l U)(hc:chk l U=0):∃y:Nat,(y<U.length/\∀c,c<U.length->le U y c=true)/\cx.f l=some ((y:Int),0):=by
 obtain⟨hm,hO,_⟩:=eY hc
 have hl:=h.len
 have hp:=hm.pos
 have h8:=hm.le8
 obtain⟨r,hr,hb⟩:=bot_lo hc U.length 0 0 (by omega) (by omega) (fun c hc=>by omega)
 refine⟨r,⟨hr,hb⟩,?_⟩
 ·unfold cx.f
  rw[fW h (by simp),hc,h.n]
  have e0:((if (0:Int)=0 then if (([]:List Int).all (inn U.length))=true then (0:Int) else 9 else 0))=0:=by simp
  rw[e0]
  have eb:∀f:Int->Option (Int×Int),(some (0:Int)>>=f)=f 0:=fun _=>rfl
  rw[eb]
  rw[if_pos rfl,if_pos (by omega),all1s U.length (by omega),idxU_eq (Up_len h.toIs)]
  have:fi l.Up.length (fun k=>decide (((2^U.length-1:Nat):Int)=l.Up.getD k 0))=(r:Int):=by
   rw[h.n]
   have key:∀k,k<U.length->(decide (((2^U.length-1:Nat):Int)=l.Up.getD k 0)=true↔∀c,c<U.length->le U k c=true):=by
    intro k hk
    rw[decide_eq_true_iff,getU h.toIs hk,Int.natCast_inj]
    constructor
    ·intro e c hcl
     rw[dZ hk,<-e,Nat.testBit_two_pow_sub_one];exact decide_eq_true hcl
    ·intro q
     apply Nat.eq_of_testBit_eq
     intro c
     rw[Nat.testBit_two_pow_sub_one,<-dZ hk]
     rcases Nat.lt_or_ge c U.length with hcl|hcl
     ·rw[q c hcl,decide_eq_true hcl]
     ·rw[decide_eq_false (by omega)]
      cases e:le U k c with
      |false=>rfl
      |true=>have:=jU hm.bits e;omega
   exact fi_one hr ((key r hr).2 hb) (fun j hj q=>mA hO hj hr ((key j hj).1 q) hb)
  rw[this];rfl
theorem top_one(hO:Ord U)(h8:U.length<=8)(hU:∀x∈U,x<2^U.length){k r:Nat}(hk:k<U.length)(hr:r<U.length)(hb:∀c,c<U.length->le U c r=true):(dC.f ((U[k]:Nat):Int))=some (decide (k=r)):=by
 have hx:U[k]<256:=Nat.lt_of_lt_of_le (hU _ (List.getElem_mem hk)) (Nat.pow_le_pow_right (n:=2) (by omega) h8)
 unfold dC.f
 rw[count8 _ hx]
 show some (decide (sAt ks0 ((U[k]:Nat):Int)=1))=_
 congr 1
 have hkk:U[k].testBit k=true:=by rw[<-dZ hk];exact hO.refl k hk
 rw[decide_eq_decide,count1 _ hx k (by omega) hkk]
 constructor
 ·intro e
  have:=hb k hk
  rw[dZ hk,e,Nat.testBit_two_pow] at this
  exact of_decide_eq_true this
 ·intro e
  subst e
  apply Nat.eq_of_testBit_eq
  intro c
  rw[Nat.testBit_two_pow,<-dZ hk,Bool.eq_iff_iff,decide_eq_true_iff]
  constructor
  ·intro q
   have hcl:=jU hU q
   exact hO.anti k c hk hcl q (hb c hcl)
  ·intro e;rw[<-e];exact hO.refl k hk
theorem lK(h:Nm l U)(hc:chk l U=0):∃y:Nat,(y<U.length/\∀c,c<U.length->le U c y=true)/\dg.f l=some ((y:Int),0):=by
 obtain⟨hm,hO,_⟩:=eY hc
 have hl:=h.len
 have hp:=hm.pos
 have h8:=hm.le8
 obtain⟨r,hr,hb⟩:=top_hi hc U.length 0 0 (by omega) (by omega) (fun c hc=>by omega)
 refine⟨r,⟨hr,hb⟩,?_⟩
 ·unfold dg.f
  rw[fW h (by simp),hc]
  have e0:((if (0:Int)=0 then if (([]:List Int).all (inn U.length))=true then (0:Int) else 9 else 0))=0:=by simp
  rw[e0]
  have eb:∀f:Int->Option (Int×Int),(some (0:Int)>>=f)=f 0:=fun _=>rfl
  rw[eb]
  rw[if_pos rfl]
  obtain⟨p,hp2⟩:∃p:Nat->Bool,∀k,p k=true↔k=r:=⟨fun k=>Nat.beq k r,fun k=>⟨fun e=>Nat.eq_of_beq_eq_true e,fun e=>by rw[e];exact Nat.beq_refl r⟩⟩
  have key:aH.l0 l.Up dC.f 0=some (out (fstOf U.length fun k=>if p k then some (k:Int) else none)):=by
   refine search (fun k=>aH.l0 l.Up dC.f k) U.length _ ?_ ?_
   ·show aH.l0 l.Up dC.f (U.length:Int)=_
    rw[aH.l0,h.n,if_neg (by omega)]
   ·intro k hk
    show aH.l0 l.Up dC.f (k:Int)=_
    rw[aH.l0,h.n,if_pos (by omega),h.at_ hk,step1 (by omega) hk]
    simp only[Option.bind_eq_bind,Option.bind_some]
    rw[top_one hO h8 hm.bits hk hr hb]
    by_cases e:k=r
    ·rw[(hp2 k).2 e,decide_eq_true e];rfl
    ·have:p k=false:=by
      cases q:p k with
      |false=>rfl
      |true=>exact absurd ((hp2 k).1 q) e
     rw[this,decide_eq_false e];rfl
  unfold aH.f
  rw[key]
  have hfi:fi U.length p=(r:Int):=fi_one hr ((hp2 r).2 rfl) (fun j hj q=>(hp2 j).1 q)
  unfold fi at hfi
  cases hv:fstOf U.length (fun k=>if p k then some (k:Int) else none) with
  |none=>rw[hv] at hfi;simp at hfi
  |some v=>rw[hv] at hfi;simp at hfi;subst hfi;rfl
theorem ends_no(h:Nm l U)(hc:chk l U≠0):cx.f l=some (0,chk l U)/\dg.f l=some (0,chk l U):=by
 unfold cx.f dg.f
 rw[fW h (by simp),if_neg hc]
 constructor
 ·show (if chk l U=0 then _ else _)=_
  rw[if_neg hc]
 ·show (if chk l U=0 then _ else _)=_
  rw[if_neg hc]
end
section
variable{l:aq} {U:List Nat}
theorem J_is(hc:chk l U=0):∃J:Nat->Nat->Nat,∀a b,a<U.length->b<U.length->jn U a b=(J a b:Int)/\J a b<U.length/\∀c,c<U.length->(le U (J a b) c=true↔le U a c=true/\le U b c=true):=by
 obtain⟨hm,hO,hj⟩:=eY hc
 refine⟨fun a b=>(jn U a b).toNat,fun a b ha hb=>?_⟩
 obtain⟨k,hk,hp,e⟩:=ia (hj a b ha hb).1
 have e':jn U a b=(k:Int):=e
 have:(jn U a b).toNat=k:=by omega
 simp only[this]
 unfold lub at hp
 exact⟨e',hk,of_decide_eq_true hp⟩
theorem M_is(hc:chk l U=0):∃M:Nat->Nat->Nat,∀a b,a<U.length->b<U.length->mt U a b=(M a b:Int)/\M a b<U.length/\∀c,c<U.length->(le U c (M a b)=true↔le U c a=true/\le U c b=true):=by
 obtain⟨hm,hO,hj⟩:=eY hc
 refine⟨fun a b=>(mt U a b).toNat,fun a b ha hb=>?_⟩
 obtain⟨k,hk,hp,e⟩:=ia (hj a b ha hb).2
 have e':mt U a b=(k:Int):=e
 have:(mt U a b).toNat=k:=by omega
 simp only[this]
 unfold glb at hp
 exact⟨e',hk,of_decide_eq_true hp⟩
end
end
section
theorem wrapZ{x:Int}(h0: -9223372036854775808<=x)(h1:x<9223372036854775808):IntKind.i64.wrap x=x:=by
 show (if (true&&decide (x%18446744073709551616>=9223372036854775808))=true then x%18446744073709551616-18446744073709551616 else x%18446744073709551616)=x
 simp only[Bool.true_and,decide_eq_true_eq]
 split<;>omega
theorem w1{n:Nat}(h:n<=100000):IntKind.i64.wrap ((n:Int)-1)=(n:Int)-1:=wrapZ (by omega) (by omega)
theorem w2{n:Nat}(h:n<=100000):IntKind.i64.wrap ((n:Int)-2)=(n:Int)-2:=wrapZ (by omega) (by omega)
theorem wS{n:Nat}(h:n<=100000):IntKind.i64.wrap ((n:Int)+1)=((n+1:Nat):Int):=by rw[wrapZ (by omega) (by omega)];rfl
theorem lP{α:Type} {l:List α} {x:α}:lAt (l++[x]) (((l++[x]).length:Int)-1)=some x:=by
 have:(((l++[x]).length:Int)-1)=((l.length:Nat):Int):=by simp
 rw[this,br (by simp)];simp
theorem kM{α:Type} {l:List α} {x y:α}:lAt (l++[y]++[x]) (((l++[y]++[x]).length:Int)-2)=some y:=by
 have:(((l++[y]++[x]).length:Int)-2)=((l.length:Nat):Int):=by simp
 rw[this,br (by simp)];simp
def pop(a b:Bool):List Bool->Option (List Bool)
 |x::y::r=>if x=a/\y=a then some (b::r) else none
 |_=>none
def st(op:Int)(S:List Bool):Option (List Bool):=
 if op=1\/op=2 then some (false::S) else if op=6\/op=7\/op=8\/op=9\/op=10\/op=11 then some (true::S)
 else if op=3\/op=4 then pop false false S else if op=5 then pop true false S else if op=12\/op=13 then pop true true S else none
def run:List Int->List Bool->Option (List Bool)
 |[],S=>some S
 |op::r,S=>(st op S).bind (run r)
theorem take_eq{a:Bool}:∀{S:List Bool},S.length<=1000->dd.f a S.reverse=some (match S with|x::y::r=>if x=a/\y=a then (r.reverse,true) else (S.reverse,false)|_=>(S.reverse,false))
 |[],h=>by unfold dd.f;simp[show IntKind.i64.wrap (-1)<1 by decide]
 |[x],h=>by unfold dd.f;simp[show IntKind.i64.wrap 0<1 by decide]
 |x::y::r,h=>by
  have hl:(x::y::r).reverse=r.reverse++[y]++[x]:=by simp
  have hlen:(r.reverse++[y]++[x]).length=r.length+2:=by simp
  have hr:r.length+2<=1000:=h
  rw[hl]
  unfold dd.f
  have e1:=lP (l:=r.reverse++[y]) (x:=x)
  have e2:=kM (l:=r.reverse) (x:=x) (y:=y)
  rw[w1 (by omega)]
  have e3:IntKind.i64.wrap ((((r.reverse++[y]++[x]).length:Nat):Int)-1-1)=(((r.reverse++[y]++[x]).length:Nat):Int)-2:=by rw[wrapZ (by omega) (by omega)];omega
  rw[e3,e1,e2,if_neg (by rw[hlen];omega)]
  have e4:(r.reverse++[y]++[x]).take ((((r.reverse++[y]++[x]).length:Nat):Int)-2).toNat=r.reverse:=by
   rw[hlen,show ((((r.length+2:Nat):Int)-2).toNat)=r.reverse.length by simp,List.append_assoc,List.take_left]
  rw[e4]
  have hb:(0:Int)<=(((r.reverse++[y]++[x]).length:Nat):Int)-2/\(((r.reverse++[y]++[x]).length:Nat):Int)-2<=(((r.reverse++[y]++[x]).length:Nat):Int):=by rw[hlen];omega
  simp only[if_pos hb,Option.bind_eq_bind,Option.bind_some]
  by_cases h1:x=a<;>by_cases h2:y=a<;>simp[h1,h2]
theorem cases13(op:Int):op=1\/op=2\/op=3\/op=4\/op=5\/op=6\/op=7\/op=8\/op=9\/op=10\/op=11\/op=12\/op=13\/¬(1<=op/\op<=13):=by omega
theorem made_step{l:List Int} {S:List Bool} {k:Nat}(hk:k<l.length)(hl:l.length<=900)(hS:S.length<=k):
    cR.l0 l S.reverse (k:Int)=(match st l[k] S with|some S'=>cR.l0 l S'.reverse ((k+1:Nat):Int)|none=>some (.inl (false,false))):=by
  rw[cR.l0,if_pos (by omega),br hk,wS (by omega)]
  generalize l[k]=op
  have hB:2000<=big:=by decide
  have hb1:S.length+1<=big:=by omega
  simp only[Option.bind_eq_bind,Option.bind_some]
  rcases cases13 op with rfl|rfl|rfl|rfl|rfl|rfl|rfl|rfl|rfl|rfl|rfl|rfl|rfl|h
  case inr.inr.inr.inr.inr.inr.inr.inr.inr.inr.inr.inr.inr=>
    have e:∀n:Int,1<=n->n<=13->¬op=n:=fun n h1 h2 e=>h (by omega)
    simp[st,e 1,e 2,e 3,e 4,e 5,e 6,e 7,e 8,e 9,e 10,e 11,e 12,e 13]
  all_goals first
    |(simp[st,hb1];done)
    | (rw [take_eq (a := false) (S := S) (by omega), take_eq (a := true) (S := S) (by omega)]
       match S,hS with
       |[],_=>simp[st,pop,show 1<=big by omega]
       |[x],_=>simp[st,pop,show 1+1<=big by omega]
       |x::y::r,hS=>
         simp only[List.length_cons] at hS hb1
         have h1:r.length+1<=big:=by omega
         have h2:r.length+1+1+1<=big:=by omega
         cases x<;>cases y<;>simp[st,pop,h1,h2])
theorem st_len{op:Int} {S S':List Bool}(h:st op S=some S'):S'.length<=S.length+1:=by
 have hp:∀{a b:Bool},pop a b S=some S'->S'.length<=S.length+1:=by
  intro a b h
  match S,h with
  |[],h=>simp[pop] at h
  |[x],h=>simp[pop] at h
  |x::y::r,h=>
   by_cases q:x=a/\y=a
   ·simp[pop,q] at h;subst h;simp
   ·simp[pop,q] at h
 unfold st at h
 split at h
 ·cases h;simp
 ·split at h
  ·cases h;simp
  ·split at h
   ·exact hp h
   ·split at h
    ·exact hp h
    ·split at h
     ·exact hp h
     ·cases h
theorem made_l0{l:List Int}(hl:l.length<=900):∀(d k:Nat) (S:List Bool),l.length=k+d->S.length<=k->
  cR.l0 l S.reverse (k:Int)=some (match run (l.drop k) S with|some S'=>.inr S'.reverse|none=>.inl (false,false))
 |0,k,S,e,hS=>by
  rw[cR.l0,if_neg (by omega),List.drop_of_length_le (by omega)];rfl
 |d+1,k,S,e,hS=>by
  have hk:k<l.length:=by omega
  rw[made_step hk hl hS,List.drop_eq_getElem_cons hk]
  unfold run
  cases h:st l[k] S with
  |none=>rfl
  |some S'=>exact made_l0 hl d (k+1) S' (by omega) (by have:=st_len h;omega)
def right(l:List Int):Option Bool:=match run l [] with
 |some [b]=>if l.length>40 then none else some b
 |_=>none
theorem made_eq{l:List Int}(hl:l.length<=900):cR.f l=some (match right l with|some b=>(b,true)|none=>(false,false)):=by
 unfold cR.f right
 have:=made_l0 hl l.length 0 [] (by omega) (by simp)
 rw[show ((0:Nat):Int)=0 from rfl,List.reverse_nil] at this
 rw[this,List.drop_zero]
 match run l [] with
 |none=>rfl
 |some []=>rfl
 |some [b]=>
  by_cases h:l.length>40
  ·have h':(l.length:Int)>40:=by omega
   simp[h,h']
  ·have h':¬(l.length:Int)>40:=by omega
   simp[h,h',lAt]
 |some (x::y::r)=>
  have:¬(((x::y::r).reverse.length:Nat):Int)=1:=by simp;omega
  simp only[Option.bind_eq_bind,Option.bind_some,if_neg this]
  rfl
theorem iF{l:List Int} {b:Bool}(hl:l.length<=900):db.f l b=some (decide (right l=some b)):=by
 unfold db.f
 rw[made_eq hl]
 cases right l with
 |none=>simp
 |some c=>cases b<;>cases c<;>simp
end
section
def code(b:Bool):Int:=if b then 2 else 1
end
section
inductive Tr where
 |lf (op:Int)
 |nd (op:Int) (x y:Tr)
def Tr.flat:Tr->List Int
 |.lf op=>[op]
 |.nd op x y=>x.flat++y.flat++[op]
def Tr.op:Tr->Int
 |.lf op=>op
 |.nd op _ _=>op
def Tr.size:Tr->Nat
 |.lf _=>1
 |.nd _ x y=>x.size+y.size+1
theorem gC:∀t:Tr,t.flat.length=t.size
 |.lf _=>rfl
 |.nd _ x y=>by simp[Tr.flat,Tr.size,gC x,gC y];omega
def LfOp(op:Int):Prop:=op=1\/op=2\/op=6\/op=7\/op=8\/op=9\/op=10\/op=11
def NdOp(op:Int):Prop:=op=3\/op=4\/op=5\/op=12\/op=13
def flats(T:List Tr):List Int:=(T.reverse.map Tr.flat).flatten
theorem fM{t:Tr} {T:List Tr}:flats (t::T)=flats T++t.flat:=by simp[flats]
end
section
theorem bsome{α β:Type}(a:α)(f:α->Option β):(some a>>=f)=f a:=rfl
end
section
def Tr.sort:Tr->Bool
 |.lf op=>decide (op>=6)
 |.nd op _ _=>decide (op>=12)
def Tr.wf:Tr->Prop
 |.lf op=>LfOp op
 |.nd op x y=>NdOp op/\x.wf/\y.wf/\x.sort=decide (op>=5)/\y.sort=decide (op>=5)
theorem st_sort{op:Int} {S S':List Bool}(h:st op S=some S'):
  (LfOp op/\S'=decide (op>=6)::S)\/(NdOp op/\∃r,S=decide (op>=5)::decide (op>=5)::r/\S'=decide (op>=12)::r):=by
 have hp:∀{a b:Bool},pop a b S=some S'->∃r,S=a::a::r/\S'=b::r:=by
  intro a b h
  match S,h with
  |[],h=>simp[pop] at h
  |[x],h=>simp[pop] at h
  |x::y::r,h=>
   by_cases q:x=a/\y=a
   ·simp[pop,q] at h;subst h;exact⟨r,by rw[q.1,q.2],rfl⟩
   ·simp[pop,q] at h
 unfold st at h
 split at h
 ·rename_i q;cases h
  rcases q with rfl|rfl<;>exact .inl ⟨by unfold LfOp;simp,rfl⟩
 ·split at h
  ·rename_i q;cases h
   rcases q with rfl|rfl|rfl|rfl|rfl|rfl<;>exact .inl ⟨by unfold LfOp;simp,rfl⟩
  ·split at h
   ·rename_i q
    rcases q with rfl|rfl<;>exact .inr ⟨by unfold NdOp;simp,hp h⟩
   ·split at h
    ·rename_i q;subst q;exact .inr ⟨by unfold NdOp;simp,hp h⟩
    ·split at h
     ·rename_i q
      rcases q with rfl|rfl<;>exact .inr ⟨by unfold NdOp;simp,hp h⟩
     ·cases h
theorem jv:∀{l:List Int} {S S':List Bool} {T:List Tr},run l S=some S'->T.map Tr.sort=S->(∀t∈T,t.wf)->
  ∃T':List Tr,T'.map Tr.sort=S'/\(∀t∈T',t.wf)/\flats T'=flats T++l
 |[],S,S',T,h,hT,ho=>by cases h;exact⟨T,hT,ho,by simp⟩
 |op::l,S,S',T,h,hT,ho=>by
  unfold run at h
  cases hs:st op S with
  |none=>rw[hs] at h;cases h
  |some S1=>
   rw[hs] at h
   rcases st_sort hs with ⟨h1,h2⟩|⟨h1,r,e,h2⟩
   ·obtain⟨T',q1,q2,q3⟩:=jv (T:=.lf op::T) h (by rw[h2,<-hT];rfl) (fun t ht=>by
     rcases List.mem_cons.1 ht with rfl|ht
     ·exact h1
     ·exact ho t ht)
    exact⟨T',q1,q2,by rw[q3,fM];simp[Tr.flat]⟩
   ·subst hT
    match T,e,ho with
    |b::a::R,e,ho=>
     simp only[List.map_cons,List.cons.injEq] at e
     obtain⟨T',q1,q2,q3⟩:=jv (T:=.nd op a b::R) h (by rw[h2,<-e.2.2];rfl) (fun t ht=>by
      rcases List.mem_cons.1 ht with rfl|ht
      ·exact⟨h1,ho a (by simp),ho b (by simp),e.2.1,e.1⟩
      ·exact ho t (by simp[ht]))
     exact⟨T',q1,q2,by rw[q3,fM,fM,fM];simp[Tr.flat]⟩
    |[],e,_=>simp at e
    |[_],e,_=>simp at e
theorem lA{l:List Int} {b:Bool}(h:right l=some b):∃t:Tr,t.wf/\t.sort=b/\t.flat=l/\l.length<=40:=by
 unfold right at h
 cases hr:run l [] with
 |none=>rw[hr] at h;cases h
 |some S=>
  rw[hr] at h
  match S,h with
  |[],h=>cases h
  |x::y::r,h=>cases h
  |[c],h=>
   simp only at h
   by_cases hl:l.length>40
   ·rw[if_pos hl] at h;cases h
   ·rw[if_neg hl] at h
    cases h
    obtain⟨T',q1,q2,q3⟩:=jv (T:=[]) hr rfl (fun t ht=>by cases ht)
    match T',q1 with
    |[t],q1=>exact⟨t,q2 t (by simp),by simpa using q1,by rw[fM] at q3;simpa [flats] using q3,by omega⟩
structure Je(l:aq)(labels:List Int) where
 n:Nat
 le:Nat->Nat->Bool
 J:Nat->Nat->Nat
 M:Nat->Nat->Nat
 bot:Nat
 top:Nat
 labs:Nat->Nat
 hbot:bot<n/\cx.f l=some ((bot:Int),0)
 htop:top<n/\dg.f l=some ((top:Int),0)
 hflows:∀a b,a<n->b<n->cP.f l (a:Int) (b:Int)=some (le a b,0)
 hjoin:∀a b,a<n->b<n->J a b<n/\dA.f l (a:Int) (b:Int)=some ((J a b:Int),0)
 hmeet:∀a b,a<n->b<n->M a b<n/\dB.f l (a:Int) (b:Int)=some ((M a b:Int),0)
 hlen:labels.length=4
 hlab:∀i:Nat,i<4->lAt labels (i:Int)=some (labs i:Int)/\labs i<n
section
variable{l:aq} {labels:List Int}(E:Je l labels)
def ev:Tr->Bool×Nat
 |.lf op=>(decide (op=1),if op=6 then E.bot else if op=7 then E.top else E.labs (op-8).toNat)
 |.nd op x y=>(if op=3 then (ev x).1&&(ev y).1 else if op=4 then (ev x).1||(ev y).1 else E.le (ev x).2 (ev y).2,if op=12 then E.J (ev x).2 (ev y).2 else E.M (ev x).2 (ev y).2)
theorem ev_lt:∀{t:Tr},t.wf->t.sort=true->(ev E t).2<E.n
 |.lf op,h,hs=>by
  rcases h with rfl|rfl|rfl|rfl|rfl|rfl|rfl|rfl
  ·simp[Tr.sort] at hs
  ·simp[Tr.sort] at hs
  ·exact E.hbot.1
  ·exact E.htop.1
  ·exact(E.hlab 0 (by omega)).2
  ·exact(E.hlab 1 (by omega)).2
  ·exact(E.hlab 2 (by omega)).2
  ·exact(E.hlab 3 (by omega)).2
 |.nd op x y,⟨h,hx,hy,sx,sy⟩,hs=>by
  rcases h with rfl|rfl|rfl|rfl|rfl
  ·simp[Tr.sort] at hs
  ·simp[Tr.sort] at hs
  ·simp[Tr.sort] at hs
  ·exact(E.hjoin _ _ (ev_lt hx sx) (ev_lt hy sy)).1
  ·exact(E.hmeet _ _ (ev_lt hx sx) (ev_lt hy sy)).1
def val(t:Tr):If221:=if t.sort then .c227 ((ev E t).2:Int) else .c218 (ev E t).1
theorem put_eq{P:List If221} {x:If221} {lb:List Int}(h:P.length<=1000):bC.f (⟨l,lb,P⟩:bl) x=some ⟨l,lb,P++[x]⟩:=by
 unfold bC.f
 have hB:200000<=big:=by decide
 have:(P.length+([x]:List If221).length)*16<=big:=by simp;omega
 exact if_pos this
theorem two_eq'{P:List If221} {x y:If221} {lb:List Int}(h:P.length<=1000):dM.f (⟨l,lb,P++[x]++[y]⟩:bl)=some (⟨l,lb,P⟩,x,y):=by
 unfold dM.f
 have hlen:(P++[x]++[y]).length=P.length+2:=by simp
 show (lAt (P++[x]++[y]) (IntKind.i64.wrap (((P++[x]++[y]).length:Int)-2))>>=_)=_
 rw[w2 (by omega),kM,bsome]
 have e1:IntKind.i64.wrap ((((P++[x]++[y]).length:Nat):Int)-2+1)=(((P++[x]++[y]).length:Nat):Int)-1:=by rw[wrapZ (by omega) (by omega)];omega
 show (lAt (P++[x]++[y]) (IntKind.i64.wrap ((((P++[x]++[y]).length:Nat):Int)-2+1))>>=_)=_
 rw[e1,lP (l:=P++[x]) (x:=y),bsome,if_pos (show (0:Int)<=(((P++[x]++[y]).length:Nat):Int)-2/\(((P++[x]++[y]).length:Nat):Int)-2<=(((P++[x]++[y]).length:Nat):Int) from ⟨by omega,by omega⟩)]
 have e2:(P++[x]++[y]).take ((((P++[x]++[y]).length:Nat):Int)-2).toNat=P:=by
  rw[hlen,show ((((P.length+2:Nat):Int)-2).toNat)=P.length by omega,List.append_assoc,List.take_left]
 rw[e2]
theorem both_eq{op:Int} {x y:Tr} {P:List If221}(hx:x.wf)(hy:y.wf)(ho:NdOp op)(sx:x.sort=decide (op>=5))(sy:y.sort=decide (op>=5)):
  cY.f (⟨l,labels,P⟩:bl) op (val E x) (val E y)=some (⟨l,labels,P⟩,val E (.nd op x y)):=by
 unfold cY.f
 by_cases h5:op>=5
 ·rw[decide_eq_true h5] at sx sy
  have lx:=ev_lt E hx sx
  have ly:=ev_lt E hy sy
  have e1:val E x=.c227 ((ev E x).2:Int):=by unfold val;rw[sx];rfl
  have e2:val E y=.c227 ((ev E y).2:Int):=by unfold val;rw[sy];rfl
  rw[e1,e2]
  show (if false=true then _ else (if true=true then _ else _))=_
  rw[if_neg (by decide),if_pos rfl]
  rcases ho with rfl|rfl|rfl|rfl|rfl
  ·omega
  ·omega
  ·rw[if_pos rfl]
   show (cP.f l ((ev E x).2:Int) ((ev E y).2:Int)>>=_)=_
   rw[E.hflows _ _ lx ly,bsome];rfl
  ·rw[if_neg (by decide),if_pos rfl]
   show (dA.f l ((ev E x).2:Int) ((ev E y).2:Int)>>=_)=_
   rw[(E.hjoin _ _ lx ly).2,bsome];rfl
  ·rw[if_neg (by decide),if_neg (by decide)]
   show (dB.f l ((ev E x).2:Int) ((ev E y).2:Int)>>=_)=_
   rw[(E.hmeet _ _ lx ly).2,bsome];rfl
 ·rw[decide_eq_false h5] at sx sy
  have e1:val E x=.c218 (ev E x).1:=by unfold val;rw[sx];rfl
  have e2:val E y=.c218 (ev E y).1:=by unfold val;rw[sy];rfl
  rw[e1,e2]
  show (if true=true then _ else _)=_
  rw[if_pos rfl]
  show (if op=3 then ((if (ev E x).1=true then some (If221.c218 (ev E y).1) else some (If221.c218 false))>>=_) else ((if (ev E x).1=true then some (If221.c218 true) else some (If221.c218 (ev E y).1))>>=_))=_
  have hv:val E (.nd op x y)=.c218 (ev E (.nd op x y)).1:=by
   unfold val
   have:(Tr.nd op x y).sort=false:=decide_eq_false (by omega)
   rw[this];rfl
  rw[hv]
  have he:∀op',(ev E (.nd op' x y)).1=(if op'=3 then (ev E x).1&&(ev E y).1 else if op'=4 then (ev E x).1||(ev E y).1 else E.le (ev E x).2 (ev E y).2):=fun _=>rfl
  rw[he]
  rcases ho with rfl|rfl|rfl|rfl|rfl
  ·rw[if_pos rfl,if_pos rfl]
   cases (ev E x).1<;>cases (ev E y).1<;>rfl
  ·rw[if_neg (show ¬((4:Int)=3) by decide),if_neg (show ¬((4:Int)=3) by decide),if_pos rfl]
   cases (ev E x).1<;>cases (ev E y).1<;>rfl
  ·omega
  ·omega
  ·omega
end
end
section
theorem split_nd{l r:List Int} {s:Nat} {op:Int} {x y:Tr}(e:l.drop s=(Tr.nd op x y).flat++r):
  l.drop s=x.flat++(y.flat++([op]++r))/\l.drop (s+x.size)=y.flat++([op]++r)/\∃h:s+x.size+y.size<l.length,l[s+x.size+y.size]=op:=by
 have e1:l.drop s=x.flat++(y.flat++([op]++r)):=by rw[e];simp[Tr.flat]
 have e2:l.drop (s+x.size)=y.flat++([op]++r):=by rw[<-List.drop_drop,e1,<-gC x,List.drop_left]
 have e3:l.drop (s+x.size+y.size)=[op]++r:=by rw[<-List.drop_drop,e2,<-gC y,List.drop_left]
 have hk:s+x.size+y.size<l.length:=by
  rcases Nat.lt_or_ge (s+x.size+y.size) l.length with q|q
  ·exact q
  ·rw[List.drop_of_length_le q] at e3;simp at e3
 rw[List.drop_eq_getElem_cons hk] at e3
 simp only[List.cons_append,List.nil_append,List.cons.injEq] at e3
 exact⟨e1,e2,hk,e3.1⟩
theorem leaf_at{l r:List Int} {s:Nat} {op:Int}(e:l.drop s=(Tr.lf op).flat++r):∃h:s<l.length,l[s]=op:=by
 have hs:s<l.length:=by
  rcases Nat.lt_or_ge s l.length with q|q
  ·exact q
  ·rw[List.drop_of_length_le q] at e;simp[Tr.flat] at e
 rw[List.drop_eq_getElem_cons hs] at e
 simp only[Tr.flat,List.cons_append,List.nil_append,List.cons.injEq] at e
 exact⟨hs,e.1⟩
theorem size_pos:∀t:Tr,1<=t.size
 |.lf _=>by simp[Tr.size]
 |.nd _ _ _=>by simp[Tr.size]
section
variable{l:aq} {labels:List Int}(E:Je l labels)
theorem comes_lf{rule:List Int} {op:Int} {k:Nat} {P:List If221}(hk:k<rule.length)(hop:rule[k]=op)(ho:LfOp op)(hl:rule.length<=900)(hP:P.length<=900):
  bm.l0 rule l.Names l.Up labels P (k:Int)=bm.l0 rule l.Names l.Up labels (P++[val E (.lf op)]) ((k+1:Nat):Int):=by
 have hput:∀x,bC.f (⟨⟨l.Names,l.Up⟩,labels,P⟩:bl) x=some ⟨⟨l.Names,l.Up⟩,labels,P++[x]⟩:=fun x=>put_eq (by omega)
 have l0:=(E.hlab 0 (by omega)).1
 have l1:=(E.hlab 1 (by omega)).1
 have l2:=(E.hlab 2 (by omega)).1
 have l3:=(E.hlab 3 (by omega)).1
 have z0:IntKind.i64.wrap ((8:Int)-8)=((0:Nat):Int):=by decide
 have z1:IntKind.i64.wrap ((9:Int)-8)=((1:Nat):Int):=by decide
 have z2:IntKind.i64.wrap ((10:Int)-8)=((2:Nat):Int):=by decide
 have z3:IntKind.i64.wrap ((11:Int)-8)=((3:Nat):Int):=by decide
 rw[bm.l0,if_pos (by omega),br hk,hop,wS (by omega),bsome]
 rcases ho with rfl|rfl|rfl|rfl|rfl|rfl|rfl|rfl
 ·rw[if_pos rfl,hput];rfl
 ·rw[if_neg (show ¬((2:Int)=1) by decide),if_pos rfl,hput];rfl
 ·rw[if_neg (show ¬((6:Int)=1) by decide),if_neg (show ¬((6:Int)=2) by decide),if_pos rfl,show cx.f (⟨l.Names,l.Up⟩:aq)=_ from E.hbot.2,bsome,hput];rfl
 ·rw[if_neg (show ¬((7:Int)=1) by decide),if_neg (show ¬((7:Int)=2) by decide),if_neg (show ¬((7:Int)=6) by decide),if_pos rfl,show dg.f (⟨l.Names,l.Up⟩:aq)=_ from E.htop.2,bsome,hput];rfl
 ·rw[if_neg (show ¬((8:Int)=1) by decide),if_neg (show ¬((8:Int)=2) by decide),if_neg (show ¬((8:Int)=6) by decide),if_neg (show ¬((8:Int)=7) by decide),if_pos rfl,z0,l0,bsome,hput];rfl
 ·rw[if_neg (show ¬((9:Int)=1) by decide),if_neg (show ¬((9:Int)=2) by decide),if_neg (show ¬((9:Int)=6) by decide),if_neg (show ¬((9:Int)=7) by decide),if_neg (show ¬((9:Int)=8) by decide),if_pos rfl,z1,l1,bsome,hput];rfl
 ·rw[if_neg (show ¬((10:Int)=1) by decide),if_neg (show ¬((10:Int)=2) by decide),if_neg (show ¬((10:Int)=6) by decide),if_neg (show ¬((10:Int)=7) by decide),if_neg (show ¬((10:Int)=8) by decide),if_neg (show ¬((10:Int)=9) by decide),if_pos rfl,z2,l2,bsome,hput];rfl
 ·rw[if_neg (show ¬((11:Int)=1) by decide),if_neg (show ¬((11:Int)=2) by decide),if_neg (show ¬((11:Int)=6) by decide),if_neg (show ¬((11:Int)=7) by decide),if_neg (show ¬((11:Int)=8) by decide),if_neg (show ¬((11:Int)=9) by decide),if_neg (show ¬((11:Int)=10) by decide),if_pos rfl,z3,l3,bsome,hput];rfl
theorem comes_nd{rule:List Int} {op:Int} {x y:Tr} {k:Nat} {P:List If221}(hk:k<rule.length)(hop:rule[k]=op)(h:(Tr.nd op x y).wf)(hl:rule.length<=900)(hP:P.length<=900):
  bm.l0 rule l.Names l.Up labels (P++[val E x]++[val E y]) (k:Int)=bm.l0 rule l.Names l.Up labels (P++[val E (.nd op x y)]) ((k+1:Nat):Int):=by
 obtain⟨ho,hx,hy,sx,sy⟩:=h
 have hput:∀x,bC.f (⟨⟨l.Names,l.Up⟩,labels,P⟩:bl) x=some ⟨⟨l.Names,l.Up⟩,labels,P++[x]⟩:=fun x=>put_eq (by omega)
 have h2:dM.f (⟨⟨l.Names,l.Up⟩,labels,P++[val E x]++[val E y]⟩:bl)=some (⟨⟨l.Names,l.Up⟩,labels,P⟩,val E x,val E y):=two_eq' (by omega)
 have h3:cY.f (⟨l,labels,P⟩:bl) op (val E x) (val E y)=some (⟨l,labels,P⟩,val E (.nd op x y)):=both_eq E hx hy ho sx sy
 have n:∀q:Int,q=1\/q=2\/q=6\/q=7\/q=8\/q=9\/q=10\/q=11->¬op=q:=by
  intro q hq
  rcases ho with rfl|rfl|rfl|rfl|rfl<;>omega
 rw[bm.l0,if_pos (by omega),br hk,hop,wS (by omega),bsome]
 rw[if_neg (n 1 (by simp)),if_neg (n 2 (by simp)),if_neg (n 6 (by simp)),if_neg (n 7 (by simp)),if_neg (n 8 (by simp)),if_neg (n 9 (by simp)),if_neg (n 10 (by simp)),if_neg (n 11 (by simp)),h2,bsome]
 show ((((cY.f (⟨l,labels,P⟩:bl) op (val E x) (val E y)>>=_)>>=_)>>=_)=_)
 rw[h3,bsome]
 show ((((bC.f (⟨⟨l.Names,l.Up⟩,labels,P⟩:bl) (val E (.nd op x y))>>=_)>>=_)>>=_)=_)
 rw[hput];rfl
theorem jw{rule:List Int}(hl:rule.length<=900):∀(t:Tr),t.wf->∀(P:List If221) (k:Nat) (r:List Int),rule.drop k=t.flat++r->P.length<=k->
  bm.l0 rule l.Names l.Up labels P (k:Int)=bm.l0 rule l.Names l.Up labels (P++[val E t]) ((k+t.size:Nat):Int)
 |.lf op,ho,P,k,r,e,hP=>by
  obtain⟨hk,hop⟩:=leaf_at e
  exact comes_lf E hk hop ho hl (by omega)
 |.nd op x y,ho,P,k,r,e,hP=>by
  obtain⟨e1,e2,hk,hop⟩:=split_nd e
  have px:=size_pos x
  rw[jw hl x ho.2.1 P k _ e1 hP,jw hl y ho.2.2.1 (P++[val E x]) (k+x.size) _ e2 (by simp;omega),comes_nd E hk hop ho hl (by omega)]
  have e4:k+x.size+y.size+1=k+(Tr.nd op x y).size:=by show _=k+(x.size+y.size+1);omega
  rw[e4]
theorem lQ{t:Tr}(ho:t.wf)(hl:t.flat.length<=900):bm.f (⟨l,labels,[]⟩:bl) t.flat=some (⟨l,labels,[val E t]⟩,val E t):=by
 unfold bm.f
 have h:=jw E hl t ho [] 0 [] (by simp) (by simp)
 rw[show ((0:Nat):Int)=0 from rfl] at h
 show (bm.l0 t.flat l.Names l.Up labels [] 0>>=_)=_
 rw[h,show 0+t.size=t.flat.length by rw[gC];omega,bm.l0,if_neg (by omega),bsome]
 rfl
def vis(t:Tr):Bool:=if t.sort then false else (ev E t).1
def via(t:Tr):Int:=if t.sort then ((ev E t).2:Int) else 0
end
end
section
open Classical
theorem je_of{l:aq} {U:List Nat}(h:Nm l U)(hc:chk l U=0){labels:List Int}(h4:labels.length=4)(ha:labels.all (inn U.length)=true):
  ∃E:Je l labels,E.n=U.length/\E.le=le U/\(∀a b,a<U.length->b<U.length->jn U a b=(E.J a b:Int))/\(∀a b,a<U.length->b<U.length->mt U a b=(E.M a b:Int))/\
   (∀c,c<U.length->le U E.bot c=true)/\(∀c,c<U.length->le U c E.top=true)/\
   (∀a b,a<U.length->b<U.length->∀c,c<U.length->(le U (E.J a b) c=true↔le U a c=true/\le U b c=true))/\
   (∀a b,a<U.length->b<U.length->∀c,c<U.length->(le U c (E.M a b)=true↔le U c a=true/\le U c b=true)):=by
 obtain⟨hm,hO,_⟩:=eY hc
 obtain⟨J,hJ⟩:=J_is hc
 obtain⟨M,hM⟩:=M_is hc
 obtain⟨b,⟨b1,b3⟩,b2⟩:=lC h hc
 obtain⟨t,⟨t1,t3⟩,t2⟩:=lK h hc
 have hl:∀i:Nat,i<4->∃k:Nat,lAt labels (i:Int)=some (k:Int)/\k<U.length:=by
  intro i hi
  have hi':i<labels.length:=by omega
  obtain⟨k,e,hk⟩:=iX (List.all_eq_true.1 ha _ (List.getElem_mem hi'))
  exact⟨k,by rw[br hi',e],hk⟩
 refine⟨⟨U.length,le U,J,M,b,t,fun i=>if hi:i<4 then (hl i hi).choose else 0,⟨b1,b2⟩,⟨t1,t2⟩,fun x y hx hy=>(yes2 h hc hx hy).1,fun x y hx hy=>?_,fun x y hx hy=>?_,h4,fun i hi=>?_⟩,rfl,rfl,fun x y hx hy=>(hJ x y hx hy).1,fun x y hx hy=>(hM x y hx hy).1,b3,t3,fun x y hx hy=>(hJ x y hx hy).2.2,fun x y hx hy=>(hM x y hx hy).2.2⟩
 ·obtain⟨e1,e2,e3⟩:=yes2 h hc hx hy
  rw[(hJ x y hx hy).1] at e2
  exact⟨(hJ x y hx hy).2.1,e2⟩
 ·obtain⟨e1,e2,e3⟩:=yes2 h hc hx hy
  rw[(hM x y hx hy).1] at e3
  exact⟨(hM x y hx hy).2.1,e3⟩
 ·have:=(hl i hi).choose_spec
  simp only[hi,dif_pos]
  exact this
def okL(n:Nat)(labels:List Int):Bool:=decide (labels.length=4)&&labels.all (inn n)
noncomputable def mayS(l:aq)(U:List Nat)(r:List Int)(labels:List Int)(b:Bool):Int:=
 if chk l U=0 then (if right r=some b then (if okL U.length labels=true then 0 else 9) else 1) else chk l U
theorem odd_eq{l:aq} {U:List Nat}(h:Nm l U)(x:Int):eD.f x l=some (!inn U.length x):=by
 unfold eD.f inn
 rw[h.n]
 by_cases h1:x<0
 ·have h1':¬0<=x:=by omega
  simp[h1,h1']
 ·have h1':0<=x:=by omega
  by_cases h2:x<(U.length:Int)
  ·have h2':¬x>=(U.length:Int):=by omega
   simp[h1,h1',h2,h2']
  ·have h2':x>=(U.length:Int):=by omega
   simp[h1,h1',h2,h2']
theorem jW{l:aq} {U:List Nat}(h:Nm l U){r labels:List Int} {b:Bool}(hr:r.length<=900)(hl:labels.length<=900):ef.f l r labels b=some (mayS l U r labels b):=by
 unfold ef.f mayS
 rw[fU h,bsome,iF hr]
 by_cases hc:chk l U=0
 ·rw[if_pos hc,if_pos hc,bsome]
  by_cases hq:right r=some b
  ·rw[decide_eq_true hq,if_neg (by decide),if_pos hq]
   rw[gB (g:=fun z0=>eD.f z0 l) (p:=fun a=> !inn U.length a) (odd_eq h) (by omega)]
   have:labels.any (fun a=> !inn U.length a)= !labels.all (inn U.length):=by rw[List.not_all_eq_any_not]
   rw[this]
   unfold okL
   by_cases h4:labels.length=4
   ·have h4':(labels.length:Int)=4:=by omega
    rw[if_pos h4',bsome,bsome,decide_eq_true h4]
    cases labels.all (inn U.length)<;>rfl
   ·have h4':¬(labels.length:Int)=4:=by omega
    rw[if_neg h4',bsome,decide_eq_false h4];rfl
  ·rw[decide_eq_false hq,if_pos (show (!false)=true from rfl),if_neg hq]
 ·rw[if_neg hc,if_neg hc]
theorem kC{l:aq} {U:List Nat} {r labels:List Int} {b:Bool}(h:mayS l U r labels b=0):chk l U=0/\right r=some b/\labels.length=4/\labels.all (inn U.length)=true:=by
 unfold mayS at h
 by_cases hc:chk l U=0
 ·rw[if_pos hc] at h
  by_cases hq:right r=some b
  ·rw[if_pos hq] at h
   by_cases ho:okL U.length labels=true
   ·unfold okL at ho
    rw[Bool.and_eq_true,decide_eq_true_iff] at ho
    exact⟨hc,hq,ho.1,ho.2⟩
   ·rw[if_neg ho] at h;cases h
  ·rw[if_neg hq] at h;cases h
 ·rw[if_neg hc] at h;exact absurd h hc
theorem cond_no{l:aq} {U:List Nat}(h:Nm l U){r labels:List Int}(hr:r.length<=900)(hl:labels.length<=900)(hm:mayS l U r labels false≠0):dG.f l r labels=some (false,mayS l U r labels false):=by
 unfold dG.f
 rw[jW h hr hl,bsome,if_neg hm]
theorem label_no{l:aq} {U:List Nat}(h:Nm l U){r labels:List Int}(hr:r.length<=900)(hl:labels.length<=900)(hm:mayS l U r labels true≠0):cX.f l r labels=some (0,mayS l U r labels true):=by
 unfold cX.f
 rw[jW h hr hl,bsome,if_neg hm]
end
section
open Classical
def names(r:List Int)(j:Nat):Bool:=r.any fun op=>decide (op=8+(j:Int))
theorem or_bit{v x:Nat}(hv:v<16)(hx:x<4):bOr .u32 (v:Int) (bShl .u32 1 (x:Int))=((v|||1<<<x:Nat):Int)/\v|||1<<<x<16:=by
 have h1:bShl .u32 1 (x:Int)=((1<<<x:Nat):Int):=lO (x:=1) (by omega) (by omega)
 have h2:1<<<x<16:=by
  have:x=0\/x=1\/x=2\/x=3:=by omega
  rcases this with rfl|rfl|rfl|rfl<;>decide
 rw[h1,bOr_nat (by omega) (by omega)]
 exact⟨rfl,Nat.or_lt_two_pow (n:=4) hv h2⟩
theorem j7{r:List Int}(hr:r.length<=900):∀(d k v:Nat),r.length=k+d->v<16->∃u:Nat,cZ.l0 r (k:Int) (v:Int)=some (u:Int)/\u<16/\∀j,j<4->u.testBit j=(v.testBit j||names (r.drop k) j)
 |0,k,v,e,hv=>⟨v,by rw[cZ.l0,if_neg (by omega)],hv,fun j hj=>by rw[List.drop_of_length_le (by omega)];simp[names]⟩
 |d+1,k,v,e,hv=>by
  have hk:k<r.length:=by omega
  rw[List.drop_eq_getElem_cons hk]
  by_cases hop:8<=r[k]/\r[k]<=11
  ·obtain⟨x,hx,hxo⟩:∃x:Nat,x<4/\r[k]=8+(x:Int):=⟨(r[k]-8).toNat,by omega,by omega⟩
   obtain⟨o1,o2⟩:=or_bit hv hx
   obtain⟨u,h1,h2,h3⟩:=j7 hr d (k+1) (v|||1<<<x) (by omega) o2
   have hw:IntKind.i64.wrap (r[k]-8)=(x:Int):=by rw[wrapZ (by omega) (by omega)];omega
   refine⟨u,?_,h2,fun j hj=>?_⟩
   ·have hb:((if r[k]>=8 then (some (decide (r[k]<=11))) else (some false):Option Bool))=some true:=by rw[if_pos hop.1,decide_eq_true hop.2]
    rw[cZ.l0,if_pos (by omega),br hk,bsome,hb,bsome,if_pos rfl,hw,if_pos (by omega),bsome,o1,wS (by omega)]
    exact h1
   ·rw[h3 j hj,Nat.testBit_or,Nat.testBit_shiftLeft]
    unfold names
    rw[List.any_cons,hxo]
    by_cases hjx:j=x
    ·subst hjx;simp
    ·have h1:((j>=x:Bool)&&Nat.testBit 1 (j-x))=false:=by
      by_cases q:j>=x
      ·have:1<=j-x:=by omega
       have h0:Nat.testBit 1 (j-x)=false:=Nat.testBit_lt_two_pow (Nat.lt_of_lt_of_le (by decide) (Nat.pow_le_pow_right (n:=2) (by omega) this))
       simp[h0]
      ·simp[q]
     have h2:decide ((8:Int)+(x:Int)=8+(j:Int))=false:=decide_eq_false (by omega)
     rw[h1,h2];simp
  ·obtain⟨u,h1,h2,h3⟩:=j7 hr d (k+1) v (by omega) hv
   refine⟨u,?_,h2,fun j hj=>?_⟩
   ·have hb:((if r[k]>=8 then (some (decide (r[k]<=11))) else (some false):Option Bool))=some false:=by
     by_cases q:r[k]>=8
     ·rw[if_pos q,decide_eq_false (fun q2=>hop ⟨q,q2⟩)]
     ·rw[if_neg q]
    rw[cZ.l0,if_pos (by omega),br hk,bsome,hb,bsome,if_neg (by decide),bsome,wS (by omega)]
    exact h1
   ·rw[h3 j hj]
    unfold names
    rw[List.any_cons,decide_eq_false (by omega),Bool.false_or]
theorem uses_eq{r:List Int}(hr:r.length<=900):∃u:Nat,u<16/\(∀j,j<4->u.testBit j=names r j)/\cZ.f r=some (match right r with|none=>(0,1)|some _=>((u:Int),0)):=by
 obtain⟨u,h1,h2,h3⟩:=j7 hr r.length 0 0 (by omega) (by omega)
 refine⟨u,h2,fun j hj=>by rw[h3 j hj];simp,?_⟩
 unfold cZ.f
 rw[made_eq hr,bsome]
 rw[show ((0:Nat):Int)=0 from rfl] at h1
 cases right r with
 |none=>rfl
 |some b=>rw[if_neg (show ¬((!true)=true) by decide),h1,bsome]
theorem cond_is{l:aq} {U:List Nat}(h:Nm l U){labels:List Int}(E:Je l labels){t:Tr}(ho:t.wf)(hs:t.sort=false)(hr:t.flat.length<=900)(hl:labels.length<=900)(hm:mayS l U t.flat labels false=0):
  dG.f l t.flat labels=some ((ev E t).1,0):=by
 have h1:=lQ E ho hr
 have hv:val E t=.c218 (ev E t).1:=by unfold val;rw[hs];rfl
 unfold dG.f
 rw[jW h hr hl,hm,bsome,if_pos rfl]
 show (bm.f (⟨l,labels,[]⟩:bl) t.flat>>=_)=_
 rw[h1,bsome,hv];rfl
theorem label_is{l:aq} {U:List Nat}(h:Nm l U){labels:List Int}(E:Je l labels){t:Tr}(ho:t.wf)(hs:t.sort=true)(hr:t.flat.length<=900)(hl:labels.length<=900)(hm:mayS l U t.flat labels true=0):
  cX.f l t.flat labels=some (((ev E t).2:Int),0):=by
 have h1:=lQ E ho hr
 have hv:val E t=.c227 ((ev E t).2:Int):=by unfold val;rw[hs];rfl
 unfold cX.f
 rw[jW h hr hl,hm,bsome,if_pos rfl]
 show (bm.f (⟨l,labels,[]⟩:bl) t.flat>>=_)=_
 rw[h1,bsome,hv];rfl
end
section
theorem gD{α:Type} {xs:List α} {n:Nat}:lCut xs 0 (if (n:Int)<(xs.length:Int) then (n:Int) else (xs.length:Int))=xs.take n:=by
 unfold lCut
 split
 ·simp
 ·rw[show (0:Int).toNat=0 from rfl,Int.toNat_natCast,Nat.sub_zero,List.drop_zero,List.take_of_length_le (Nat.le_refl xs.length),List.take_of_length_le (by omega)]
theorem iY{n m:Nat}:(0:Int)<=(if (n:Int)<(m:Int) then (n:Int) else (m:Int))/\(if (n:Int)<(m:Int) then (n:Int) else (m:Int))<=(m:Int):=by split<;>omega
structure Few(R:List aO):Prop where
 len:R.length<=15
 may:∀r∈R,r.May.length<=45
 res:∀r∈R,r.Res.length<=45
 pc:∀r∈R,r.Pc.length<=45
def fewR(R:List aO):List aO:=(R.take 15).map fun r=>⟨r.May.take 45,r.Res.take 45,r.Pc.take 45⟩
theorem tfew_l0{R:List aO}:∀(d k:Nat) (acc:List aO),(R.take 15).length=k+d->acc.length=k->ca.l0 ⟨R⟩ acc (k:Int)=some (acc++((R.take 15).drop k).map fun r=>⟨r.May.take 45,r.Res.take 45,r.Pc.take 45⟩)
 |0,k,acc,e,ha=>by
  rw[ca.l0,show (15:Int)=((15:Nat):Int) from rfl,gD,if_neg (show ¬(k:Int)<((R.take 15).length:Int) by omega),List.drop_of_length_le (by omega)];simp
 |d+1,k,acc,e,ha=>by
  have hk:k<(R.take 15).length:=by omega
  have h15:(R.take 15).length<=15:=by simp;omega
  have hB:200000<=big:=by decide
  rw[ca.l0,show (15:Int)=((15:Nat):Int) from rfl,show (45:Int)=((45:Nat):Int) from rfl,gD,if_pos (show (k:Int)<((R.take 15).length:Int) by omega)]
  show (lAt (R.take 15) (k:Int)>>=_)=_
  rw[br hk,bsome,if_pos iY,if_pos iY,if_pos iY,gD,gD,gD]
  rw[if_pos (by simp;omega),wS (by omega),tfew_l0 d (k+1) _ (by omega) (by simp[ha]),List.drop_eq_getElem_cons hk]
  simp
theorem tfew_eq{R:List aO}:ca.f ⟨R⟩=some ⟨fewR R⟩:=by
 unfold ca.f
 have h:=tfew_l0 (R:=R) (R.take 15).length 0 [] (by omega) rfl
 rw[show ((0:Nat):Int)=0 from rfl] at h
 rw[show (15:Int)=((15:Nat):Int) from rfl,if_pos iY,h]
 simp[fewR]
theorem tfew_ok{R:List aO}:Few (fewR R):=by
 refine⟨by simp[fewR];omega,fun r hr=>?_,fun r hr=>?_,fun r hr=>?_⟩<;>
  (obtain⟨x,_,rfl⟩:=List.mem_map.1 hr;simp;omega)
def ar(op:Nat):Nat:=[0,1,1,2,2,2,3,1,1,1,2,1,0].getD op 0
theorem ar_le(op:Nat):ar op<=3:=by
 unfold ar
 rcases Nat.lt_or_ge op 13 with h|h
 ·revert op;decide
 ·rw[List.getD_eq_getElem?_getD,List.getElem?_eq_none (by simpa using h)];simp
theorem ar_eq{op:Nat}(h:op<13):lAt gl0 (op:Int)=some (ar op:Int):=by revert op;decide
def hasS(op:Nat)(l:List Int):Bool:=(List.range 4).all fun n=>decide (n<=ar op)|| !names l n
theorem thas_p{op:Nat}(h:op<13){l:List Int}(hl:l.length<=900){b:Bool}(hr:right l=some b):dx.f (op:Int) l=some (hasS op l):=by
 obtain⟨u,hu,hb,he⟩:=uses_eq hl
 have ha:=ar_le op
 unfold dx.f
 rw[he,hr,bsome]
 show ((if (0:Int)=0 then _ else _:Option Bool)>>=_)=_
 rw[if_pos rfl,ar_eq h,bsome,wS (by omega),if_pos (by omega),bsome]
 show some (decide (bShr .u32 (u:Int) ((ar op+1:Nat):Int)=0))=_
 rw[iD (by omega)]
 congr 1
 rw[Bool.eq_iff_iff,decide_eq_true_iff]
 unfold hasS
 rw[List.all_eq_true]
 constructor
 ·intro q n hn
  have hn4:n<4:=by simpa using hn
  rcases Nat.lt_or_ge (ar op) n with hlt|hge
  ·have:u.testBit n=false:=by
    have q0:u>>>(ar op+1)=0:=by omega
    have:=congrArg (fun x=>x.testBit (n-(ar op+1))) q0
    simp only[Nat.testBit_shiftRight,Nat.zero_testBit] at this
    rwa [show ar op+1+(n-(ar op+1))=n by omega] at this
   rw[hb n hn4] at this
   simp[this]
  ·simp[hge]
 ·intro q
  have:u>>>(ar op+1)=0:=by
   apply Nat.eq_of_testBit_eq
   intro j
   rw[Nat.testBit_shiftRight,Nat.zero_testBit]
   rcases Nat.lt_or_ge (ar op+1+j) 4 with h4|h4
   ·have:=q (ar op+1+j) (by simpa using h4)
    rw[hb _ h4]
    simpa [show ¬(ar op+1+j<=ar op) by omega] using this
   ·exact Nat.testBit_lt_two_pow (Nat.lt_of_lt_of_le hu (by have:=Nat.pow_le_pow_right (n:=2) (by omega) h4;simpa using this))
  omega
def rowE(op:Nat)(r:aO):Int:=if right r.May=some false/\right r.Res=some true/\right r.Pc=some true then (if hasS op r.May&&(hasS op r.Res&&hasS op r.Pc) then 0 else 7) else 1
theorem trow_p{op:Nat}(h:op<13){r:aO}(h1:r.May.length<=45)(h2:r.Res.length<=45)(h3:r.Pc.length<=45):
  dQ.f r=some (!decide (rowE op r=1))/\(rowE op r≠1->dJ.f (op:Int) r=some (!decide (rowE op r=7))):=by
 unfold dQ.f dJ.f rowE
 rw[iF (by omega),iF (by omega),iF (by omega)]
 by_cases q1:right r.May=some false
 ·by_cases q2:right r.Res=some true
  ·by_cases q3:right r.Pc=some true
   ·rw[if_pos ⟨q1,q2,q3⟩,thas_p h (by omega) q1,thas_p h (by omega) q2,thas_p h (by omega) q3,decide_eq_true q1,decide_eq_true q2,decide_eq_true q3]
    cases hasS op r.May<;>cases hasS op r.Res<;>cases hasS op r.Pc<;>exact⟨rfl,fun _=>rfl⟩
   ·rw[if_neg (fun q=>q3 q.2.2),decide_eq_true q1,decide_eq_true q2,decide_eq_false q3]
    exact⟨rfl,fun q=>absurd rfl q⟩
  ·rw[if_neg (fun q=>q2 q.2.1),decide_eq_true q1,decide_eq_false q2]
   exact⟨rfl,fun q=>absurd rfl q⟩
 ·rw[if_neg (fun q=>q1 q.1),decide_eq_false q1]
  exact⟨rfl,fun q=>absurd rfl q⟩
def ckl:List aO->Nat->Option (Nat×Int)
 |[],_=>none
 |r::R,k=>if rowE k r=0 then ckl R (k+1) else some (k,rowE k r)
theorem mB(op:Nat)(r:aO):rowE op r=0\/rowE op r=1\/rowE op r=7:=by
 unfold rowE
 split
 ·split
  ·exact .inl rfl
  ·exact .inr (.inr rfl)
 ·exact .inr (.inl rfl)
section
variable{R:List aO}(hF:Few R)(h13:R.length=13)
include hF h13
theorem kO:∀(d k:Nat),R.length=k+d->cH.l0 ⟨R⟩ (k:Int)=some (match ckl (R.drop k) k with|some (i,e)=>.inl ((i:Int),e)|none=>.inr ())
 |0,k,e=>by
  rw[cH.l0,if_neg (by show ¬(k:Int)<(R.length:Int);omega),List.drop_of_length_le (by omega)];rfl
 |d+1,k,e=>by
  have hk:k<R.length:=by omega
  have hm:=List.getElem_mem hk
  obtain⟨p1,p2⟩:=trow_p (op:=k) (by omega) (hF.may _ hm) (hF.res _ hm) (hF.pc _ hm)
  rw[cH.l0,if_pos (by show (k:Int)<(R.length:Int);omega)]
  show (lAt R (k:Int)>>=_)=_
  rw[br hk,bsome,List.drop_eq_getElem_cons hk]
  show (dQ.f R[k]>>=_)=_
  rw[p1,bsome]
  unfold ckl
  rcases mB k R[k] with q|q|q
  ·rw[if_pos q,q,if_neg (by decide)]
   show (dJ.f (k:Int) R[k]>>=_)=_
   rw[p2 (by rw[q];decide),bsome,q,if_neg (by decide),wS (by omega),kO d (k+1) (by omega)]
  ·rw[if_neg (show ¬rowE k R[k]=0 by rw[q];decide),q,if_pos (by decide)]
  ·rw[if_neg (show ¬rowE k R[k]=0 by rw[q];decide),q,if_neg (by decide)]
   show (dJ.f (k:Int) R[k]>>=_)=_
   rw[p2 (by rw[q];decide),bsome,q,if_pos (by decide)]
end
def chT(R:List aO):Int×Int:=if R.length=13 then (match ckl R 0 with|some (i,e)=>((i:Int),e)|none=>(0,0)) else (0,1)
theorem kE{R:List aO}(hF:Few R):cH.f ⟨R⟩=some (chT R):=by
 unfold cH.f chT
 by_cases h:R.length=13
 ·have h':(R.length:Int)=13:=by omega
  have hl:=kO hF h R.length 0 (by omega)
  rw[show ((0:Nat):Int)=0 from rfl,List.drop_zero] at hl
  rw[if_pos h',if_pos h,hl,bsome]
  cases ckl R 0<;>rfl
 ·rw[if_neg (by show ¬(R.length:Int)=13;omega),if_neg h]
structure RowR(r:aO):Prop where
 may:right r.May=some false
 res:right r.Res=some true
 pc:right r.Pc=some true
theorem lR:∀{R:List aO} {k:Nat},ckl R k=none->∀(i:Nat) (hi:i<R.length),rowE (k+i) R[i]=0
 |[],k,h,i,hi=>by cases hi
 |r::R,k,h,i,hi=>by
  unfold ckl at h
  split at h
  ·rename_i q
   match i with
   |0=>exact q
   |i+1=>
    have:=lR h i (by simpa using hi)
    rw[show k+1+i=k+(i+1) by omega] at this
    simpa using this
  ·cases h
theorem lS:∀{R:List aO} {k i:Nat} {e:Int},ckl R k=some (i,e)->e≠0
 |[],k,i,e,h=>by cases h
 |r::R,k,i,e,h=>by
  unfold ckl at h
  split at h
  ·exact lS h
  ·rename_i q;cases h;exact q
theorem mC{op:Nat} {r:aO}(h:rowE op r=0):RowR r:=by
 unfold rowE at h
 split at h
 ·rename_i q;exact⟨q.1,q.2.1,q.2.2⟩
 ·cases h
theorem chT_zero{R:List aO}(h:(chT R).2=0):R.length=13/\(chT R).1=0/\(∀r∈R,RowR r)/\∀(i:Nat) (hi:i<R.length),rowE i R[i]=0:=by
 unfold chT at h⊢
 by_cases q:R.length=13
 ·rw[if_pos q] at h⊢
  cases hc:ckl R 0 with
  |some p=>
   obtain⟨i,e⟩:=p
   rw[hc] at h
   exact absurd h (lS hc)
  |none=>
   have h0:=lR hc
   refine⟨q,rfl,fun r hr=>?_,fun i hi=>by have:=h0 i hi;rwa [Nat.zero_add] at this⟩
   obtain⟨i,hi,e⟩:=List.mem_iff_getElem.1 hr
   have:=h0 i hi
   rw[e] at this
   exact mC this
 ·rw[if_neg q] at h;cases h
end
section
theorem ff:¬(false=true):=by decide
theorem tt:true=true:=rfl
end
section
theorem wrap_in(x:Int): -9223372036854775808<=IntKind.i64.wrap x/\IntKind.i64.wrap x<9223372036854775808:=by
 show-9223372036854775808<=(if (true&&decide (x%18446744073709551616>=9223372036854775808))=true then x%18446744073709551616-18446744073709551616 else x%18446744073709551616)/\(if (true&&decide (x%18446744073709551616>=9223372036854775808))=true then x%18446744073709551616-18446744073709551616 else x%18446744073709551616)<9223372036854775808
 have h1:=Int.emod_nonneg x (show (18446744073709551616:Int)≠0 by decide)
 have h2:=Int.emod_lt_of_pos x (show (0:Int)<18446744073709551616 by decide)
 split
 ·rename_i h
  simp at h
  omega
 ·rename_i h
  simp at h
  omega
theorem iZ(x a b:Int):dj.f x a b=some (decide (a<=x/\x<=b)):=by
 unfold dj.f
 by_cases h:x>=a
 ·rw[if_pos h];simp;omega
 ·rw[if_neg h,decide_eq_false (by omega)];rfl
def insB(n:Int)(x:aE):Bool:=
 if x.Op=1 then decide (-20<=x.N/\x.N<=20/\0<=x.L/\x.L<n) else decide (0<=x.Op/\x.Op<=12/\x.L=0/\(if x.Op=8 then 0<=x.N/\x.N<=12 else if x.Op=9 then 0<=x.N/\x.N<=3 else if x.Op=10 then 0<=x.N/\x.N<=1 else x.N=0))
theorem two{a b:Prop}[Decidable a][Decidable b]:((if a then (some (decide b)) else (some false):Option Bool))=some (decide (a/\b)):=by by_cases h:a<;>simp[h]
theorem right_p(n:Int)(x:aE):eX.f n x=some (insB n x):=by
 unfold eX.f
 have hs:fk.f=some [(1,some fun z0=>dj.f z0 (-20) 20),(8,some fun z0=>dj.f z0 0 12),(9,some fun z0=>dj.f z0 0 3),(10,some fun z0=>dj.f z0 0 1)]:=rfl
 by_cases h2:x.Op<0
 ·rw[if_pos h2,bsome,if_pos rfl];unfold insB;rw[if_neg (by omega),decide_eq_false (by omega)]
 ·by_cases h3:x.Op>=13
  ·rw[if_neg h2,decide_eq_true h3,bsome,if_pos rfl];unfold insB;rw[if_neg (by omega),decide_eq_false (by omega)]
  ·rw[if_neg h2,decide_eq_false h3,bsome,if_neg (by decide),hs,bsome]
   unfold insB mGet mFind mFind mFind mFind mFind
   by_cases q1:x.Op=1
   ·simp only[q1,if_true,two,bsome,iZ]
    by_cases z: -20<=x.N/\x.N<=20
    ·simp[z]
    ·simp[z];intros;omega
   ·by_cases q8:x.Op=8
    ·simp only[q8,if_true,bsome,iZ]
     by_cases z:0<=x.N/\x.N<=12
     ·simp[z]
     ·have zz:0<=x.N->12<x.N:=by omega
      simp[z]
      rw[if_pos zz];rfl
    ·by_cases q9:x.Op=9
     ·simp only[q9,if_true,bsome,iZ]
      by_cases z:0<=x.N/\x.N<=3
      ·simp[z]
      ·have zz:0<=x.N->3<x.N:=by omega
       simp[z]
       rw[if_pos zz];rfl
     ·by_cases q10:x.Op=10
      ·simp only[q10,if_true,bsome,iZ]
       by_cases z:0<=x.N/\x.N<=1
       ·simp[z]
       ·have zz:0<=x.N->1<x.N:=by omega
        simp[z]
        rw[if_pos zz];rfl
      ·have z1:0<=x.Op:=by omega
       have z2:x.Op<=12:=by omega
       simp only[q1,q8,q9,q10,if_false,bsome]
       by_cases z:x.N=0
       ·simp[z,z1,z2]
       ·simp[z]
end
section
theorem cutok{n m:Nat}:(0:Int)<=(if (n:Int)<(m:Int) then (n:Int) else (m:Int))/\(if (n:Int)<(m:Int) then (n:Int) else (m:Int))<=(m:Int):=by split<;>omega
end
section
def rightB(n:Int)(code:List aE):Bool:=decide (code.length<=12)&&code.all (insB n)
theorem kP{l:aq} {c:List aE}(hl:c.length<=1000):∀(d k:Nat),c.length=k+d->∃r:Int⊕Unit,aN.l0 c (fun z0=>dR.f z0 l) (k:Int)=some r/\(match r with|.inl j=>0<=j/\(c.drop k).all (insB (l.Up.length:Int))=false|.inr ()=>(c.drop k).all (insB (l.Up.length:Int))=true)
 |0,k,e=>by rw[aN.l0,if_neg (by omega),List.drop_of_length_le (by omega)];exact⟨_,rfl,rfl⟩
 |d+1,k,e=>by
  have hk:k<c.length:=by omega
  obtain⟨r,h1,h2⟩:=kP (l:=l) hl d (k+1) (by omega)
  rw[aN.l0,if_pos (by omega),br hk,bsome]
  show∃r,(dR.f c[k] l>>=_)=_/\_
  have hr:dR.f c[k] l=some (!insB (l.Up.length:Int) c[k]):=by unfold dR.f;rw[right_p];rfl
  rw[hr,bsome,wS (by omega),h1,List.drop_eq_getElem_cons hk,List.all_cons]
  cases q:insB (l.Up.length:Int) c[k] with
  |true=>rw[if_neg (by decide),Bool.true_and];exact⟨r,rfl,h2⟩
  |false=>rw[if_pos (by decide),Bool.false_and];exact⟨.inl (k:Int),rfl,by omega,rfl⟩
theorem pright_eq{l:aq} {U:List Nat}(h:Nm l U){c:List aE}(hl:c.length<=1000):dq.f l c=some (decide (chk l U=0)&&rightB (l.Up.length:Int) c):=by
 unfold dq.f rightB bF.f aN.f
 rw[fU h,bsome]
 by_cases hc:chk l U=0
 ·rw[if_pos hc,decide_eq_true hc,Bool.true_and]
  by_cases h12:(c.length:Int)<=12
  ·obtain⟨r,h1,h2⟩:=kP (l:=l) hl c.length 0 (by omega)
   rw[show ((0:Nat):Int)=0 from rfl] at h1
   rw[if_pos h12,h1,bsome,decide_eq_true (show c.length<=12 by omega),Bool.true_and]
   rw[List.drop_zero] at h2
   cases r with
   |inl j=>rw[h2.2];show (((some (decide (j>=0))>>=_):Option Bool)>>=_)=_;rw[decide_eq_true h2.1];rfl
   |inr u=>cases u;rw[show c.all (insB (l.Up.length:Int))=true from h2];rfl
  ·rw[if_neg h12,decide_eq_false (show ¬c.length<=12 by omega)];rfl
 ·rw[if_neg hc,decide_eq_false hc];rfl
end
section
theorem ja{α:Type} {a:List α} {n:Nat}:(lCut a 0 (if (n:Int)<(a.length:Int) then (n:Int) else (a.length:Int))).length<=n:=by
 unfold lCut
 split
 ·simp;omega
 ·simp;omega
end
section
def labB(n:Int)(a:Int):Bool:=decide (a>=0/\a<n)
def valB(v:Int):Bool:=decide (v>=-20/\v<=20)
def plaB(v:Int):Bool:=decide (v>=0/\v<=12)
def okA(n:Int)(a:az):Bool:=valB a.V&&labB n a.L
def okS(n:Int)(x:av):Bool:=labB n x.L&&(if x.Ret=true then plaB x.V else valB x.V)
def rightS(n:Int)(s:ah):Bool:=rightB n s.Code&&plaB s.Pc.V&&labB n s.Pc.L&&(decide (s.Mem.length<=6)&&decide (s.Stack.length<=12)&&decide (s.Out.length<=8))&&s.Mem.all (okA n)&&s.Stack.all (okS n)&&s.Out.all (okA n)
theorem if_two{a b:Prop}[Decidable a][Decidable b]:((if a then (some (decide b)) else (some false):Option Bool))=some (decide (a/\b)):=by by_cases h:a<;>simp[h]
theorem value_p(v:Int):dK.f v=some (valB v):=by
 unfold dK.f valB
 rw[if_two];rfl
theorem place_p(v:Int):dh.f v=some (plaB v):=by
 unfold dh.f plaB
 rw[if_two];rfl
theorem j8(l:aq)(a:Int):bT.f a l=some (labB (l.Up.length:Int) a):=by
 unfold bT.f labB
 rw[if_two];rfl
theorem odd_p(l:aq)(a:az):dL.f a (some (fun z0=>bT.f z0 l))=some (!okA (l.Up.length:Int) a):=by
 unfold dL.f okA
 rw[value_p,bsome]
 cases valB a.V with
 |false=>rfl
 |true=>
  rw[if_neg (by decide),bsome]
  show ((bT.f a.L l>>=_)>>=_)=_
  rw[j8,bsome,bsome];rfl
theorem strange_p(l:aq)(x:av):dW.f x (some (fun z0=>bT.f z0 l))=some (!okS (l.Up.length:Int) x):=by
 unfold dW.f okS
 rw[bsome]
 show ((bT.f x.L l>>=_)>>=_)=_
 rw[j8,bsome,value_p,place_p,bsome,bsome]
 cases labB (l.Up.length:Int) x.L<;>cases x.Ret<;>cases valB x.V<;>cases plaB x.V<;>rfl
theorem idxA{xs:List az} {p:az->Option Bool} {q:az->Bool}(hp:∀x,p x=some (!q x))(hl:xs.length<=1000):∀(d k:Nat),xs.length=k+d->∃r:Int⊕Unit,aK.l0 xs p (k:Int)=some r/\(match r with|.inl j=>0<=j/\(xs.drop k).all q=false|.inr ()=>(xs.drop k).all q=true)
 |0,k,e=>by rw[aK.l0,if_neg (by omega),List.drop_of_length_le (by omega)];exact⟨_,rfl,rfl⟩
 |d+1,k,e=>by
  have hk:k<xs.length:=by omega
  obtain⟨r,h1,h2⟩:=idxA hp hl d (k+1) (by omega)
  rw[aK.l0,if_pos (by omega),br hk,bsome,hp,bsome,wS (by omega),h1,List.drop_eq_getElem_cons hk,List.all_cons]
  cases q xs[k] with
  |true=>rw[if_neg (by decide),Bool.true_and];exact⟨r,rfl,h2⟩
  |false=>rw[if_pos (by decide),Bool.false_and];exact⟨.inl (k:Int),rfl,by omega,rfl⟩
theorem conA{xs:List az} {p:az->Option Bool} {q:az->Bool}(hp:∀x,p x=some (!q x))(hl:xs.length<=1000):bo.f xs p=some (!xs.all q):=by
 unfold bo.f aK.f
 obtain⟨r,h1,h2⟩:=idxA hp hl xs.length 0 (by omega)
 rw[show ((0:Nat):Int)=0 from rfl] at h1
 rw[h1,bsome]
 rw[List.drop_zero] at h2
 rcases r with j|u
 ·obtain⟨h3,h4⟩:=h2
  show some (decide (j>=0))=_
  rw[h4,decide_eq_true h3];rfl
 ·have h2:xs.all q=true:=h2
  rw[h2];rfl
theorem idxS{xs:List av} {p:av->Option Bool} {q:av->Bool}(hp:∀x,p x=some (!q x))(hl:xs.length<=1000):∀(d k:Nat),xs.length=k+d->∃r:Int⊕Unit,aR.l0 xs p (k:Int)=some r/\(match r with|.inl j=>0<=j/\(xs.drop k).all q=false|.inr ()=>(xs.drop k).all q=true)
 |0,k,e=>by rw[aR.l0,if_neg (by omega),List.drop_of_length_le (by omega)];exact⟨_,rfl,rfl⟩
 |d+1,k,e=>by
  have hk:k<xs.length:=by omega
  obtain⟨r,h1,h2⟩:=idxS hp hl d (k+1) (by omega)
  rw[aR.l0,if_pos (by omega),br hk,bsome,hp,bsome,wS (by omega),h1,List.drop_eq_getElem_cons hk,List.all_cons]
  cases q xs[k] with
  |true=>rw[if_neg (by decide),Bool.true_and];exact⟨r,rfl,h2⟩
  |false=>rw[if_pos (by decide),Bool.false_and];exact⟨.inl (k:Int),rfl,by omega,rfl⟩
theorem conS{xs:List av} {p:av->Option Bool} {q:av->Bool}(hp:∀x,p x=some (!q x))(hl:xs.length<=1000):bt.f xs p=some (!xs.all q):=by
 unfold bt.f aR.f
 obtain⟨r,h1,h2⟩:=idxS hp hl xs.length 0 (by omega)
 rw[show ((0:Nat):Int)=0 from rfl] at h1
 rw[h1,bsome]
 rw[List.drop_zero] at h2
 rcases r with j|u
 ·obtain⟨h3,h4⟩:=h2
  show some (decide (j>=0))=_
  rw[h4,decide_eq_true h3];rfl
 ·have h2:xs.all q=true:=h2
  rw[h2];rfl
structure Sz(s:ah):Prop where
 code:s.Code.length<=1000
 mem:s.Mem.length<=1000
 stack:s.Stack.length<=1000
 out:s.Out.length<=1000
theorem le_int{a b:Nat}:(decide ((a:Int)<=(b:Int)))=decide (a<=b):=decide_eq_decide.2 (by omega)
theorem j4{l:aq} {U:List Nat}(h:Nm l U)(hc:chk l U=0){s:ah}(z:Sz s):dw.f l s=some (rightS (l.Up.length:Int) s):=by
 unfold dw.f rightS
 rw[pright_eq h z.code,decide_eq_true hc,Bool.true_and,place_p,conA (odd_p l) z.mem,conA (odd_p l) z.out,conS (strange_p l) z.stack]
 have hz:((if (s.Mem.length:Int)<=6 then (if (s.Stack.length:Int)<=12 then (some (decide ((s.Out.length:Int)<=8))) else (some false)) else (some false):Option Bool))=some (decide (s.Mem.length<=6)&&decide (s.Stack.length<=12)&&decide (s.Out.length<=8)):=by
  by_cases h1:s.Mem.length<=6
  ·rw[if_pos (by omega),decide_eq_true h1]
   by_cases h2:s.Stack.length<=12
   ·rw[if_pos (by omega),decide_eq_true h2]
    show some (decide ((s.Out.length:Int)<=((8:Nat):Int)))=_
    rw[le_int];rfl
   ·rw[if_neg (by omega),decide_eq_false h2];rfl
  ·rw[if_neg (by omega),decide_eq_false h1];rfl
 rw[hz,bsome,bsome]
 generalize (decide (s.Mem.length<=6)&&decide (s.Stack.length<=12)&&decide (s.Out.length<=8))=Z
 generalize s.Mem.all (okA (l.Up.length:Int))=M
 generalize s.Stack.all (okS (l.Up.length:Int))=S
 generalize s.Out.all (okA (l.Up.length:Int))=O
 generalize rightB (l.Up.length:Int) s.Code=C
 generalize plaB s.Pc.V=P
 cases C with
 |false=>rfl
 |true=>
  rw[if_pos rfl,bsome]
  cases P with
  |false=>rfl
  |true=>
   rw[if_pos rfl,bsome]
   show ((bT.f s.Pc.L l>>=_)>>=_)=_
   rw[j8,bsome]
   cases labB (l.Up.length:Int) s.Pc.L<;>cases Z<;>cases M<;>cases S<;>cases O<;>rfl
end
section
theorem cut_eq(s:ah):∃s',dn.f s=some s'/\Sz s':=by
 unfold dn.f
 rw[show (15:Int)=((15:Nat):Int) from rfl,if_pos cutok,if_pos cutok,if_pos cutok,if_pos cutok]
 refine⟨_,rfl,⟨?_,?_,?_,?_⟩⟩
 ·exact Nat.le_trans ja (by decide)
 ·exact Nat.le_trans ja (by decide)
 ·exact Nat.le_trans ja (by decide)
 ·exact Nat.le_trans ja (by decide)
end
end Go.Proofs.YtmjcpkmongafnaaGreatDoor.Ss
