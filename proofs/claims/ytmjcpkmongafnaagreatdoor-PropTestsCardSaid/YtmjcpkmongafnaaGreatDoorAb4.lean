import Derived.Test.YtmjcpkmongafnaaGreatDoorAb3
set_option linter.unusedVariables false
set_option linter.unusedSimpArgs false
namespace Go.Proofs.YtmjcpkmongafnaaGreatDoor.Ab
open Go Go.RowKit
theorem satI_l{i j:Env} {g:G} {a:Act}(h:SatI (i++j) g a):SatI i g a:=fun p hp=>h p (List.mem_append_left _ hp)
theorem satI_r{i j:Env} {g:G} {a:Act}(h:SatI (i++j) g a):SatI j g a:=fun p hp=>h p (List.mem_append_right _ hp)
theorem okV{P:Program} {o:Oper} {ins:Env} {out:Ent}(h:∀(g:G) (w:World) (a:Act),Agree g.H w->SatI ins g a->∃v,(execOp a.eval o).run P w=.ok (.value v) w/\out.ok g v):OkP P o ins out:=by
 intro g w a K Q hA hi hK
 obtain⟨v,hr,hv⟩:=h g w a hA hi
 unfold Oper.wp
 rw[hr]
 exact hK v g.H w (Keep.refl hA) hv
theorem jw(k:IntKind)(n:Int):InR k (k.wrap n):=by
 have h0:(2:Int)^k.bits=2*2^(k.bits-1):=by cases k<;>decide
 have hp:(0:Int)<2^(k.bits-1):=by cases k<;>decide
 have h1:=Int.emod_nonneg n (show (2:Int)^k.bits≠0 by omega)
 have h2:=Int.emod_lt_of_pos n (show (0:Int)<2^k.bits by omega)
 unfold InR IntKind.wrap IntKind.min IntKind.max
 cases hs:k.signed
 ·simp;omega
 ·simp only[Bool.true_and,decide_eq_true_eq,↓reduceIte]
  split<;>omega
section
variable{P:Program} {x y:Operand} {i j:Env} {dst:Option Nat} {T T' ty:TypeId} {pos:String} {af:Array Edge} {gd:Option (Nat×Bool)}
theorem oMv{e:Ent}(h:Opd x e i):OkP P ⟨dst,.move x,ty,pos,af,gd⟩ i e:=okV fun g w a hA hi=>⟨a.eval x,rfl,h g a hi⟩
theorem oAs{e:Ent}(h:Opd x e i):OkP P ⟨dst,.assign x,ty,pos,af,gd⟩ i e:=okV fun g w a hA hi=>⟨a.eval x,rfl,h g a hi⟩
theorem oPickT{c:Operand} {e:Ent} {ic:Env}(hc:Opd c (.d (kB.sig true)) ic)(h:Opd x e i):OkP P ⟨dst,.pick c x y,ty,pos,af,gd⟩ (ic++i) e:=okV fun g w a hA hi=>by
 have hb:=kB_sig.1 (hc g a (satI_l hi))
 exact⟨a.eval x,by simp[execOp,hb,asBool],h g a (satI_r hi)⟩
theorem oPickF{c:Operand} {e:Ent} {ic:Env}(hc:Opd c (.d (kB.sig false)) ic)(h:Opd y e i):OkP P ⟨dst,.pick c x y,ty,pos,af,gd⟩ (ic++i) e:=okV fun g w a hA hi=>by
 have hb:=kB_sig.1 (hc g a (satI_l hi))
 exact⟨a.eval y,by simp[execOp,hb,asBool],h g a (satI_r hi)⟩
theorem oAl(k:IntKind){a b:Int}(h:Opd x (.d ((kI k).sig a)) i)(h':Opd y (.d ((kI k).sig b)) j)(op:BinOp)(f:Int->Int->Int)(hop:op=.add/\f=(·+·)\/op=.sub/\f=(·-·)\/op=.mul/\f=(·*·)):OkP P ⟨dst,.binOp op T x y T',ty,pos,af,gd⟩ (i++j) (.d ((kI k).sig (k.wrap (f a b)))):=okV fun g w ac hA hi=>by
 have h1:=(kI_sig.1 (h g ac (satI_l hi))).1
 have h2:=(kI_sig.1 (h' g ac (satI_r hi))).1
 refine⟨.int k (k.wrap (f a b)),?_,kI_sig.2 ⟨rfl,jw k _⟩⟩
 rcases hop with ⟨rfl,rfl⟩|⟨rfl,rfl⟩|⟨rfl,rfl⟩<;>simp[execOp,h1,h2,binOp,eqGuard,Op.intArith]
theorem oAdd{k:IntKind} {a b:Int}(h:Opd x (.d ((kI k).sig a)) i)(h':Opd y (.d ((kI k).sig b)) j):OkP P ⟨dst,.binOp .add T x y T',ty,pos,af,gd⟩ (i++j) (.d ((kI k).sig (k.wrap (a+b)))):=oAl k h h' .add _ (.inl ⟨rfl,rfl⟩)
theorem oSub{k:IntKind} {a b:Int}(h:Opd x (.d ((kI k).sig a)) i)(h':Opd y (.d ((kI k).sig b)) j):OkP P ⟨dst,.binOp .sub T x y T',ty,pos,af,gd⟩ (i++j) (.d ((kI k).sig (k.wrap (a-b)))):=oAl k h h' .sub _ (.inr (.inl ⟨rfl,rfl⟩))
theorem lc(k:IntKind):k.min<=0/\0<=k.max:=by cases k<;>decide
theorem tmod_inR{k:IntKind} {a b:Int}(h:InR k a):InR k (a.tmod b):=by
 have hz:=lc k
 unfold InR at*
 rcases Int.le_total 0 a with ha|ha
 ·have h1:=Int.tmod_nonneg b ha
  have h2:a.tmod b<=a:=by
   rw[Int.tmod_eq_emod_of_nonneg ha]
   rcases Int.lt_trichotomy b 0 with hb|rfl|hb
   ·have:=Int.emod_add_mul_ediv a b
    have h3:0<=b*(a/b):=by
     have:a/b<=0:=Int.ediv_nonpos_of_nonneg_of_nonpos ha (by omega)
     exact Int.mul_nonneg_of_nonpos_of_nonpos (by omega) this
    omega
   ·simp
   ·have:=Int.emod_add_mul_ediv a b
    have:=Int.mul_nonneg (Int.le_of_lt hb) (Int.ediv_nonneg ha (Int.le_of_lt hb))
    omega
  omega
 ·have e:a= -(-a):=by omega
  have h1:0<=(-a).tmod b:=Int.tmod_nonneg b (by omega)
  have h2:(-a).tmod b<=-a:=by
   rw[Int.tmod_eq_emod_of_nonneg (by omega)]
   rcases Int.lt_trichotomy b 0 with hb|rfl|hb
   ·have:=Int.emod_add_mul_ediv (-a) b
    have h3:0<=b*((-a)/b):=by
     have:(-a)/b<=0:=Int.ediv_nonpos_of_nonneg_of_nonpos (by omega) (by omega)
     exact Int.mul_nonneg_of_nonpos_of_nonpos (by omega) this
    omega
   ·simp
   ·have:=Int.emod_add_mul_ediv (-a) b
    have:=Int.mul_nonneg (Int.le_of_lt hb) (Int.ediv_nonneg (show 0<=-a by omega) (Int.le_of_lt hb))
    omega
  rw[e,Int.neg_tmod]
  omega
theorem oRem{k:IntKind} {a b:Int}(hb:¬b=0)(h:Opd x (.d ((kI k).sig a)) i)(h':Opd y (.d ((kI k).sig b)) j):OkP P ⟨dst,.binOp .rem T x y T',ty,pos,af,gd⟩ (i++j) (.d ((kI k).sig (a.tmod b))):=okV fun g w ac hA hi=>by
 have h0:=kI_sig.1 (h g ac (satI_l hi))
 have h1:=h0.1
 have h2:=(kI_sig.1 (h' g ac (satI_r hi))).1
 exact⟨.int k (a.tmod b),by simp[execOp,h1,h2,binOp,eqGuard,Op.intDiv,hb],kI_sig.2 ⟨rfl,tmod_inR h0.2⟩⟩
theorem oQuo{k:IntKind} {a b:Int}(hb:¬b=0)(h:Opd x (.d ((kI k).sig a)) i)(h':Opd y (.d ((kI k).sig b)) j):OkP P ⟨dst,.binOp .quo T x y T',ty,pos,af,gd⟩ (i++j) (.d ((kI k).sig (k.wrap (a.tdiv b)))):=okV fun g w ac hA hi=>by
 have h1:=(kI_sig.1 (h g ac (satI_l hi))).1
 have h2:=(kI_sig.1 (h' g ac (satI_r hi))).1
 exact⟨.int k (k.wrap (a.tdiv b)),by simp[execOp,h1,h2,binOp,eqGuard,Op.intDiv,hb],kI_sig.2 ⟨rfl,jw k _⟩⟩
def bAnd(k:IntKind)(a b:Int):Int:=k.wrap (BitVec.ofInt k.bits a&&&BitVec.ofInt k.bits b).toNat
def bOr(k:IntKind)(a b:Int):Int:=k.wrap (BitVec.ofInt k.bits a|||BitVec.ofInt k.bits b).toNat
def bXor(k:IntKind)(a b:Int):Int:=k.wrap (BitVec.ofInt k.bits a^^^BitVec.ofInt k.bits b).toNat
def bAndNot(k:IntKind)(a b:Int):Int:=k.wrap (BitVec.ofInt k.bits a&&& ~~~BitVec.ofInt k.bits b).toNat
def bShl(k:IntKind)(a b:Int):Int:=k.wrap (a*2^(min b.toNat k.bits))
def bShr(k:IntKind)(a b:Int):Int:=a.fdiv (2^(min b.toNat k.bits))
theorem oBits(k:IntKind){a b:Int}(h:Opd x (.d ((kI k).sig a)) i)(h':Opd y (.d ((kI k).sig b)) j)(op:BinOp)(f:Int->Int->Int)(hop:op=.and/\f=bAnd k\/op=.or/\f=bOr k\/op=.xor/\f=bXor k\/op=.andNot/\f=bAndNot k):OkP P ⟨dst,.binOp op T x y T',ty,pos,af,gd⟩ (i++j) (.d ((kI k).sig (f a b))):=okV fun g w ac hA hi=>by
 have h1:=(kI_sig.1 (h g ac (satI_l hi))).1
 have h2:=(kI_sig.1 (h' g ac (satI_r hi))).1
 refine⟨.int k (f a b),?_,kI_sig.2 ⟨rfl,?_⟩⟩
 ·rcases hop with ⟨rfl,rfl⟩|⟨rfl,rfl⟩|⟨rfl,rfl⟩|⟨rfl,rfl⟩<;>simp[execOp,h1,h2,binOp,eqGuard,Op.intBits,bAnd,bOr,bXor,bAndNot]
 ·rcases hop with ⟨rfl,rfl⟩|⟨rfl,rfl⟩|⟨rfl,rfl⟩|⟨rfl,rfl⟩<;>exact jw k _
theorem oAnd{k:IntKind} {a b:Int}(h:Opd x (.d ((kI k).sig a)) i)(h':Opd y (.d ((kI k).sig b)) j):OkP P ⟨dst,.binOp .and T x y T',ty,pos,af,gd⟩ (i++j) (.d ((kI k).sig (bAnd k a b))):=oBits k h h' .and _ (.inl ⟨rfl,rfl⟩)
theorem oOr{k:IntKind} {a b:Int}(h:Opd x (.d ((kI k).sig a)) i)(h':Opd y (.d ((kI k).sig b)) j):OkP P ⟨dst,.binOp .or T x y T',ty,pos,af,gd⟩ (i++j) (.d ((kI k).sig (bOr k a b))):=oBits k h h' .or _ (.inr (.inl ⟨rfl,rfl⟩))
theorem oAndNot{k:IntKind} {a b:Int}(h:Opd x (.d ((kI k).sig a)) i)(h':Opd y (.d ((kI k).sig b)) j):OkP P ⟨dst,.binOp .andNot T x y T',ty,pos,af,gd⟩ (i++j) (.d ((kI k).sig (bAndNot k a b))):=oBits k h h' .andNot _ (.inr (.inr (.inr ⟨rfl,rfl⟩)))
theorem oShl{k k':IntKind} {a b:Int}(hb:¬b<0)(h:Opd x (.d ((kI k).sig a)) i)(h':Opd y (.d ((kI k').sig b)) j):OkP P ⟨dst,.binOp .shl T x y T',ty,pos,af,gd⟩ (i++j) (.d ((kI k).sig (bShl k a b))):=okV fun g w ac hA hi=>by
 have h1:=(kI_sig.1 (h g ac (satI_l hi))).1
 have h2:=(kI_sig.1 (h' g ac (satI_r hi))).1
 exact⟨.int k (bShl k a b),by simp[execOp,h1,h2,binOp,eqGuard,Op.shift,hb,bShl],kI_sig.2 ⟨rfl,jw k _⟩⟩
theorem fdiv_inR{k:IntKind} {a:Int} {n:Nat}(h:InR k a):InR k (a.fdiv (2^n)):=by
 have hz:=lc k
 have hp:(0:Int)<2^n:=Int.pow_pos (by decide)
 unfold InR at*
 rw[Int.fdiv_eq_ediv_of_nonneg _ (by omega)]
 rcases Int.le_total 0 a with ha|ha
 ·have h1:=Int.ediv_nonneg ha (show (0:Int)<=2^n by omega)
  have h2:=Int.ediv_le_self (2^n) ha
  omega
 ·have h1:a<=a/2^n:=by
   rw[Int.le_ediv_iff_mul_le hp]
   have:=Int.mul_le_mul_of_nonpos_left ha (show (1:Int)<=2^n by omega)
   omega
  have h2:a/2^n<=0:=by
   have:=Int.ediv_le_ediv hp ha
   simpa using this
  omega
theorem oShr{k k':IntKind} {a b:Int}(hb:¬b<0)(h:Opd x (.d ((kI k).sig a)) i)(h':Opd y (.d ((kI k').sig b)) j):OkP P ⟨dst,.binOp .shr T x y T',ty,pos,af,gd⟩ (i++j) (.d ((kI k).sig (bShr k a b))):=okV fun g w ac hA hi=>by
 have h0:=kI_sig.1 (h g ac (satI_l hi))
 have h1:=h0.1
 have h2:=(kI_sig.1 (h' g ac (satI_r hi))).1
 exact⟨.int k (bShr k a b),by simp[execOp,h1,h2,binOp,eqGuard,Op.shift,hb,bShr],kI_sig.2 ⟨rfl,fdiv_inR h0.2⟩⟩
theorem oCm(op:BinOp)(f:Int->Int->Bool)(hop:op=.eql/\f=(fun a b=>decide (a=b))\/op=.neq/\f=(fun a b=> !decide (a=b))\/op=.lss/\f=(fun a b=>decide (a<b))\/op=.leq/\f=(fun a b=>decide (a<=b))\/op=.gtr/\f=(fun a b=>decide (a>b))\/op=.geq/\f=(fun a b=>decide (a>=b)))
  {k:IntKind} {a b:Int} {r:Bool} (hr:f a b=r) (h:Opd x (.d ((kI k).sig a)) i) (h':Opd y (.d ((kI k).sig b)) j):OkP P ⟨dst,.binOp op T x y T',ty,pos,af,gd⟩ (i++j) (.d (kB.sig r)):=okV fun g w ac hA hi=>by
 have h1:=(kI_sig.1 (h g ac (satI_l hi))).1
 have h2:=(kI_sig.1 (h' g ac (satI_r hi))).1
 subst hr
 refine⟨.bool (f a b),?_,kB_sig.2 rfl⟩
 rcases hop with ⟨rfl,rfl⟩|⟨rfl,rfl⟩|⟨rfl,rfl⟩|⟨rfl,rfl⟩|⟨rfl,rfl⟩|⟨rfl,rfl⟩<;>simp[execOp,h1,h2,binOp,eqGuard,Op.intCmp]<;>rfl
theorem oEq{k:IntKind} {a b:Int} {r:Bool}(hr:decide (a=b)=r)(h:Opd x (.d ((kI k).sig a)) i)(h':Opd y (.d ((kI k).sig b)) j):OkP P ⟨dst,.binOp .eql T x y T',ty,pos,af,gd⟩ (i++j) (.d (kB.sig r)):=oCm .eql _ (.inl ⟨rfl,rfl⟩) hr h h'
theorem oNe{k:IntKind} {a b:Int} {r:Bool}(hr:decide (a=b)=r)(h:Opd x (.d ((kI k).sig a)) i)(h':Opd y (.d ((kI k).sig b)) j):OkP P ⟨dst,.binOp .neq T x y T',ty,pos,af,gd⟩ (i++j) (.d (kB.sig (!r))):=oCm .neq _ (.inr (.inl ⟨rfl,rfl⟩)) (by rw[hr]) h h'
theorem oLt{k:IntKind} {a b:Int} {r:Bool}(hr:decide (a<b)=r)(h:Opd x (.d ((kI k).sig a)) i)(h':Opd y (.d ((kI k).sig b)) j):OkP P ⟨dst,.binOp .lss T x y T',ty,pos,af,gd⟩ (i++j) (.d (kB.sig r)):=oCm .lss _ (.inr (.inr (.inl ⟨rfl,rfl⟩))) hr h h'
theorem oLe{k:IntKind} {a b:Int} {r:Bool}(hr:decide (a<=b)=r)(h:Opd x (.d ((kI k).sig a)) i)(h':Opd y (.d ((kI k).sig b)) j):OkP P ⟨dst,.binOp .leq T x y T',ty,pos,af,gd⟩ (i++j) (.d (kB.sig r)):=oCm .leq _ (.inr (.inr (.inr (.inl ⟨rfl,rfl⟩)))) hr h h'
theorem oGt{k:IntKind} {a b:Int} {r:Bool}(hr:decide (a>b)=r)(h:Opd x (.d ((kI k).sig a)) i)(h':Opd y (.d ((kI k).sig b)) j):OkP P ⟨dst,.binOp .gtr T x y T',ty,pos,af,gd⟩ (i++j) (.d (kB.sig r)):=oCm .gtr _ (.inr (.inr (.inr (.inr (.inl ⟨rfl,rfl⟩))))) hr h h'
theorem oGe{k:IntKind} {a b:Int} {r:Bool}(hr:decide (a>=b)=r)(h:Opd x (.d ((kI k).sig a)) i)(h':Opd y (.d ((kI k).sig b)) j):OkP P ⟨dst,.binOp .geq T x y T',ty,pos,af,gd⟩ (i++j) (.d (kB.sig r)):=oCm .geq _ (.inr (.inr (.inr (.inr (.inr ⟨rfl,rfl⟩))))) hr h h'
theorem oNot{b:Bool}(h:Opd x (.d (kB.sig b)) i):OkP P ⟨dst,.unOp .not T x,ty,pos,af,gd⟩ i (.d (kB.sig (!b))):=okV fun g w ac hA hi=>by
 have h1:=kB_sig.1 (h g ac hi)
 exact⟨.bool (!b),by simp[execOp,h1,Op.unary],kB_sig.2 rfl⟩
theorem jT{w:World}(hT:P.underlying T=some .bool)(a b:Bool):(Op.equal T (.bool a) (.bool b)).run P w=.ok (a==b) w:=by
 unfold Op.equal
 rw[show Op.maxDepth=9999+1 from rfl,Op.equalIn,Sem.run_bind,run_underlying hT]
 rfl
theorem oBEq{a b r:Bool}(hT:P.underlying T=some .bool)(hr:decide (a=b)=r)(h:Opd x (.d (kB.sig a)) i)(h':Opd y (.d (kB.sig b)) j):OkP P ⟨dst,.binOp .eql T x y T',ty,pos,af,gd⟩ (i++j) (.d (kB.sig r)):=okV fun g w ac hA hi=>by
 have h1:=kB_sig.1 (h g ac (satI_l hi))
 have h2:=kB_sig.1 (h' g ac (satI_r hi))
 subst hr
 refine⟨.bool (decide (a=b)),?_,kB_sig.2 rfl⟩
 have he:(eqGuard .eql T x y (.bool a) (.bool b)).run P w=.ok () w:=by rfl
 have hb:binOp .eql T (.bool a) (.bool b)=(do pure (.bool (<-Op.equal T (.bool a) (.bool b)))):=rfl
 simp only[execOp,h1,h2,Sem.run_bind,he,Result.andThen_ok,hb,jT hT,Sem.run_pure]
 cases a<;>cases b<;>rfl
theorem oBNe{a b r:Bool}(hT:P.underlying T=some .bool)(hr:decide (a=b)=r)(h:Opd x (.d (kB.sig a)) i)(h':Opd y (.d (kB.sig b)) j):OkP P ⟨dst,.binOp .neq T x y T',ty,pos,af,gd⟩ (i++j) (.d (kB.sig (!r))):=okV fun g w ac hA hi=>by
 have h1:=kB_sig.1 (h g ac (satI_l hi))
 have h2:=kB_sig.1 (h' g ac (satI_r hi))
 subst hr
 refine⟨.bool (!decide (a=b)),?_,kB_sig.2 rfl⟩
 have he:(eqGuard .neq T x y (.bool a) (.bool b)).run P w=.ok () w:=by rfl
 have hb:binOp .neq T (.bool a) (.bool b)=(do pure (.bool (!(<-Op.equal T (.bool a) (.bool b))))):=rfl
 simp only[execOp,h1,h2,Sem.run_bind,he,Result.andThen_ok,hb,jT hT,Sem.run_pure]
 cases a<;>cases b<;>rfl
theorem oConv{k k':IntKind} {a:Int} {S D:TypeId} {sd:TypeDesc}(hS:P.underlying S=some sd)(hD:P.underlying D=some (.int k'))(h:Opd x (.d ((kI k).sig a)) i):OkP P ⟨dst,.convert S D x,ty,pos,af,gd⟩ i (.d ((kI k').sig (k'.wrap a))):=okV fun g w ac hA hi=>by
 have h1:=(kI_sig.1 (h g ac hi)).1
 refine⟨.int k' (k'.wrap a),?_,kI_sig.2 ⟨rfl,jw k' _⟩⟩
 simp[execOp,h1,convert,run_underlying hS,run_underlying hD,Conv.intToInt]
theorem oMin{k:IntKind} {a b:Int} {ts:Array TypeId}(h:Opd x (.d ((kI k).sig a)) i)(h':Opd y (.d ((kI k).sig b)) j):OkP P ⟨dst,.call ⟨.builtin .min,#[x,y],ts⟩,ty,pos,af,gd⟩ (i++j) (.d ((kI k).sig (if b<a then b else a))):=okV fun g w ac hA hi=>by
 have h1:=kI_sig.1 (h g ac (satI_l hi))
 have h2:=kI_sig.1 (h' g ac (satI_r hi))
 refine⟨.int k (if b<a then b else a),?_,kI_sig.2 ⟨rfl,?_⟩⟩
 ·simp[execOp,resolve,invoke,builtin,Builtin.min_,Builtin.min2,h1.1,h2.1]
 ·split;exact h2.2;exact h1.2
end
end Go.Proofs.YtmjcpkmongafnaaGreatDoor.Ab
