import Derived.Test.YtmjcpkmongafnaaGreatDoorAb0
set_option linter.unusedVariables false
set_option linter.unusedSimpArgs false
namespace Go.Proofs.YtmjcpkmongafnaaGreatDoor.Ab
open Go Go.RowKit
structure G where
 H:FH
 nm:Nat->Option Value
def G.le(g g':G):Prop:=FH.le g.H g'.H/\∀i v,g.nm i=some v->g'.nm i=some v
theorem G.le.refl(g:G):G.le g g:=⟨FH.le.refl _,fun _ _ h=>h⟩
theorem G.le.trans{a b c:G}(h:G.le a b)(k:G.le b c):G.le a c:=⟨h.1.trans k.1,fun i v e=>k.2 i v (h.2 i v e)⟩
structure SigN where
 p:FH->List Value->Value->Prop
 mono:∀{H H':FH} {vs:List Value} {v:Value},FH.le H H'->p H vs v->p H' vs v
inductive Ent:Type 1 where
 |d (s:Sig)
 |v (id:Nat)
 |p (id off:Nat)
 |e (id off:Nat)
 |f (ids:List Nat) (s:SigN)
def Ent.ok:Ent->G->Value->Prop
 |.d s,g,x=>s.p g.H x
 |.v i,g,x=>g.nm i=some x
 |.p i o,g,x=>∃b,g.nm i=some (.pointer (some ⟨b,0,none⟩))/\x=.pointer (some ⟨b,o,none⟩)
 |.e i o,g,x=>∃b n c,g.nm i=some (.slice (some ⟨b,0,none⟩) n c)/\x=.pointer (some ⟨b,o,none⟩)
 |.f ids s,g,x=>∃vs,ids.map g.nm=vs.map some/\s.p g.H vs x
theorem nm_le{g g':G}(h:G.le g g'):∀{ids:List Nat} {vs:List Value},ids.map g.nm=vs.map some->ids.map g'.nm=vs.map some
 |[],[],_=>rfl
 |i::ids,v::vs,e=>by
  simp only[List.map_cons,List.cons.injEq] at e⊢
  exact⟨h.2 _ _ e.1,nm_le h e.2⟩
theorem Ent.mono{e:Ent} {g g':G} {x:Value}(h:G.le g g')(k:e.ok g x):e.ok g' x:=by
 cases e with
 |d s=>exact s.mono h.1 k
 |v i=>exact h.2 _ _ k
 |p i o=>obtain⟨b,h1,h2⟩:=k;exact⟨b,h.2 _ _ h1,h2⟩
 |e i o=>obtain⟨b,n,c,h1,h2⟩:=k;exact⟨b,n,c,h.2 _ _ h1,h2⟩
 |f ids s=>obtain⟨vs,h1,h2⟩:=k;exact⟨vs,nm_le h h1,s.mono h.1 h2⟩
abbrev Env:=List (Nat×Ent)
def look:Env->Nat->Option Ent
 |[],_=>none
 |p::r,u=>match Nat.beq p.1 u with|true=>some p.2|false=>look r u
theorem eD(t:Nat)(e:Ent)(Γ:Env)(u:Nat):look ((t,e)::Γ) u=if t=u then some e else look Γ u:=by
 simp only[look]
 by_cases h:t=u
 ·subst h;simp[Nat.beq_refl]
 ·rw[if_neg h]
  have:Nat.beq t u=false:=by
   cases hb:Nat.beq t u with
   |false=>rfl
   |true=>exact absurd (Nat.eq_of_beq_eq_true hb) h
  rw[this]
def Sat(Γ:Env)(g:G)(a:Act):Prop:=∀t e,look Γ t=some e->e.ok g (a.tmps.getD t undef)
def SatI(ins:Env)(g:G)(a:Act):Prop:=∀p∈ins,p.2.ok g (a.tmps.getD p.1 undef)
def Sub:Env->Env->Prop
 |[],_=>True
 |p::r,Γ=>look Γ p.1=some p.2/\Sub r Γ
theorem Sub.mem:∀{ins Γ:Env},Sub ins Γ->∀p∈ins,look Γ p.1=some p.2
 |q::r,Γ,⟨h,k⟩,p,hp=>by
  rcases List.mem_cons.1 hp with rfl|hp
  ·exact h
  ·exact Sub.mem k p hp
theorem Sub.sat{ins Γ:Env}(h:Sub ins Γ){g:G} {a:Act}(k:Sat Γ g a):SatI ins g a:=fun p hp=>k _ _ (h.mem p hp)
inductive Leaf:Type 1 where
 |d {α:Type} (k:Kd α) (x:α)
 |v (id:Nat)
 |o (id:Nat)
def Leaf.sz:Leaf->Nat|.d k _=>k.sz|.v _=>1|.o _=>1
def Leaf.ok:Leaf->G->List Value->Prop
 |.d k x,g,cs=>k.reps g.H cs x
 |.v i,g,cs=>∃v,g.nm i=some v/\cs=[v]/\v.oneCell'=true
 |.o i,g,cs=>cs=[.pointer none]\/∃v,g.nm i=some v/\cs=[v]/\v.oneCell'=true
def leafs:List Leaf->G->List Value->Prop
 |[],_,cs=>cs=[]
 |l::ls,g,cs=>∃c1 c2,cs=c1++c2/\l.ok g c1/\leafs ls g c2
structure Abs(σ:Type) where
 p:σ->FH->World->List Nat->Prop
 mono:∀{s:σ} {H H':FH} {w w':World} {bs:List Nat},FH.le H H'->w.heap.size<=w'.heap.size->(∀b∈bs,w'.heap[b]?=w.heap[b]?)->p s H w bs->p s H' w' bs
def encB(bs:List Nat):Value:=.tuple (bs.map fun(n:Nat)=>Value.int .i64 (Int.ofNat n)).toArray
theorem encB_inj:∀{a b:List Nat},encB a=encB b->a=b
 |[],[],_=>rfl
 |[],y::b,h=>by simp[encB] at h
 |x::a,[],h=>by simp[encB] at h
 |x::a,y::b,h=>by
  simp only[encB,Value.tuple.injEq,List.map_cons] at h
  have h':=congrArg Array.toList h
  simp only[List.cons.injEq,Value.int.injEq,true_and,Int.ofNat_eq_natCast,Int.natCast_inj] at h'
  rw[h'.1,encB_inj (a:=a) (b:=b) (congrArg (fun l:List Value=>Value.tuple l.toArray) h'.2)]
inductive Res:Type 1 where
 |box (id:Nat) (T:TypeId) (ls:List Leaf)
 |row {α:Type} (id:Nat) (T:TypeId) (d:Kd α) (xs:List α)
 |abs {σ:Type} (id:Nat) (A:Abs σ) (s:σ)
def Res.block(g:G):Res->Nat->Prop
 |.box i _ _,b=>(match g.nm i with|some (.pointer (some a))=>some a.block|_=>none)=some b
 |.row i _ _ _,b=>(g.nm i).bind Value.ownBlock=some b
 |.abs i _ _,b=>∃bs,g.nm i=some (encB bs)/\b∈bs
def Res.ok(g:G)(w:World):Res->Prop
 |.box i T ls=>∃b cs,g.nm i=some (.pointer (some ⟨b,0,none⟩))/\w.heap[b]?=some (.cells cs T (0,0))/\leafs ls g cs.toList
 |.row i T d xs=>∃v cells,g.nm i=some v/\w.ownsRow 0 T d.sz v xs.length cells/\RowOf d g.H cells xs/\xs.length<=big
 |.abs i A s=>∃bs,g.nm i=some (encB bs)/\A.p s g.H w bs
structure Own(X:Nat->Prop)(B:Nat)(g:G)(w:World)(R:List Res):Prop where
 ok:∀r∈R,r.ok g w
 at_:∀r∈R,∀b,r.block g b->g.H b=none/\b<w.heap.size/\(X b\/B<=b)
 apart:R.Pairwise fun r s=>∀b,r.block g b->¬s.block g b
def mark(r:Nat):Deferred:={target:=.collected r,args:= #[]}
def Dfr(D:List Deferred)(B:Nat)(g:G)(w:World)(R:List Res)(ds:List Deferred):Prop:=
 ∃rs:List Nat,ds=rs.map mark++D/\rs.Nodup/\∀r∈rs,w.heap[r]?=some (.deferred (some []))/\g.H r=none/\B<=r/\∀s∈R,¬s.block g r
structure Cx where
 P:Program
 N:Nat
 X:Nat->Prop
 H0:FH
 w0:World
 rd:Option Nat
 pi:List Nat
 pv:Nat->Option Value
 ds:List Deferred
def Cx.B(C:Cx):Nat:=match C.rd with|none=>C.w0.heap.size|some _=>0
structure St(C:Cx)(Γ:Env)(R:List Res)(g:G)(w:World)(a:Act):Prop where
 size:a.tmps.size=C.N
 defers:Dfr C.ds C.B g w R a.defers
 keep:Keep C.X C.H0 C.w0 g.H w
 sat:Sat Γ g a
 own:Own C.X C.w0.heap.size g w R
 pin:∀i∈C.pi,g.nm i=C.pv i
theorem Leaf.mono{l:Leaf} {g g':G} {cs:List Value}(h:G.le g g')(k:l.ok g cs):l.ok g' cs:=by
 cases l with
 |d kd x=>exact kd.mono h.1 k
 |v i=>obtain⟨v,h1,h2⟩:=k;exact⟨v,h.2 _ _ h1,h2⟩
 |o i=>exact k.imp (fun e=>e) (fun⟨u,h1,h2⟩=>⟨u,h.2 _ _ h1,h2⟩)
theorem j7:∀{ls:List Leaf} {g g':G} {cs:List Value},G.le g g'->leafs ls g cs->leafs ls g' cs
 |[],_,_,_,_,h=>h
 |l::ls,_,_,_,hl,⟨c1,c2,e,h1,h2⟩=>⟨c1,c2,e,Leaf.mono hl h1,j7 hl h2⟩
theorem Res.du{r:Res} {g g':G} {w:World}(h:G.le g g')(k:r.ok g w):r.block g'=r.block g:=by
 funext x
 cases r with
 |box i T ls=>obtain⟨b,cs,e,_⟩:=k;simp only[Res.block,e,h.2 _ _ e]
 |row i T d xs=>obtain⟨v,cells,e,_⟩:=k;simp only[Res.block,e,h.2 _ _ e]
 |abs i A s=>obtain⟨bs,e,_⟩:=k;simp only[Res.block,e,h.2 _ _ e]
theorem nh{w w':World} {e:TypeId} {size n:Nat} {v:Value} {xs:List Value}(h:w.ownsRow 0 e size v n xs)(hb:∀b,v.ownBlock=some b->w'.heap[b]?=w.heap[b]?):w'.ownsRow 0 e size v n xs:=by
 refine⟨h.1,?_⟩
 rcases h.2 with h2|⟨g,cap,cur,hv,hg,hh,r⟩
 ·exact .inl h2
 ·exact .inr ⟨g,cap,cur,hv,hg,by rw[hb g (by rw[hv];rfl)];exact hh,r⟩
theorem Res.gr{r:Res} {g g':G} {w w':World}(h:G.le g g')(hs:w.heap.size<=w'.heap.size)(hb:∀b,r.block g b->w'.heap[b]?=w.heap[b]?)(k:r.ok g w):r.ok g' w':=by
 cases r with
 |box i T ls=>
  obtain⟨b,cs,e,hh,hl⟩:=k
  exact⟨b,cs,h.2 _ _ e,by rw[hb b (by simp only[Res.block,e])];exact hh,j7 h hl⟩
 |row i T d xs=>
  obtain⟨v,cells,e,ho,hr,hbig⟩:=k
  exact⟨v,cells,h.2 _ _ e,nh ho (fun b hb'=>hb b (by simp only[Res.block,e];exact hb')),hr.mono h.1,hbig⟩
 |abs i A s=>
  obtain⟨bs,e,hp⟩:=k
  exact⟨bs,h.2 _ _ e,A.mono h.1 hs (fun b hm=>hb b ⟨bs,e,hm⟩) hp⟩
theorem Own.mono{X:Nat->Prop} {B:Nat} {g g':G} {w w':World} {R:List Res}(h:Own X B g w R)(hl:G.le g g')(hs:w.heap.size<=w'.heap.size)
  (hb:∀b,b<w.heap.size->g.H b=none->w'.heap[b]?=w.heap[b]?) (hn:∀b,b<w.heap.size->g.H b=none->g'.H b=none):Own X B g' w' R:=by
 refine⟨fun r hr=>?_,fun r hr b e=>?_,?_⟩
 ·exact Res.gr hl hs (fun b e=>hb b (h.at_ r hr b e).2.1 (h.at_ r hr b e).1) (h.ok r hr)
 ·rw[Res.du hl (h.ok r hr)] at e
  obtain⟨h1,h2,h3⟩:=h.at_ r hr b e
  exact⟨hn b h2 h1,Nat.lt_of_lt_of_le h2 hs,h3⟩
 ·refine List.Pairwise.imp_of_mem ?_ h.apart
  intro r s hr hs' hrs b e
  rw[Res.du hl (h.ok r hr)] at e
  rw[Res.du hl (h.ok s hs')]
  exact hrs b e
theorem Own.keep{X:Nat->Prop} {B:Nat} {g g':G} {w w':World} {R:List Res}(h:Own X B g w R)(hl:G.le g g')(k:Keep No g.H w g'.H w'):Own X B g' w' R:=
 h.mono hl k.size (fun b hb _=>k.block b hb (fun x=>x)) (fun b hb e=>(k.old b hb (fun x=>x.elim)).trans e)
theorem Sat.mono{Γ:Env} {g g':G} {a:Act}(h:Sat Γ g a)(hl:G.le g g'):Sat Γ g' a:=fun t e hh=>Ent.mono hl (h t e hh)
def FR(r:Option Nat):Fence:={Fence.wide with round:=r}
theorem j4{r:Option Nat} {n:Nat} {P:Program} {f:FuncId} {args:Array Value} {w:World} {R:Ending->World->Prop}:CallsIn (FR r) n P f args w R↔Calls P f args w R:=
 callsIn_wide (n:=n)
theorem rows_FR{r:Option Nat} {n:Nat} {P:Program} {row:String} {args:Array Value} {w:World} {R:Value->World->Prop}(h:Rows P row args w R):RowsIn (FR r) n P row args w R:=
 fun c cs _=>let ⟨v,w',hr,hs⟩:=h c cs;⟨v,w',hr,stepsIn_wide.2 hs⟩
theorem jm{r:Option Nat} {P:Program} {o:Oper} {a:Act} {w:World} {K:Act->World->Prop} {Q:Exit->Act->World->Prop}(hd:∀c,o.op≠ .defer c)(h:o.wp P a w K Q):o.wpIn (FR r) 0 P a w K Q:=by
 refine⟨fun _ _=>trivial,?_⟩
 rw[show (FR r).round=r from rfl,Oper.semAt_eq r _ o hd]
 unfold Oper.wp at h
 generalize (execOp a.eval o).run P w=x at*
 cases x with
 |ok x w'=>
  cases x<;>simp only[Oper.upon,Oper.uponIn] at h⊢<;>
   first
    |exact h
    |exact⟨fun e=>by simp[FR,Fence.wide] at e,j4.2 h⟩
    |exact⟨fun e=>by simp[FR,Fence.wide] at e,rows_FR h⟩
 |halt x w'=>cases x<;>simp only[Oper.upon,Oper.uponIn] at h⊢<;>exact h
def Ok(P:Program)(o:Oper)(ins:Env)(R:List Res)(out:Ent)(nid:Option Nat)(R':List Res):Prop:=
 ∀(X:Nat->Prop) (H0:FH) (w0:World) (g:G) (w:World) (a:Act) (K:Act->World->Prop) (Q:Exit->Act->World->Prop),
  Keep X H0 w0 g.H w->SatI ins g a->Own X w0.heap.size g w R->(∀i,nid=some i->g.nm i=none)->
  (∀(v:Value) (g':G) (w':World),Keep X H0 w0 g'.H w'->G.le g g'->(∀i,g.nm i=none->nid≠some i->g'.nm i=none)->out.ok g' v->Own X w0.heap.size g' w' R'->K (a.put o.dst v) w')->
  o.wp P a w K Q
def OkL(rd:Option Nat)(P:Program)(o:Oper)(ins:Env)(R:List Res)(out:Ent)(ns:List Nat)(R':List Res):Prop:=
 ∀(X:Nat->Prop) (H0:FH) (w0:World) (g:G) (w:World) (a:Act) (K:Act->World->Prop) (Q:Exit->Act->World->Prop),
  Keep X H0 w0 g.H w->SatI ins g a->Own X w0.heap.size g w R->(∀i∈ns,g.nm i=none)->
  (∀(v:Value) (g':G) (w':World),Keep X H0 w0 g'.H w'->G.le g g'->(∀i,g.nm i=none->i∉ns->g'.nm i=none)->out.ok g' v->Own X w0.heap.size g' w' R'->K (a.put o.dst v) w')->
  o.wpIn (FR rd) 0 P a w K Q
theorem Ok.toL{rd:Option Nat} {P:Program} {o:Oper} {ins:Env} {R:List Res} {out:Ent} {nid:Option Nat} {R':List Res}(h:Ok P o ins R out nid R')(hd:∀c,o.op≠ .defer c):OkL rd P o ins R out nid.toList R':=by
 intro X H0 w0 g w a K Q hk hi ho hn hK
 exact jm hd (h X H0 w0 g w a K Q hk hi ho (fun i e=>hn i (by rw[e];exact List.mem_singleton.2 rfl)) (fun v g' w' h1 h2 h3=>hK v g' w' h1 h2 (fun i e hm=>h3 i e (fun e'=>hm (by rw[e'];exact List.mem_singleton.2 rfl)))))
def OkP(P:Program)(o:Oper)(ins:Env)(out:Ent):Prop:=
 ∀(g:G) (w:World) (a:Act) (K:Act->World->Prop) (Q:Exit->Act->World->Prop),
  Agree g.H w->SatI ins g a->
  (∀(v:Value) (H':FH) (w':World),Keep No g.H w H' w'->out.ok ⟨H',g.nm⟩ v->K (a.put o.dst v) w')->
  o.wp P a w K Q
theorem OkP.ok{P:Program} {o:Oper} {ins:Env} {out:Ent}(h:OkP P o ins out)(R:List Res):Ok P o ins R out none R:=by
 intro X H0 w0 g w a K Q hk hi ho _ hK
 refine h g w a K Q hk.agree hi fun v H' w' k hv=>?_
 have hle:G.le g ⟨H',g.nm⟩:=⟨k.le hk.agree,fun _ _ e=>e⟩
 exact hK v ⟨H',g.nm⟩ w' (hk.step k (fun i hi=>hi.elim)) hle (fun i e _=>e) hv (ho.keep hle k)
def sAny:Sig:=⟨fun _ _=>True,fun _ h=>h⟩
def sU:Sig:=⟨fun _ v=>v=undef,fun _ h=>h⟩
inductive Kind|pure|read|write|skip|low|new|boom
 deriving DecidableEq
def Kind.isW:Kind->Bool
 |.write=>true
 |.new=>true
 |.boom=>true
 |_=>false
def Kind.isLow:Kind->Bool
 |.low=>true
 |_=>false
def Kind.isH:Kind->Bool
 |.write=>true
 |.boom=>true
 |_=>false
def aX:Abs Value:=⟨fun _ _ _ _=>False,fun _ _ _ h=>h⟩
def rX(v:Value):Res:=.abs 0 aX v
def pch(v:Value):List PanicEntry:=[{v,recovered:=false}]
def OkX(rd:Option Nat)(P:Program)(o:Oper)(ins:Env)(R:List Res)(v:Value)(Rr:List Res):Prop:=
 ∀(X:Nat->Prop) (H0:FH) (w0:World) (g:G) (w:World) (a:Act) (K:Act->World->Prop) (Q:Exit->Act->World->Prop),
  Keep X H0 w0 g.H w->SatI ins g a->Own X w0.heap.size g w R->
  (∀(g':G) (w':World),Keep X H0 w0 g'.H w'->G.le g g'->(∀i,g.nm i=none->g'.nm i=none)->Own X w0.heap.size g' w' Rr->Q (.panic (pch v)) a w')->
  o.wpIn (FR rd) 0 P a w K Q
structure En:Type 1 where
 kind:Kind
 ins:Env
 out:Ent
 nid:List Nat
 dst:Option Nat
 R:List Res
 R':List Res
def En.env(e:En)(Γ:Env):Env:=match e.dst with|some d=>(d,e.out)::Γ|none=>Γ
inductive EnOk(rd:Option Nat)(P:Program)(ops:Array Oper):Oper->En->Prop where
 |pure {o:Oper} {ins:Env} {out:Ent} {dst:Option Nat} {R:List Res} (hd:o.dst=dst) (hg:o.guard=none) (h:OkP P o ins out):EnOk rd P ops o ⟨.pure,ins,out,[],dst,R,R⟩
 |pureG {o:Oper} {ins:Env} {out:Ent} {dst:Option Nat} {R:List Res} {j t:Nat} {b:Bool} (hd:o.dst=dst) (hg:o.guard=some (j,b)) (hj:(ops[j]?).bind (·.dst)=some t) (h:OkP P o ins out):EnOk rd P ops o ⟨.pure,(t,.d (kB.sig b))::ins,out,[],dst,R,R⟩
 |read {o:Oper} {ins:Env} {out:Ent} {dst:Option Nat} {R:List Res} (hd:o.dst=dst) (hg:o.guard=none) (h:Ok P o ins R out none R):EnOk rd P ops o ⟨.read,ins,out,[],dst,R,R⟩
 |readG {o:Oper} {ins:Env} {out:Ent} {dst:Option Nat} {R:List Res} {j t:Nat} {b:Bool} (hd:o.dst=dst) (hg:o.guard=some (j,b)) (hj:(ops[j]?).bind (·.dst)=some t) (h:Ok P o ins R out none R):EnOk rd P ops o ⟨.read,(t,.d (kB.sig b))::ins,out,[],dst,R,R⟩
 |write {o:Oper} {ins:Env} {out:Ent} {nid:Option Nat} {ns:List Nat} {dst:Option Nat} {R R':List Res} (hd:o.dst=dst) (hg:o.guard=none) (hns:ns=nid.toList) (h:Ok P o ins R out nid R'):EnOk rd P ops o ⟨.write,ins,out,ns,dst,R,R'⟩
 |writeG {o:Oper} {ins:Env} {out:Ent} {nid:Option Nat} {ns:List Nat} {dst:Option Nat} {R R':List Res} {j t:Nat} {b:Bool} (hd:o.dst=dst) (hg:o.guard=some (j,b)) (hj:(ops[j]?).bind (·.dst)=some t) (hns:ns=nid.toList) (h:Ok P o ins R out nid R'):EnOk rd P ops o ⟨.write,(t,.d (kB.sig b))::ins,out,ns,dst,R,R'⟩
 |many {o:Oper} {ins:Env} {out:Ent} {ns:List Nat} {dst:Option Nat} {R R':List Res} (hd:o.dst=dst) (hg:o.guard=none) (h:OkL rd P o ins R out ns R'):EnOk rd P ops o ⟨.write,ins,out,ns,dst,R,R'⟩
 |manyG {o:Oper} {ins:Env} {out:Ent} {ns:List Nat} {dst:Option Nat} {R R':List Res} {j t:Nat} {b:Bool} (hd:o.dst=dst) (hg:o.guard=some (j,b)) (hj:(ops[j]?).bind (·.dst)=some t) (h:OkL rd P o ins R out ns R'):EnOk rd P ops o ⟨.write,(t,.d (kB.sig b))::ins,out,ns,dst,R,R'⟩
 |boom {o:Oper} {ins:Env} {dst:Option Nat} {R Rr:List Res} {v:Value} (hd:o.dst=dst) (hg:o.guard=none) (h:OkX rd P o ins R v Rr):EnOk rd P ops o ⟨.boom,ins,.d sU,[],dst,R,rX v::Rr⟩
 |low {o:Oper} {ins:Env} {out:Ent} {dst:Option Nat} {R:List Res} (hd:o.dst=dst) (hg:o.guard=none) (h:Ok P o ins R out none R):EnOk rd P ops o ⟨.low,ins,out,[],dst,R,R⟩
 |lowG {o:Oper} {ins:Env} {out:Ent} {dst:Option Nat} {R:List Res} {j t:Nat} {b:Bool} (hd:o.dst=dst) (hg:o.guard=some (j,b)) (hj:(ops[j]?).bind (·.dst)=some t) (h:Ok P o ins R out none R):EnOk rd P ops o ⟨.low,(t,.d (kB.sig b))::ins,out,[],dst,R,R⟩
 |new {o:Oper} {ins:Env} {out:Ent} {id:Nat} {r:Res} {dst:Option Nat} {R:List Res} (hd:o.dst=dst) (hg:o.guard=none) (h:Ok P o ins R out (some id) (r::R)):EnOk rd P ops o ⟨.new,ins,out,[id],dst,R,r::R⟩
 |newL {o:Oper} {ins:Env} {out:Ent} {id:Nat} {r:Res} {dst:Option Nat} {R:List Res} (hd:o.dst=dst) (hg:o.guard=none) (h:OkL rd P o ins R out [id] (r::R)):EnOk rd P ops o ⟨.new,ins,out,[id],dst,R,r::R⟩
 |skip {o:Oper} {dst:Option Nat} {R:List Res} {j t:Nat} {b b':Bool} (hd:o.dst=dst) (hg:o.guard=some (j,b)) (hj:(ops[j]?).bind (·.dst)=some t) (hb:b'= !b):EnOk rd P ops o ⟨.skip,[(t,.d (kB.sig b'))],.d sU,[],dst,R,R⟩
 |skipU {o:Oper} {dst:Option Nat} {R:List Res} {j t:Nat} {b:Bool} (hd:o.dst=dst) (hg:o.guard=some (j,b)) (hj:(ops[j]?).bind (·.dst)=some t):EnOk rd P ops o ⟨.skip,[(t,.d sU)],.d sU,[],dst,R,R⟩
theorem iq{ops:Array Oper} {a:Act} {g:G} {j t:Nat} {b:Bool}(hj:(ops[j]?).bind (·.dst)=some t)(h:(Ent.d (kB.sig b)).ok g (a.tmps.getD t undef)):yielded ops a.tmps j=some b:=by
 have hv:a.tmps.getD t undef=.bool b:=kB_sig.1 h
 unfold yielded
 rw[hj]
 simp only[Option.bind_some]
 rw[Array.getD_eq_getD_getElem?] at hv
 cases ht:a.tmps[t]? with
 |none=>rw[ht] at hv;simp[undef] at hv
 |some v=>rw[ht] at hv;simp at hv;simp[hv]
theorem ni{ops:Array Oper} {tm:Array Value} {j t:Nat} {b:Bool}(hj:(ops[j]?).bind (·.dst)=some t)(hv:tm.getD t undef=undef):yielded ops tm j≠some b:=by
 unfold yielded
 rw[hj]
 simp only[Option.bind_some]
 rw[Array.getD_eq_getD_getElem?] at hv
 cases ht:tm[t]? with
 |none=>simp
 |some v=>rw[ht] at hv;simp at hv;subst hv;simp[undef]
theorem getD_put{a:Act} {N d:Nat}(hN:a.tmps.size=N)(hd:d<N)(v:Value)(t:Nat):(a.put (some d) v).tmps.getD t undef=if d=t then v else a.tmps.getD t undef:=by
 simp only[Act.put,Array.getD_eq_getD_getElem?,Array.getElem?_setIfInBounds]
 by_cases h:d=t
 ·subst h;simp[hN,hd]
 ·simp[h]
theorem gU(a:Act)(d:Option Nat)(v:Value):(a.put d v).defers=a.defers:=by cases d<;>rfl
theorem jy(a:Act)(d:Option Nat)(v:Value):(a.put d v).tmps.size=a.tmps.size:=by cases d<;>simp[Act.put]
theorem Ok.over{P:Program} {o:Oper} {ins:Env} {R:List Res} {out:Ent}(h:Ok P o ins R out none R)(E:List Res):Ok P o ins (E++R) out none (E++R):=by
 intro X H0 w0 g w a K Q hk hi ho hn hK
 have hp:=List.pairwise_append.1 ho.apart
 have hoR:Own X w0.heap.size g w R:=⟨fun r hr=>ho.ok r (List.mem_append_right _ hr),fun r hr=>ho.at_ r (List.mem_append_right _ hr),hp.2.1⟩
 have hcross:=hp.2.2
 refine h (fun b=>∃r∈R,r.block g b) g.H w g w a K Q (Keep.refl hk.agree) hi ⟨hoR.ok,fun r hr b e=>⟨(hoR.at_ r hr b e).1,(hoR.at_ r hr b e).2.1,.inl ⟨r,hr,e⟩⟩,hoR.apart⟩ hn ?_
 intro v g' w' k hle hnm hv ho'
 have hE:∀s∈E,∀b,s.block g b->w'.heap[b]?=w.heap[b]?/\g'.H b=none/\b<w.heap.size:=by
  intro s hs b e
  obtain⟨q1,q2,q3⟩:=ho.at_ s (List.mem_append_left _ hs) b e
  have hnb:¬∃r∈R,r.block g b:=fun⟨r,hr,e'⟩=>hcross s hs r hr b e e'
  exact⟨k.block b q2 hnb,(k.old b q2 (fun hb=>absurd hb hnb)).trans q1,q2⟩
 refine hK v g' w' (hk.step k ?_) hle hnm hv ⟨fun r hr=>?_,fun r hr b e=>?_,?_⟩
 ·rintro i ⟨r,hr,e⟩;exact(hoR.at_ r hr i e).2.2
 ·rcases List.mem_append.1 hr with q|q
  ·exact Res.gr hle k.size (fun b e=>(hE r q b e).1) (ho.ok r (List.mem_append_left _ q))
  ·exact ho'.ok r q
 ·rcases List.mem_append.1 hr with q|q
  ·rw[Res.du hle (ho.ok r (List.mem_append_left _ q))] at e
   obtain⟨q1,q2,q3⟩:=hE r q b e
   exact⟨q2,Nat.lt_of_lt_of_le q3 k.size,(ho.at_ r (List.mem_append_left _ q) b e).2.2⟩
  ·obtain⟨h1,h2,h3⟩:=ho'.at_ r q b e
   refine⟨h1,h2,?_⟩
   rcases h3 with ⟨s,hs,e'⟩|h3
   ·exact(hoR.at_ s hs b e').2.2
   ·exact .inr (Nat.le_trans hk.size h3)
 ·refine List.pairwise_append.2 ⟨?_,ho'.apart,?_⟩
  ·refine List.Pairwise.imp_of_mem ?_ hp.1
   intro r s h1 h2 hrs b e
   rw[Res.du hle (ho.ok r (List.mem_append_left _ h1))] at e
   rw[Res.du hle (ho.ok s (List.mem_append_left _ h2))]
   exact hrs b e
  ·intro r hr s hs b e e'
   rw[Res.du hle (ho.ok r (List.mem_append_left _ hr))] at e
   obtain⟨q1,q2,q3⟩:=hE r hr b e
   rcases(ho'.at_ s hs b e').2.2 with ⟨s',hs',e2⟩|hge
   ·exact hcross r hr s' hs' b e e2
   ·omega
theorem OkL.frame{rd:Option Nat} {P:Program} {o:Oper} {ins:Env} {R:List Res} {out:Ent} {ns:List Nat} {R':List Res}(h:OkL rd P o ins R out ns R')
  {X:Nat->Prop} {H0:FH} {w0:World} {g:G} {w:World} {a:Act} {K:Act->World->Prop} {Q:Exit->Act->World->Prop} {ds D:List Deferred} {B:Nat}
  (hk:Keep X H0 w0 g.H w) (hi:SatI ins g a) (ho:Own X w0.heap.size g w R) (hD:Dfr D B g w R ds) (hn:∀i∈ns,g.nm i=none)
  (hK:∀(v:Value) (g':G) (w':World),Keep X H0 w0 g'.H w'->G.le g g'->(∀i,g.nm i=none->i∉ns->g'.nm i=none)->out.ok g' v->Own X w0.heap.size g' w' R'->Dfr D B g' w' R' ds->K (a.put o.dst v) w'):
  o.wpIn (FR rd) 0 P a w K Q:=by
 refine h (fun b=>∃r∈R,r.block g b) g.H w g w a K Q (Keep.refl hk.agree) hi ⟨ho.ok,fun r hr b e=>⟨(ho.at_ r hr b e).1,(ho.at_ r hr b e).2.1,.inl ⟨r,hr,e⟩⟩,ho.apart⟩ hn ?_
 intro v g' w' k hle hnm hv ho'
 refine hK v g' w' (hk.step k ?_) hle hnm hv ⟨ho'.ok,fun r hr b e=>?_,ho'.apart⟩ ?_
 ·rintro i ⟨r,hr,e⟩;exact(ho.at_ r hr i e).2.2
 ·obtain⟨h1,h2,h3⟩:=ho'.at_ r hr b e
  refine⟨h1,h2,?_⟩
  rcases h3 with ⟨s,hs,e'⟩|h3
  ·exact(ho.at_ s hs b e').2.2
  ·exact .inr (Nat.le_trans hk.size h3)
 ·obtain⟨rs,e,hnd,hr⟩:=hD
  refine⟨rs,e,hnd,fun r hm=>?_⟩
  obtain⟨h1,h2,h3,h4⟩:=hr r hm
  have hlt:r<w.heap.size:=(Array.getElem?_eq_some_iff.1 h1).1
  refine⟨(k.block r hlt (fun⟨s,hs,e'⟩=>h4 s hs e')).trans h1,(k.old r hlt (fun⟨s,hs,e'⟩=>absurd e' (h4 s hs))).trans h2,h3,fun s hs e'=>?_⟩
  rcases(ho'.at_ s hs r e').2.2 with ⟨s',hs',e2⟩|hge
  ·exact h4 s' hs' e2
  ·omega
theorem OkX.frame{rd:Option Nat} {P:Program} {o:Oper} {ins:Env} {R:List Res} {v:Value} {Rr:List Res}(h:OkX rd P o ins R v Rr)
  {X:Nat->Prop} {H0:FH} {w0:World} {g:G} {w:World} {a:Act} {K:Act->World->Prop} {Q:Exit->Act->World->Prop} {ds D:List Deferred} {B:Nat}
  (hk:Keep X H0 w0 g.H w) (hi:SatI ins g a) (ho:Own X w0.heap.size g w R) (hD:Dfr D B g w R ds)
  (hX:∀(g':G) (w':World),Keep X H0 w0 g'.H w'->G.le g g'->(∀i,g.nm i=none->g'.nm i=none)->Own X w0.heap.size g' w' Rr->Dfr D B g' w' Rr ds->Q (.panic (pch v)) a w'):
  o.wpIn (FR rd) 0 P a w K Q:=by
 refine h (fun b=>∃r∈R,r.block g b) g.H w g w a K Q (Keep.refl hk.agree) hi ⟨ho.ok,fun r hr b e=>⟨(ho.at_ r hr b e).1,(ho.at_ r hr b e).2.1,.inl ⟨r,hr,e⟩⟩,ho.apart⟩ ?_
 intro g' w' k hle hnm ho'
 refine hX g' w' (hk.step k ?_) hle hnm ⟨ho'.ok,fun r hr b e=>?_,ho'.apart⟩ ?_
 ·rintro i ⟨r,hr,e⟩;exact(ho.at_ r hr i e).2.2
 ·obtain⟨h1,h2,h3⟩:=ho'.at_ r hr b e
  refine⟨h1,h2,?_⟩
  rcases h3 with ⟨s,hs,e'⟩|h3
  ·exact(ho.at_ s hs b e').2.2
  ·exact .inr (Nat.le_trans hk.size h3)
 ·obtain⟨rs,e,hnd,hr⟩:=hD
  refine⟨rs,e,hnd,fun r hm=>?_⟩
  obtain⟨h1,h2,h3,h4⟩:=hr r hm
  have hlt:r<w.heap.size:=(Array.getElem?_eq_some_iff.1 h1).1
  refine⟨(k.block r hlt (fun⟨s,hs,e'⟩=>h4 s hs e')).trans h1,(k.old r hlt (fun⟨s,hs,e'⟩=>absurd e' (h4 s hs))).trans h2,h3,fun s hs e'=>?_⟩
  rcases(ho'.at_ s hs r e').2.2 with ⟨s',hs',e2⟩|hge
  ·exact h4 s' hs' e2
  ·omega
theorem Dfr.same{D:List Deferred} {B:Nat} {g:G} {w:World} {R R':List Res} {ds:List Deferred}(h:Dfr D B g w R ds)(hR:∀s∈R',s∈R):Dfr D B g w R' ds:=by
 obtain⟨rs,e,hnd,hr⟩:=h
 exact⟨rs,e,hnd,fun r hm=>let ⟨h1,h2,h3,h4⟩:=hr r hm;⟨h1,h2,h3,fun s hs=>h4 s (hR s hs)⟩⟩
theorem EnOk.run{rd:Option Nat} {P:Program} {ops:Array Oper} {o:Oper} {e:En}(h:EnOk rd P ops o e)(hdf:∀c,o.op≠ .defer c){X:Nat->Prop} {H0:FH} {w0:World} {g:G} {w:World} {a:Act} {K:Act->World->Prop} {Q:Exit->Act->World->Prop} {ds D:List Deferred} {B:Nat}
  (hk:Keep X H0 w0 g.H w) (hi:SatI e.ins g a) {R:List Res} (ho:Own X w0.heap.size g w R) (hD:Dfr D B g w R ds) (hR:e.kind=.read\/e.kind.isW=true->R=e.R) (hLow:e.kind=.low->∃E,R=E++e.R) (hn:∀i∈e.nid,g.nm i=none)
  (hX:e.kind=.boom->∀v Rr,e.R'=rX v::Rr->∀(g':G) (w':World),Keep X H0 w0 g'.H w'->G.le g g'->(∀i,g.nm i=none->g'.nm i=none)->Own X w0.heap.size g' w' Rr->Dfr D B g' w' Rr ds->Q (.panic (pch v)) a w')
  (hK:∀(v:Value) (g':G) (w':World),Keep X H0 w0 g'.H w'->G.le g g'->(∀i,g.nm i=none->i∉e.nid->g'.nm i=none)->e.out.ok g' v->Own X w0.heap.size g' w' (if e.kind.isW=true then e.R' else R)->Dfr D B g' w' (if e.kind.isW=true then e.R' else R) ds->K (a.put o.dst v) w'):
  (if Region.wanted o (yielded ops a.tmps) then o.wpIn (FR rd) 0 P a w K Q else (∀f,o.about P w a.eval=some f->(FR rd).fn f)/\K (a.put o.dst undef) w):=by
 cases h with
 |pure hd hg h=>
  rw[if_pos (by simp[Region.wanted,hg])]
  exact((h.ok R).toL hdf).frame hk hi ho hD (fun i hi=>by cases hi) hK
 |pureG hd hg hj h=>
  have hy:=iq hj (hi _ (List.mem_cons_self ..))
  rw[if_pos (by simp[Region.wanted,hg,hy])]
  exact((h.ok R).toL hdf).frame hk (fun p hp=>hi p (List.mem_cons_of_mem _ hp)) ho hD (fun i hi=>by cases hi) hK
 |read hd hg h=>
  rw[if_pos (by simp[Region.wanted,hg])]
  obtain rfl:=hR (.inl rfl)
  exact(h.toL hdf).frame hk hi ho hD (fun i hi=>by cases hi) hK
 |readG hd hg hj h=>
  have hy:=iq hj (hi _ (List.mem_cons_self ..))
  rw[if_pos (by simp[Region.wanted,hg,hy])]
  obtain rfl:=hR (.inl rfl)
  exact(h.toL hdf).frame hk (fun p hp=>hi p (List.mem_cons_of_mem _ hp)) ho hD (fun i hi=>by cases hi) hK
 |write hd hg hns h=>
  subst hns
  rw[if_pos (by simp[Region.wanted,hg])]
  obtain rfl:=hR (.inr rfl)
  exact(h.toL hdf).frame hk hi ho hD hn hK
 |writeG hd hg hj hns h=>
  subst hns
  have hy:=iq hj (hi _ (List.mem_cons_self ..))
  rw[if_pos (by simp[Region.wanted,hg,hy])]
  obtain rfl:=hR (.inr rfl)
  exact(h.toL hdf).frame hk (fun p hp=>hi p (List.mem_cons_of_mem _ hp)) ho hD hn hK
 |many hd hg h=>
  rw[if_pos (by simp[Region.wanted,hg])]
  obtain rfl:=hR (.inr rfl)
  exact h.frame hk hi ho hD hn hK
 |manyG hd hg hj h=>
  have hy:=iq hj (hi _ (List.mem_cons_self ..))
  rw[if_pos (by simp[Region.wanted,hg,hy])]
  obtain rfl:=hR (.inr rfl)
  exact h.frame hk (fun p hp=>hi p (List.mem_cons_of_mem _ hp)) ho hD hn hK
 |low hd hg h=>
  rw[if_pos (by simp[Region.wanted,hg])]
  obtain⟨E,rfl⟩:=hLow rfl
  exact((h.over E).toL hdf).frame hk hi ho hD (fun i hi=>by cases hi) hK
 |lowG hd hg hj h=>
  have hy:=iq hj (hi _ (List.mem_cons_self ..))
  rw[if_pos (by simp[Region.wanted,hg,hy])]
  obtain⟨E,rfl⟩:=hLow rfl
  exact((h.over E).toL hdf).frame hk (fun p hp=>hi p (List.mem_cons_of_mem _ hp)) ho hD (fun i hi=>by cases hi) hK
 |new hd hg h=>
  rw[if_pos (by simp[Region.wanted,hg])]
  obtain rfl:=hR (.inr rfl)
  exact(h.toL hdf).frame hk hi ho hD hn hK
 |newL hd hg h=>
  rw[if_pos (by simp[Region.wanted,hg])]
  obtain rfl:=hR (.inr rfl)
  exact h.frame hk hi ho hD hn hK
 |boom hd hg h=>
  rw[if_pos (by simp[Region.wanted,hg])]
  obtain rfl:=hR (.inr rfl)
  exact h.frame hk hi ho hD (hX rfl _ _ rfl)
 |skip hd hg hj hb=>
  have hy:=iq hj (hi _ (List.mem_cons_self ..))
  subst hb
  rename_i b
  rw[if_neg (by simp[Region.wanted,hg,hy])]
  exact⟨fun _ _=>trivial,hK undef g w hk (G.le.refl g) (fun i e _=>e) rfl ho hD⟩
 |skipU hd hg hj=>
  rename_i t b
  have hv:a.tmps.getD t undef=undef:=hi _ (List.mem_cons_self ..)
  have hy:∀b,yielded ops a.tmps _≠some b:=fun b=>ni hj hv
  rw[if_neg (by simp[Region.wanted,hg,hy])]
  exact⟨fun _ _=>trivial,hK undef g w hk (G.le.refl g) (fun i e _=>e) rfl ho hD⟩
theorem EnOk.dst{rd:Option Nat} {P:Program} {ops:Array Oper} {o:Oper} {e:En}(h:EnOk rd P ops o e):o.dst=e.dst:=by cases h<;>assumption
inductive Chain(rd:Option Nat)(P:Program)(ops:Array Oper):List Oper->Env->List Res->List En->Env->List Res->Prop where
 |nil {Γ:Env} {R:List Res}:Chain rd P ops [] Γ R [] Γ R
 |cons {o:Oper} {rest:List Oper} {e:En} {Γ Γ':Env} {R':List Res} {es:List En} (h:EnOk rd P ops o e) (hs:Sub e.ins Γ) (k:Chain rd P ops rest (e.env Γ) e.R' es Γ' R'):Chain rd P ops (o::rest) Γ e.R (e::es) Γ' R'
 |low {o:Oper} {rest:List Oper} {e:En} {Γ Γ':Env} {R' E:List Res} {es:List En} (h:EnOk rd P ops o e) (hw:e.kind=.low) (hs:Sub e.ins Γ) (k:Chain rd P ops rest (e.env Γ) (E++e.R) es Γ' R'):Chain rd P ops (o::rest) Γ (E++e.R) (e::es) Γ' R'
theorem mq{N:Nat} {Γ:Env} {g g':G} {a:Act} {e:En} {v:Value}(hN:a.tmps.size=N)(hd:∀d,e.dst=some d->d<N)(h:Sat Γ g a)(hl:G.le g g')(hv:e.out.ok g' v):Sat (e.env Γ) g' (a.put e.dst v):=by
 unfold En.env
 cases he:e.dst with
 |none=>exact h.mono hl
 |some d=>
  intro t x hx
  rw[eD] at hx
  rw[getD_put hN (hd d he)]
  by_cases ht:d=t
  ·rw[if_pos ht] at hx⊢;cases hx;exact hv
  ·rw[if_neg ht] at hx⊢;exact Ent.mono hl (h t x hx)
def nids:List En->List Nat
 |[]=>[]
 |e::es=>e.nid++nids es
theorem j9{n:Nat}:∀{es:List En},n∈nids es↔∃e∈es,n∈e.nid
 |[]=>by simp[nids]
 |e::es=>by simp[nids,j9]
structure PX(C:Cx)(Q:Exit->Act->World->Prop)(Γp:Env)(es:List En):Prop where
 met:∀e∈es,e.kind=.boom->∀v Rr,e.R'=rX v::Rr->∀g w a,St C Γp Rr g w a->Q (.panic (pch v)) a w
 free:∀e∈es,e.kind=.boom->∀x∈es,∀d,x.dst=some d->look Γp d=none
theorem PX.run{C:Cx} {Q:Exit->Act->World->Prop} {Γp:Env} {es:List En}(h:PX C Q Γp es){e:En}(he:e∈es){g:G} {a:Act}(hs:a.tmps.size=C.N)(hp:∀i∈C.pi,g.nm i=C.pv i)(hst:e.kind=.boom->Sat Γp g a):
  e.kind=.boom->∀v Rr,e.R'=rX v::Rr->∀(g':G) (w':World),Keep C.X C.H0 C.w0 g'.H w'->G.le g g'->(∀i,g.nm i=none->g'.nm i=none)->Own C.X C.w0.heap.size g' w' Rr->Dfr C.ds C.B g' w' Rr a.defers->Q (.panic (pch v)) a w':=
 fun hb v Rr hR g' w' hk hle hnm ho hD=>h.met e he hb v Rr hR g' w' a ⟨hs,hD,hk,(hst hb).mono hle,ho,fun i hi=>by
  cases hg:g.nm i with
  |some x=>rw[hle.2 _ _ hg,<-hg];exact hp i hi
  |none=>rw[hnm i hg,<-hg];exact hp i hi⟩
theorem nD{e:En} {Γ Γp:Env}(h:∀d,e.dst=some d->look Γp d=none){t:Nat} {x:Ent}(hx:look Γp t=some x)(hl:look Γ t=some x):look (e.env Γ) t=some x:=by
 unfold En.env
 cases hd:e.dst with
 |none=>exact hl
 |some d=>
  rw[eD,if_neg (fun q=>by subst q;rw[h d hd] at hx;cases hx)]
  exact hl
theorem ll{C:Cx} {ops:Array Oper} {Q:Exit->Act->World->Prop} {Γp:Env} {es0:List En}(hX:PX C Q Γp es0):
  ∀{l:List Oper} {Γ:Env} {R:List Res} {es:List En} {Γ':Env} {R':List Res},Chain C.rd C.P ops l Γ R es Γ' R'->
   (∀o∈l,(∀d,o.dst=some d->d<C.N)/\∀c,o.op≠ .defer c)->(nids es).Nodup->(∀e∈es,e∈es0)->(∀t x,look Γp t=some x->(∀e∈es0,e.kind=.boom->look Γ t=some x))->
   ∀(i:Nat) (tl:List Oper) (js:List Nat),ops.toList.drop i=l++tl->
   ∀(g:G) (w:World) (a:Act),St C Γ R g w a->(∀n∈nids es,g.nm n=none)->(∀n∈nids es,n∉C.pi)->
   (∀(g':G) (w':World) (a':Act),St C Γ' R' g' w' a'->wpOpsIn (FR C.rd) 0 C.P ops Q js a' w')->
   wpOpsIn (FR C.rd) 0 C.P ops Q (List.range' i l.length++js) a w:=by
 intro l Γ R es Γ' R' hc
 induction hc with
 |nil=>
  intro hd hnd hE hG i tl js hi g w a hst hn hpi hQ
  simp only[List.length_nil,List.range'_zero,List.nil_append]
  exact hQ g w a hst
 | @cons o rest e Γ Γ' R' es h hs k ih=>
  intro hd hnd hE hG i tl js hi g w a hst hn hpi hQ
  have hget:ops[i]?=some o:=by
   have:=congrArg List.head? hi
   rw[List.head?_drop] at this
   simpa using this
  rw[List.length_cons,List.range'_succ,List.cons_append,wpOpsIn_cons]
  unfold wpOpIn
  rw[hget]
  have hnd':=List.nodup_append.1 hnd
  refine h.run (hd o (List.mem_cons_self ..)).2 (R:=e.R) hst.keep (hs.sat hst.sat) hst.own hst.defers (fun _=>rfl) (fun _=>⟨[],rfl⟩) (fun n hn'=>hn n (List.mem_append_left _ hn')) (hX.run (hE _ (List.mem_cons_self ..)) hst.size hst.pin (fun hb t x hx=>hst.sat t x (hG t x hx _ (hE _ (List.mem_cons_self ..)) hb))) ?_
  ·intro v g' w' hk hle hnm hv ho hD
   have hR':(if e.kind.isW=true then e.R' else e.R)=e.R':=by
    cases h<;>simp[Kind.isW]
   rw[hR'] at ho hD
   have hdst:=h.dst
   rw[hdst]
   refine ih (fun o' ho'=>hd o' (List.mem_cons_of_mem _ ho')) hnd'.2.1 (fun x hx=>hE x (List.mem_cons_of_mem _ hx)) (fun t x hx e' he' hb'=>nD (hX.free e' he' hb' _ (hE _ (List.mem_cons_self ..))) hx (hG t x hx e' he' hb')) (i+1) tl js ?_ g' w' _ ⟨by rw[jy];exact hst.size,by rw[gU];exact hD,hk,mq hst.size (fun d hd'=>(hd o (List.mem_cons_self ..)).1 d (hdst.trans hd')) hst.sat hle hv,ho,?_⟩ ?_ (fun n hn'=>hpi n (List.mem_append_right _ hn')) hQ
   ·have:=congrArg List.tail hi
    rwa [List.tail_drop] at this
   ·intro n hn'
    cases hg:g.nm n with
    |some x=>rw[hle.2 _ _ hg,<-hg];exact hst.pin n hn'
    |none=>
     rw[hnm n hg (fun hm=>hpi n (List.mem_append_left _ hm) hn'),<-hg];exact hst.pin n hn'
   ·intro n hn'
    exact hnm n (hn n (List.mem_append_right _ hn')) (fun hc=>hnd'.2.2 n hc n hn' rfl)
 | @low o rest e Γ Γ' R' E es h hw hs k ih=>
  intro hd hnd hE hG i tl js hi g w a hst hn hpi hQ
  have hget:ops[i]?=some o:=by
   have:=congrArg List.head? hi
   rw[List.head?_drop] at this
   simpa using this
  rw[List.length_cons,List.range'_succ,List.cons_append,wpOpsIn_cons]
  unfold wpOpIn
  rw[hget]
  have hnd':=List.nodup_append.1 hnd
  refine h.run (hd o (List.mem_cons_self ..)).2 (R:=E++e.R) hst.keep (hs.sat hst.sat) hst.own hst.defers (fun q=>by rw[hw] at q;rcases q with q|q<;>cases q) (fun _=>⟨E,rfl⟩) (fun n hn'=>hn n (List.mem_append_left _ hn')) (hX.run (hE _ (List.mem_cons_self ..)) hst.size hst.pin (fun hb t x hx=>hst.sat t x (hG t x hx _ (hE _ (List.mem_cons_self ..)) hb))) ?_
  ·intro v g' w' hk hle hnm hv ho hD
   have hR':(if e.kind.isW=true then e.R' else E++e.R)=E++e.R:=by
    rw[hw];rfl
   rw[hR'] at ho hD
   have hdst:=h.dst
   rw[hdst]
   refine ih (fun o' ho'=>hd o' (List.mem_cons_of_mem _ ho')) hnd'.2.1 (fun x hx=>hE x (List.mem_cons_of_mem _ hx)) (fun t x hx e' he' hb'=>nD (hX.free e' he' hb' _ (hE _ (List.mem_cons_self ..))) hx (hG t x hx e' he' hb')) (i+1) tl js ?_ g' w' _ ⟨by rw[jy];exact hst.size,by rw[gU];exact hD,hk,mq hst.size (fun d hd'=>(hd o (List.mem_cons_self ..)).1 d (hdst.trans hd')) hst.sat hle hv,ho,?_⟩ ?_ (fun n hn'=>hpi n (List.mem_append_right _ hn')) hQ
   ·have:=congrArg List.tail hi
    rwa [List.tail_drop] at this
   ·intro n hn'
    cases hg:g.nm n with
    |some x=>rw[hle.2 _ _ hg,<-hg];exact hst.pin n hn'
    |none=>
     rw[hnm n hg (fun hm=>hpi n (List.mem_append_left _ hm) hn'),<-hg];exact hst.pin n hn'
   ·intro n hn'
    exact hnm n (hn n (List.mem_append_right _ hn')) (fun hc=>hnd'.2.2 n hc n hn' rfl)
end Go.Proofs.YtmjcpkmongafnaaGreatDoor.Ab
