import Derived.Test.YtmjcpkmongafnaaGreatDoorAb32
import Derived.RecoverIn
set_option linter.unusedVariables false
set_option linter.unusedSimpArgs false
namespace Go.Proofs.YtmjcpkmongafnaaGreatDoor.Ab
open Go Go.RowKit
section
variable{P:Program}
theorem wOpV{ops:Array Oper} {Q:Exit->Act->World->Prop} {i:Nat} {rest:List Nat} {a:Act} {w w':World} {o:Oper} {v:Value}(ho:ops[i]?=some o)(hg:o.guard=none)(hd:∀c,o.op≠ .defer c)
  (hr:(execOp a.eval o).run P w=.ok (.value v) w') (k:wpOpsIn (FR none) 0 P ops Q rest (a.put o.dst v) w'):wpOpsIn (FR none) 0 P ops Q (i::rest) a w:=by
 rw[wpOpsIn_cons]
 unfold wpOpIn
 rw[ho]
 simp only
 rw[if_pos (by simp[Region.wanted,hg])]
 refine jm hd ?_
 unfold Oper.wp
 rw[hr]
 exact k
theorem wOpK{ops:Array Oper} {Q:Exit->Act->World->Prop} {i:Nat} {rest:List Nat} {a:Act} {w w':World} {o:Oper}(ho:ops[i]?=some o)(hg:o.guard=none)(hd:∀c,o.op≠ .defer c)
  (hr:(execOp a.eval o).run P w=.ok .skip w') (k:wpOpsIn (FR none) 0 P ops Q rest (a.put o.dst undef) w'):wpOpsIn (FR none) 0 P ops Q (i::rest) a w:=by
 rw[wpOpsIn_cons]
 unfold wpOpIn
 rw[ho]
 simp only
 rw[if_pos (by simp[Region.wanted,hg])]
 refine jm hd ?_
 unfold Oper.wp
 rw[hr]
 exact k
theorem run_isnil{w:World} {A T1:TypeId} {ms:Array (String×TypeId)} {ρ:Operand->Value} {n:Nat} {d:Option Nat} {ty:TypeId} {po:String} {af:Array Edge} {gd:Option (Nat×Bool)}(hA:P.underlying A=some (.interface ms))(h1:ρ (.tmp n)=.nilIface)(h2:ρ (.const .nilIface)=.nilIface):
  (execOp ρ ⟨d,.binOp .eql A (.tmp n) (.const .nilIface) T1,ty,po,af,gd⟩).run P w=.ok (.value (.bool true)) w:=by
 have he:(eqGuard .eql A (.tmp n) (.const .nilIface) .nilIface .nilIface).run P w=.ok () w:=by rfl
 have hb:binOp .eql A .nilIface .nilIface=(do pure (.bool (<-Op.equal A .nilIface .nilIface))):=rfl
 have hq:(Op.equal A .nilIface .nilIface).run P w=.ok true w:=by
  unfold Op.equal Op.maxDepth Op.equalIn
  simp only[Sem.run_bind,run_underlying hA,Result.andThen_ok];rfl
 simp only[execOp,h1,h2,Sem.run_bind,he,Result.andThen_ok,hb,hq,Sem.run_pure]
theorem run_nonil{w:World} {A T1 t:TypeId} {v:Value} {ms:Array (String×TypeId)} {ρ:Operand->Value} {n:Nat} {d:Option Nat} {ty:TypeId} {po:String} {af:Array Edge} {gd:Option (Nat×Bool)}(hA:P.underlying A=some (.interface ms))(h1:ρ (.tmp n)=.iface t v)(h2:ρ (.const .nilIface)=.nilIface):
  (execOp ρ ⟨d,.binOp .eql A (.tmp n) (.const .nilIface) T1,ty,po,af,gd⟩).run P w=.ok (.value (.bool false)) w:=by
 have he:(eqGuard .eql A (.tmp n) (.const .nilIface) (.iface t v) .nilIface).run P w=.ok () w:=by rfl
 have hb:binOp .eql A (.iface t v) .nilIface=(do pure (.bool (<-Op.equal A (.iface t v) .nilIface))):=rfl
 have hq:(Op.equal A (.iface t v) .nilIface).run P w=.ok false w:=by
  unfold Op.equal Op.maxDepth Op.equalIn
  simp only[Sem.run_bind,run_underlying hA,Result.andThen_ok];rfl
 simp only[execOp,h1,h2,Sem.run_bind,he,Result.andThen_ok,hb,hq,Sem.run_pure]
theorem wOpN{ops:Array Oper} {Q:Exit->Act->World->Prop} {a:Act} {w:World}(h:Q .normal a w):wpOpsIn (FR none) 0 P ops Q [] a w:=h
theorem thenN{K:Act->World->Prop} {Q:Exit->Act->World->Prop} {a:Act} {w:World}(h:K a w):Exit.then K Q .normal a w:=h
theorem blkN{id:Nat} {Q:Exit->Act->World->Prop} {a:Act} {w:World}(h:Q .normal a w):Exit.inBlock id Q .normal a w:=h
section
variable{w:World} {ρ:Operand->Value} {d:Option Nat} {ty:TypeId} {po:String} {af:Array Edge} {gd:Option (Nat×Bool)} {x y:Operand} {v v':Value}
theorem run_as(h:ρ x=v):(execOp ρ ⟨d,.assign x,ty,po,af,gd⟩).run P w=.ok (.value v) w:=by simp only[execOp,h,Sem.run_pure]
theorem run_mv(h:ρ x=v):(execOp ρ ⟨d,.move x,ty,po,af,gd⟩).run P w=.ok (.value v) w:=by simp only[execOp,h,Sem.run_pure]
theorem run_ex{vs:Array Value} {k:Nat}(h:ρ x=.tuple vs)(hk:vs[k]?=some v):(execOp ρ ⟨d,.extract x k,ty,po,af,gd⟩).run P w=.ok (.value v) w:=by
 simp only[execOp,h,Instr.extract,hk,Sem.run_bind,Sem.run_pure,Result.andThen_ok]
theorem run_ta{A E:TypeId} {n:Pn}(hE:conB P E=true)(h:ρ x=pvv E n):(execOp ρ ⟨d,.typeAssert x A E true,ty,po,af,gd⟩).run P w=.ok (.value (.tuple #[.int .i64 (n.val:Int),.bool true])) w:=by
 obtain⟨D,hu2,hne⟩:=conB_get hE
 simp only[execOp,Instr.typeAssert,Sem.run_bind,run_underlying hu2,Result.andThen_ok,h,pvv]
 cases D<;>first|exact absurd rfl (hne _)|(simp only[if_true,Sem.run_bind,Sem.run_pure,Result.andThen_ok])
theorem run_ldv{S:TypeId} {b off:Nat} {cells:Array Value} {t:TypeId} {fr:Nat×Nat} {vs:List Value}(hi:tinf P S=some (true,vs.length))(hb:w.heap[b]?=some (.cells cells t fr))(hl:(cells.toList.drop off).take vs.length=vs)(h:ρ x=.pointer (some ⟨b,off,none⟩)):
  (execOp ρ ⟨d,.load S x,ty,po,af,gd⟩).run P w=.ok (.value (.agg vs.toArray)) w:=by
 have:=ie (P:=P) (w:=w) (T:=S) hi (fun e=>by cases e) hb hl rfl
 simp only[execOp,h,Sem.run_bind,this,Result.andThen_ok,Sem.run_pure]
 rfl
theorem run_stv{S:TypeId} {b:Nat} {cs:Array Value} {t:TypeId} {vs:List Value}(hb:w.heap[b]?=some (.cells cs t (0,0)))(hv:v.cells=vs.toArray)(hs:sizeIs P S vs.length)(hl:cs.size=vs.length)(h1:∀v∈vs,v.oneCell'=true)(h:ρ x=.pointer (some ⟨b,0,none⟩))(h':ρ y=v):
  (execOp ρ ⟨d,.store S x y,ty,po,af,gd⟩).run P w=.ok .skip (w.setRow b vs.toArray):=by
 have:=ii (P:=P) (T:=S) (off:=0) (v:=v) (vs:=vs) hb hv hs (by omega) h1
 simp only[execOp,h,h',Sem.run_bind,this,Result.andThen_ok,Sem.run_pure]
 rw[show (cs.toList.take 0++vs++cs.toList.drop (0+vs.length)).toArray=vs.toArray by rw[List.drop_of_length_le (by rw[Array.length_toList];omega)];simp]
end
def recC(A E S I T1:TypeId)(ty:Nat->TypeId)(po:Nat->String)(af:Nat->Array Edge)(ids:Nat->Nat)(Z:Code):Code:=
 .seq (.region (ids 0) #[⟨some 6,.call ⟨.builtin .recover,#[],#[]⟩,ty 0,po 0,af 0,none⟩] false)
  (.block (ids 1) (.seq (.region (ids 2) #[⟨some 8,.binOp .eql A (.tmp 6) (.const .nilIface) T1,ty 1,po 1,af 1,none⟩] false)
   (.cond (.tmp 8) (.region (ids 3) #[⟨some 3,.assign (.tmp 6),ty 2,po 2,af 2,none⟩] false)
    (.seq (.region (ids 4) #[⟨some 9,.typeAssert (.tmp 6) A E true,ty 3,po 3,af 3,none⟩,⟨some 10,.extract (.tmp 9) 1,ty 4,po 4,af 4,none⟩,⟨some 11,.extract (.tmp 9) 0,ty 5,po 5,af 5,none⟩] false)
     (.cond (.tmp 10) (.seq (.region (ids 5) #[⟨some 4,.assign (.tmp 11),ty 6,po 6,af 6,none⟩] false)
      (.region (ids 6) #[⟨some 12,.load S (.tmp 0),ty 7,po 7,af 7,none⟩,⟨some 13,.move (.tmp 4),ty 8,po 8,af 8,none⟩,⟨none,.store S (.tmp 1) (.tmp 12),ty 9,po 9,af 9,none⟩,⟨none,.store I (.tmp 2) (.tmp 13),ty 10,po 10,af 10,none⟩] false)) Z)))))
structure OpIs(o:Oper)(d:Option Nat)(p:Op):Prop where
 dst:o.dst=d
 op:o.op=p
 gd:o.guard=none
def recX(o0 o1 o2 o3 o4 o5 o6 o7 o8 o9 o10:Oper)(i0 i1 i2 i3 i4 i5 i6:Nat)(Z:Code):Code:=
 .seq (.region i0 #[o0] false) (.block i1 (.seq (.region i2 #[o1] false) (.cond (.tmp 8) (.region i3 #[o2] false)
  (.seq (.region i4 #[o3,o4,o5] false) (.cond (.tmp 10) (.seq (.region i5 #[o6] false) (.region i6 #[o7,o8,o9,o10] false)) Z)))))
theorem recX_eq{A E S I T1:TypeId} {o0 o1 o2 o3 o4 o5 o6 o7 o8 o9 o10:Oper} {i0 i1 i2 i3 i4 i5 i6:Nat} {Z:Code}(h0:OpIs o0 (some 6) (.call ⟨.builtin .recover,#[],#[]⟩))(h1:OpIs o1 (some 8) (.binOp .eql A (.tmp 6) (.const .nilIface) T1))(h2:OpIs o2 (some 3) (.assign (.tmp 6)))(h3:OpIs o3 (some 9) (.typeAssert (.tmp 6) A E true))(h4:OpIs o4 (some 10) (.extract (.tmp 9) 1))(h5:OpIs o5 (some 11) (.extract (.tmp 9) 0))(h6:OpIs o6 (some 4) (.assign (.tmp 11)))(h7:OpIs o7 (some 12) (.load S (.tmp 0)))(h8:OpIs o8 (some 13) (.move (.tmp 4)))(h9:OpIs o9 none (.store S (.tmp 1) (.tmp 12)))(h10:OpIs o10 none (.store I (.tmp 2) (.tmp 13))):
  recX o0 o1 o2 o3 o4 o5 o6 o7 o8 o9 o10 i0 i1 i2 i3 i4 i5 i6 Z=recC A E S I T1 (fun k=>([o0.type,o1.type,o2.type,o3.type,o4.type,o5.type,o6.type,o7.type,o8.type,o9.type,o10.type]:List TypeId).getD k 0) (fun k=>([o0.pos,o1.pos,o2.pos,o3.pos,o4.pos,o5.pos,o6.pos,o7.pos,o8.pos,o9.pos,o10.pos]:List String).getD k "") (fun k=>([o0.after,o1.after,o2.after,o3.after,o4.after,o5.after,o6.after,o7.after,o8.after,o9.after,o10.after]:List (Array Edge)).getD k #[]) (fun k=>[i0,i1,i2,i3,i4,i5,i6].getD k 0) Z:=by
 obtain⟨d0,p0,t0,s0,a0,g0⟩:=o0
 obtain⟨e1,e2,e3⟩:=h0
 simp only at e1 e2 e3
 subst e1 e2 e3
 obtain⟨d1,p1,t1,s1,a1,g1⟩:=o1
 obtain⟨e1,e2,e3⟩:=h1
 simp only at e1 e2 e3
 subst e1 e2 e3
 obtain⟨d2,p2,t2,s2,a2,g2⟩:=o2
 obtain⟨e1,e2,e3⟩:=h2
 simp only at e1 e2 e3
 subst e1 e2 e3
 obtain⟨d3,p3,t3,s3,a3,g3⟩:=o3
 obtain⟨e1,e2,e3⟩:=h3
 simp only at e1 e2 e3
 subst e1 e2 e3
 obtain⟨d4,p4,t4,s4,a4,g4⟩:=o4
 obtain⟨e1,e2,e3⟩:=h4
 simp only at e1 e2 e3
 subst e1 e2 e3
 obtain⟨d5,p5,t5,s5,a5,g5⟩:=o5
 obtain⟨e1,e2,e3⟩:=h5
 simp only at e1 e2 e3
 subst e1 e2 e3
 obtain⟨d6,p6,t6,s6,a6,g6⟩:=o6
 obtain⟨e1,e2,e3⟩:=h6
 simp only at e1 e2 e3
 subst e1 e2 e3
 obtain⟨d7,p7,t7,s7,a7,g7⟩:=o7
 obtain⟨e1,e2,e3⟩:=h7
 simp only at e1 e2 e3
 subst e1 e2 e3
 obtain⟨d8,p8,t8,s8,a8,g8⟩:=o8
 obtain⟨e1,e2,e3⟩:=h8
 simp only at e1 e2 e3
 subst e1 e2 e3
 obtain⟨d9,p9,t9,s9,a9,g9⟩:=o9
 obtain⟨e1,e2,e3⟩:=h9
 simp only at e1 e2 e3
 subst e1 e2 e3
 obtain⟨d10,p10,t10,s10,a10,g10⟩:=o10
 obtain⟨e1,e2,e3⟩:=h10
 simp only at e1 e2 e3
 subst e1 e2 e3
 rfl
def lk:List (Nat×Value)->Nat->Option Value
 |[],_=>none
 |p::r,d=>match Nat.beq p.1 d with|true=>some p.2|false=>lk r d
structure Tm(a:Act)(l:List (Nat×Value)):Prop where
 size:a.tmps.size=14
 dfr:a.defers=[]
 val:∀d v,lk l d=some v->a.eval (.tmp d)=v
theorem Tm.put{a:Act} {l:List (Nat×Value)}(h:Tm a l){d:Nat}(hd:Nat.ble (d+1) 14=true)(v:Value):Tm (a.put (some d) v) ((d,v)::l):=by
 have hd:=Nat.le_of_ble_eq_true hd
 refine⟨(jy ..).trans h.size,(gU ..).trans h.dfr,fun t x hx=>?_⟩
 refine Eq.trans (getD_put (a:=a) (d:=d) h.size (by omega) v t) ?_
 unfold lk at hx
 cases hb:Nat.beq d t with
 |true=>
  rw[hb] at hx
  rw[if_pos (Nat.eq_of_beq_eq_true hb)]
  exact Option.some.inj hx
 |false=>
  rw[hb] at hx
  rw[if_neg (fun e=>by subst e;simp[Nat.beq_refl] at hb)]
  exact h.val t x hx
theorem Tm.none{a:Act} {l:List (Nat×Value)}(h:Tm a l)(v:Value):Tm (a.put none v) l:=h
theorem Tm.at{a:Act} {l:List (Nat×Value)}(h:Tm a l)(d:Nat)(v:Value)(hm:lk l d=some v):a.eval (.tmp d)=v:=h.val _ _ hm
theorem tm0(p5 p6 p7:Value):Tm ⟨#[p5,p6,p7]++Array.replicate (14-(#[p5,p6,p7]:Array Value).size) undef,[]⟩ [(0,p5),(1,p6),(2,p7)]:=by
 refine⟨by simp,rfl,fun d v h=>?_⟩
 show (_:Array Value).getD d undef=v
 match d,h with
 |0,h=>cases h;simp[Array.getD_eq_getD_getElem?]
 |1,h=>cases h;simp[Array.getD_eq_getD_getElem?]
 |2,h=>cases h;simp[Array.getD_eq_getD_getElem?]
 |n+3,h=>cases h
variable{f:FuncId} {fn:Func} {A E S I T1:TypeId} {ty:Nat->TypeId} {po:Nat->String} {af:Nat->Array Edge} {ids:Nat->Nat} {Z:Code} {ms:Array (String×TypeId)} {p5 p6 p7:Value} {w:World}
theorem rec_ret(hf:P.funcs[f]?=some fn)(hb:fn.body=some (recC A E S I T1 ty po af ids Z))(hN:fn.ntmps=14)(hres:fn.results= #[])(hA:P.underlying A=some (.interface ms)):
  CallsDIn (FR none) 0 P f #[p5,p6,p7] .returning w fun e u' w'=>e=.returned (.tuple #[])/\u'=.returning/\w'=w:=by
 refine callsDIn_of_wpSIn hf hb trivial fun c₀ cs hu=>?_
 rw[hN]
 have t0:=tm0 p5 p6 p7
 generalize (⟨#[p5,p6,p7]++Array.replicate (14-(#[p5,p6,p7]:Array Value).size) undef,[]⟩:Act)=a at t0
 refine wpSIn_seq (wpSIn_region ?_)
 show wpOpsSIn (FR none) 0 P _ _ [0] _ _ _
 have hrec:recoverD (c₀::cs)=none:=by simp only[recoverD,hu]
 simp only[wpOpsSIn,List.getElem?_toArray,List.getElem?_cons_zero]
 refine⟨fun _ _=>trivial,?_⟩
 rw[if_pos (by simp[Region.wanted])]
 rw[show∀ρ:Operand->Value,(execOp ρ ⟨some 6,.call ⟨.builtin .recover,#[],#[]⟩,ty 0,po 0,af 0,none⟩).run P w=.ok .recover w from fun ρ=>rfl]
 simp only[hrec]
 have t1:=t0.put (d:=6) rfl .nilIface
 refine wpSIn_of_wpIn rfl ?_
 refine wpIn_block (wpIn_seq (wpIn_region ?_))
 show wpOpsIn (FR none) 0 P _ _ [0] _ _
 refine wOpV rfl rfl (fun c e=>by cases e) (v:=.bool true) (w':=w) (run_isnil hA (t1.at 6 _ rfl) rfl) ?_
 have t2:=t1.put (d:=8) rfl (.bool true)
 refine wOpN (thenN (wpIn_cond_true (t2.at 8 _ rfl) (wpIn_region ?_)))
 show wpOpsIn (FR none) 0 P _ _ [0] _ _
 refine wOpV rfl rfl (fun c e=>by cases e) (v:=.nilIface) (w':=w) (run_as (t2.at 6 .nilIface rfl)) (wOpN (blkN ?_))
 have t3:=t2.put (d:=3) rfl .nilIface
 refine⟨t3.dfr,.returning,?_,.tuple #[],?_,rfl,rfl,rfl⟩
 ·cases c₀;simp only at hu;subst hu;rfl
 ·simp[results,hres]
theorem rec_pan{b5 o5 b6 b7:Nat} {cs5 cs6 cs7:Array Value} {t5:TypeId} {fr5:Nat×Nat} {vs:List Value} {n:Pn}(hf:P.funcs[f]?=some fn)(hb:fn.body=some (recC A E S I T1 ty po af ids Z))(hN:fn.ntmps=14)(hres:fn.results= #[])(hA:P.underlying A=some (.interface ms))(hE:conB P E=true)
  (h5:w.heap[b5]?=some (.cells cs5 t5 fr5)) (hvs:(cs5.toList.drop o5).take vs.length=vs) (hS:tinf P S=some (true,vs.length)) (hSz:sizeIs P S vs.length) (hone:∀v∈vs,v.oneCell'=true)
  (h6:w.heap[b6]?=some (.cells cs6 S (0,0))) (hl6:cs6.size=vs.length) (hIz:sizeIs P I 1) (h7:w.heap[b7]?=some (.cells cs7 I (0,0))) (hl7:cs7.size=1) (h67:b6≠b7):
  CallsDIn (FR none) 0 P f #[.pointer (some ⟨b5,o5,none⟩),.pointer (some ⟨b6,0,none⟩),.pointer (some ⟨b7,0,none⟩)] (.panicking (pch (pvv E n))) w fun e u' w'=>e=.returned (.tuple #[])/\u'=.panicking [{v:=pvv E n,recovered:=true}]/\w'=(w.setRow b6 vs.toArray).setRow b7 #[.int .i64 (n.val:Int)]:=by
 refine callsDIn_of_wpSIn hf hb trivial fun c₀ cs hu=>?_
 rw[hN]
 have t0:=tm0 (.pointer (some ⟨b5,o5,none⟩)) (.pointer (some ⟨b6,0,none⟩)) (.pointer (some ⟨b7,0,none⟩))
 generalize (⟨#[.pointer (some ⟨b5,o5,none⟩),.pointer (some ⟨b6,0,none⟩),.pointer (some ⟨b7,0,none⟩)]++Array.replicate (14-(#[.pointer (some ⟨b5,o5,none⟩),.pointer (some ⟨b6,0,none⟩),.pointer (some ⟨b7,0,none⟩)]:Array Value).size) undef,[]⟩:Act)=a at t0
 refine wpSIn_seq (wpSIn_region ?_)
 show wpOpsSIn (FR none) 0 P _ _ [0] _ _ _
 have hrec:recoverD (c₀::cs)=some (pvv E n,{c₀ with mode:=.panicking [{v:=pvv E n,recovered:=true}]}::cs):=by simp only[recoverD,hu,pch]
 simp only[wpOpsSIn,List.getElem?_toArray,List.getElem?_cons_zero]
 refine⟨fun _ _=>trivial,?_⟩
 rw[if_pos (by simp[Region.wanted])]
 rw[show∀ρ:Operand->Value,(execOp ρ ⟨some 6,.call ⟨.builtin .recover,#[],#[]⟩,ty 0,po 0,af 0,none⟩).run P w=.ok .recover w from fun ρ=>rfl]
 simp only[hrec]
 have t1:=t0.put (d:=6) rfl (pvv E n)
 refine wpSIn_of_wpIn rfl ?_
 refine wpIn_block (wpIn_seq (wpIn_region ?_))
 show wpOpsIn (FR none) 0 P _ _ [0] _ _
 refine wOpV rfl rfl (fun c e=>by cases e) (v:=.bool false) (w':=w) (run_nonil hA (t1.at 6 (pvv E n) rfl) rfl) ?_
 have t2:=t1.put (d:=8) rfl (.bool false)
 refine wOpN (thenN (wpIn_cond_false (t2.at 8 _ rfl) (wpIn_seq (wpIn_region ?_))))
 show wpOpsIn (FR none) 0 P _ _ [0,1,2] _ _
 refine wOpV rfl rfl (fun c e=>by cases e) (v:=.tuple #[.int .i64 (n.val:Int),.bool true]) (w':=w) (run_ta hE (t2.at 6 (pvv E n) rfl)) ?_
 have t3:=t2.put (d:=9) rfl (.tuple #[.int .i64 (n.val:Int),.bool true])
 refine wOpV rfl rfl (fun c e=>by cases e) (v:=.bool true) (w':=w) (run_ex (t3.at 9 _ rfl) rfl) ?_
 have t4:=t3.put (d:=10) rfl (.bool true)
 refine wOpV rfl rfl (fun c e=>by cases e) (v:=.int .i64 (n.val:Int)) (w':=w) (run_ex (t4.at 9 _ rfl) rfl) ?_
 have t5':=t4.put (d:=11) rfl (.int .i64 (n.val:Int))
 refine wOpN (thenN (wpIn_cond_true (t5'.at 10 _ rfl) (wpIn_seq (wpIn_region ?_))))
 show wpOpsIn (FR none) 0 P _ _ [0] _ _
 refine wOpV rfl rfl (fun c e=>by cases e) (v:=.int .i64 (n.val:Int)) (w':=w) (run_as (t5'.at 11 _ rfl)) ?_
 have t6':=t5'.put (d:=4) rfl (.int .i64 (n.val:Int))
 refine wOpN (thenN (wpIn_region ?_))
 show wpOpsIn (FR none) 0 P _ _ [0,1,2,3] _ _
 refine wOpV rfl rfl (fun c e=>by cases e) (v:=.agg vs.toArray) (w':=w) (run_ldv hS h5 hvs (t6'.at 0 _ rfl)) ?_
 have t7':=t6'.put (d:=12) rfl (.agg vs.toArray)
 refine wOpV rfl rfl (fun c e=>by cases e) (v:=.int .i64 (n.val:Int)) (w':=w) (run_mv (t7'.at 4 _ rfl)) ?_
 have t8:=t7'.put (d:=13) rfl (.int .i64 (n.val:Int))
 refine wOpK rfl rfl (fun c e=>by cases e) (w':=w.setRow b6 vs.toArray) (run_stv h6 rfl hSz hl6 hone (t8.at 1 _ rfl) (t8.at 12 _ rfl)) ?_
 have h7':(w.setRow b6 vs.toArray).heap[b7]?=some (.cells cs7 I (0,0)):=(setRow_other w b6 b7 vs.toArray (Ne.symm h67)).trans h7
 refine wOpK rfl rfl (fun c e=>by cases e) (w':=(w.setRow b6 vs.toArray).setRow b7 #[.int .i64 (n.val:Int)]) (run_stv (vs:=[.int .i64 (n.val:Int)]) h7' rfl hIz hl7 (by simp[Value.oneCell']) ((t8.none undef).at 2 _ rfl) ((t8.none undef).at 13 _ rfl)) (wOpN (blkN ?_))
 refine⟨(gU ..).trans ((gU ..).trans t8.dfr),_,rfl,.tuple #[],?_,rfl,rfl,rfl⟩
 simp[results,hres]
end
def RVs{σ:Type}(fs:List (Fld σ))(r:σ×Int):List Sig:=[(kR fs).sig r.1,(kI .i64).sig r.2]
def QD{σ:Type}(C:Cx)(E S I:TypeId)(fs:List (Fld σ))(t6 t7:Nat)(z:Pn⊕(σ×Int)):Exit->Act->World->Prop:=fun e a w=>match e with
 |.ret=>∃Γ R g r,z=.inr r/\St C Γ R g w a/\RV C.P Γ R [.cell t6 S,.cell t7 I] (RVs fs r)
 |.normal=>∃Γ R g r,z=.inr r/\St C Γ R g w a/\RV C.P Γ R [.cell t6 S,.cell t7 I] (RVs fs r)
 |.panic ch=>∃(n:Pn) (R:List Res) (g:G) (ls6 ls7:List Leaf) (n6 n7:Nat),z=.inl n/\ch=pch (pvv E n)/\R[n6]?=some (.box t6 S ls6)/\R[n7]?=some (.box t7 I ls7)/\n6≠n7/\szL ls6=szF fs/\szL ls7=1/\St C [(t6,.p t6 0),(t7,.p t7 0)] R g w a
 |_=>False
def finD{σ:Type}(s:σ):Pn⊕(σ×Int)->σ×Int
 |.inl n=>(s,(n.val:Int))
 |.inr r=>r
section
variable{C:Cx} {Γ:Env} {R:List Res} {σ:Type} {fs:List (Fld σ)} {E S I:TypeId} {t6 t7:Nat}
theorem pDret{e:Exit} {r:σ×Int}(he:e=.ret\/e=.normal)(h:RV C.P Γ R [.cell t6 S,.cell t7 I] (RVs fs r)):Post C (QD C E S I fs t6 t7 (.inr r)) e Γ R:=by
 intro g w a s
 rcases he with rfl|rfl<;>exact⟨Γ,R,g,r,rfl,s,h⟩
theorem pDpan{n:Pn} {ls6 ls7:List Leaf} {n6 n7:Nat}(h6:R[n6]?=some (.box t6 S ls6))(h7:R[n7]?=some (.box t7 I ls7))(hne:Nat.beq n6 n7=false)(hz6:Nat.beq (szL ls6) (szF fs)=true)(hz7:Nat.beq (szL ls7) 1=true):Post C (QD C E S I fs t6 t7 (.inl n)) (.panic (pch (pvv E n))) [(t6,.p t6 0),(t7,.p t7 0)] R:=
 fun g w a s=>⟨n,R,g,ls6,ls7,n6,n7,rfl,rfl,h6,h7,(fun e=>by rw[e,Nat.beq_refl] at hne;cases hne),Nat.eq_of_beq_eq_true hz6,Nat.eq_of_beq_eq_true hz7,s⟩
end
theorem Dfr.base{C0:Cx} {Γ0 Γ:Env} {R0 R:List Res} {g0 g:G} {w0 w:World} {a0:Act} {pi:List Nat} {pv:Nat->Option Value} {ds:List Deferred} {tm:Array Value}(s:St C0 Γ0 R0 g0 w0 a0)
  (s':St ⟨C0.P,C0.N,Blk g0 R0,g0.H,w0,none,pi,pv,ds⟩ Γ R g w ⟨tm,ds⟩):Dfr C0.ds C0.B g w R a0.defers:=by
 obtain⟨rs,e,hnd,hr⟩:=s.defers
 refine⟨rs,e,hnd,fun r hm=>?_⟩
 obtain⟨h1,h2,h3,h4⟩:=hr r hm
 have hlt:r<w0.heap.size:=(Array.getElem?_eq_some_iff.1 h1).1
 have hnb:¬Blk g0 R0 r:=fun⟨x,hx,e'⟩=>h4 x hx e'
 refine⟨(s'.keep.block r hlt hnb).trans h1,(s'.keep.old r hlt (fun hb=>absurd hb hnb)).trans h2,h3,fun x hx e'=>?_⟩
 rcases(s'.own.at_ x hx r e').2.2 with q|q
 ·exact hnb q
 ·exact absurd q (by show ¬w0.heap.size<=r;omega)
theorem St.base{C0:Cx} {Γ0 Γ:Env} {R0 R:List Res} {g0 g:G} {w0 w:World} {a0:Act} {pi:List Nat} {pv:Nat->Option Value} {ds:List Deferred} {tm:Array Value}(hpi:C0.pi=[])(s:St C0 Γ0 R0 g0 w0 a0)
  (s':St ⟨C0.P,C0.N,Blk g0 R0,g0.H,w0,none,pi,pv,ds⟩ Γ R g w ⟨tm,ds⟩):St C0 Γ R g w ⟨tm,a0.defers⟩:=by
 have hdf:=Dfr.base s s'
 refine⟨s'.size,hdf,s.keep.step s'.keep (fun i ⟨r,hr,e⟩=>(s.own.at_ r hr i e).2.2),s'.sat,⟨s'.own.ok,fun r hr b e=>?_,s'.own.apart⟩,fun i hi=>by rw[hpi] at hi;cases hi⟩
 obtain⟨h1,h2,h3⟩:=s'.own.at_ r hr b e
 refine⟨h1,h2,?_⟩
 rcases h3 with ⟨x,hx,e'⟩|q
 ·exact(s.own.at_ x hx b e').2.2
 ·exact .inr (Nat.le_trans s.keep.size q)
theorem mr{a b:Nat}(h:(some (Value.pointer (some ⟨a,0,none⟩)):Option Value)=some (.pointer (some ⟨b,0,none⟩))):a=b:=by
 have:=Option.some.inj h
 injection this with this
 injection this with this
 injection this
theorem fnDefer{P:Program} {f fcl:FuncId} {fn fnc:Func} {r0 rest Z:Code} {i1 t19 t5 t6 t7 n6 n7:Nat} {ty1 ty2:TypeId} {po1 po2:String} {af1 af2:Array Edge} {ins:List Sig} {Γ:Env} {R:List Res} {A E S I T1:TypeId} {ty:Nat->TypeId} {po:Nat->String} {af:Nat->Array Edge} {ids:Nat->Nat} {ms:Array (String×TypeId)}
  {σ:Type} {fs:List (Fld σ)} {s:σ} {z:Pn⊕(σ×Int)} {ls6 ls7:List Leaf}
  (hf:P.funcs[f]?=some fn) (hb:fn.body=some (.seq r0 (.seq (.region i1 #[⟨some t19,.makeFunc (.func fcl) #[] #[.tmp t5,.tmp t6,.tmp t7],ty1,po1,af1,none⟩,⟨none,.defer ⟨.value (.tmp t19),#[],#[]⟩,ty2,po2,af2,none⟩] false) rest))) (hN':Nat.ble ins.length fn.ntmps=true) (ht:Nat.ble (t19+1) fn.ntmps=true)
  (hres:fn.results.toList=[.cell t6 S,.cell t7 I])
  (hfc:P.funcs[fcl]?=some fnc) (hbc:fnc.body=some (recC A E S I T1 ty po af ids Z)) (hNc:fnc.ntmps=14) (hresc:fnc.results= #[]) (hA:P.underlying A=some (.interface ms)) (hE:conB P E=true) (hbod:bodied P fcl)
  (hS:tinf P S=some (true,szF fs)) (hSz:sizeIs P S (szF fs)) (hIt:tinf P I=some (false,1)) (hIz:sizeIs P I 1)
  (h5:look Γ t5=some (.d (sP (kR fs) s))) (h6:look Γ t6=some (.p t6 0)) (h7:look Γ t7=some (.p t7 0)) (h19:look Γ t19=none)
  (hr6:R[n6]?=some (.box t6 S ls6)) (hr7:R[n7]?=some (.box t7 I ls7))
  (h0:∀H0 w0 Q,Post ⟨P,fn.ntmps,No,H0,w0,none,[],fun _=>none,[]⟩ Q .normal Γ R->WP ⟨P,fn.ntmps,No,H0,w0,none,[],fun _=>none,[]⟩ r0 Q (paramsAt 0 ins) [])
  (hrest:∀X H w pv ds,WP ⟨P,fn.ntmps,X,H,w,none,[t6,t7],pv,ds⟩ rest (QD ⟨P,fn.ntmps,X,H,w,none,[t6,t7],pv,ds⟩ E S I fs t6 t7 z) Γ R):
  FnA P f ins (tup [(kR fs).sig (finD s z).1,(kI .i64).sig (finD s z).2]):=by
 have ht:=Nat.le_of_ble_eq_true ht
 refine fnIntro hf hb hN' fun H0 w0=>?_
 refine wSeq (h0 H0 w0 _ (pSeq ?_))
 intro g w a st
 obtain⟨b5,o5,cs5,t5',fr5,e5,hb5,hr5⟩:=st.sat t5 _ h5
 obtain⟨b6,hn6,e6⟩:=st.sat t6 _ h6
 obtain⟨b7,hn7,e7⟩:=st.sat t7 _ h7
 refine wpIn_seq (wpIn_region ?_)
 show wpOpsIn (FR none) 0 P _ _ [0,1] _ _
 refine wOpV rfl rfl (fun c e=>by cases e) (v:=.func (.func fcl) #[] #[.pointer (some ⟨b5,o5,none⟩),.pointer (some ⟨b6,0,none⟩),.pointer (some ⟨b7,0,none⟩)]) (w':=w) ?_ ?_
 ·have q5:a.eval (.tmp t5)=.pointer (some ⟨b5,o5,none⟩):=e5
  have q6:a.eval (.tmp t6)=.pointer (some ⟨b6,0,none⟩):=e6
  have q7:a.eval (.tmp t7)=.pointer (some ⟨b7,0,none⟩):=e7
  show (execOp a.eval ⟨some t19,.makeFunc (.func fcl) #[] #[.tmp t5,.tmp t6,.tmp t7],ty1,po1,af1,none⟩).run P w=_
  simp[execOp,Instr.makeFunc,q5,q6,q7]
 let d:Deferred:={target:=.fn (.func fcl) #[.pointer (some ⟨b5,o5,none⟩),.pointer (some ⟨b6,0,none⟩),.pointer (some ⟨b7,0,none⟩)],args:= #[]}
 have ev19:(a.put (some t19) (.func (.func fcl) #[] #[.pointer (some ⟨b5,o5,none⟩),.pointer (some ⟨b6,0,none⟩),.pointer (some ⟨b7,0,none⟩)])).eval (.tmp t19)=.func (.func fcl) #[] #[.pointer (some ⟨b5,o5,none⟩),.pointer (some ⟨b6,0,none⟩),.pointer (some ⟨b7,0,none⟩)]:=
  (getD_put st.size ht _ t19).trans (if_pos rfl)
 show wpOpsIn (FR none) 0 P _ _ [1] (a.put (some t19) (.func (.func fcl) #[] #[.pointer (some ⟨b5,o5,none⟩),.pointer (some ⟨b6,0,none⟩),.pointer (some ⟨b7,0,none⟩)])) w
 generalize ha1:a.put (some t19) (.func (.func fcl) #[] #[.pointer (some ⟨b5,o5,none⟩),.pointer (some ⟨b6,0,none⟩),.pointer (some ⟨b7,0,none⟩)])=a1 at ev19
 have hsat1:Sat Γ g a1:=by
  intro t x hx
  rw[<-ha1,getD_put st.size ht]
  rw[if_neg (fun q=>by subst q;rw[h19] at hx;cases hx)]
  exact st.sat t x hx
 have hd1:a1.defers=a.defers:=by rw[<-ha1];exact gU ..
 have hs1:a1.tmps.size=fn.ntmps:=by rw[<-ha1];exact(jy ..).trans st.size
 have hdef:(execOp a1.eval ⟨none,.defer ⟨.value (.tmp t19),#[],#[]⟩,ty2,po2,af2,none⟩).run P w=.ok (.defer d) w:=by
  simp only[execOp,resolve,ev19,Deferred.ofValue,Sem.run_bind,Sem.run_pure,Result.andThen_ok]
  rw[show (#[]++Array.map a1.eval #[]:Array Value)= #[] by simp]
 rw[wpOpsIn_cons]
 unfold wpOpIn
 show (if Region.wanted ⟨none,.defer ⟨.value (.tmp t19),#[],#[]⟩,ty2,po2,af2,none⟩ _ then Oper.wpIn (FR none) 0 P ⟨none,.defer ⟨.value (.tmp t19),#[],#[]⟩,ty2,po2,af2,none⟩ a1 w _ _ else _)
 rw[if_pos (by simp[Region.wanted])]
 refine⟨fun _ _=>trivial,?_⟩
 rw[show (FR none).round=none from rfl,Oper.semAt_none,hdef,Oper.uponIn_defer]
 show CW ⟨P,fn.ntmps,No,H0,w0,none,[],fun _=>none,[]⟩ rest _ ({a1 with defers:=d::a1.defers}:Act) w
 have hw:=hrest (Blk g R) g.H w g.nm (d::a1.defers) g w ⟨a1.tmps,d::a1.defers⟩
  ⟨hs1,⟨[],rfl,List.nodup_nil,fun r hr=>by cases hr⟩,Keep.refl st.keep.agree,hsat1,⟨st.own.ok,fun r hr b e=>⟨(st.own.at_ r hr b e).1,(st.own.at_ r hr b e).2.1,.inl ⟨r,hr,e⟩⟩,st.own.apart⟩,fun i hi=>rfl⟩
 refine wpIn_mono hw fun e a' w' hq=>?_
 have hinv:∀w,(invoke d.target d.args).run P w=.ok (.enter fcl #[.pointer (some ⟨b5,o5,none⟩),.pointer (some ⟨b6,0,none⟩),.pointer (some ⟨b7,0,none⟩)]) w:=by
  intro w
  show (invoke (.fn (.func fcl) _) #[]).run P w=_
  simp only[invoke]
  rw[show (#[]++ #[Value.pointer (some ⟨b5,o5,none⟩),.pointer (some ⟨b6,0,none⟩),.pointer (some ⟨b7,0,none⟩)]:Array Value)=[Value.pointer (some ⟨b5,o5,none⟩),.pointer (some ⟨b6,0,none⟩),.pointer (some ⟨b7,0,none⟩)].toArray by simp]
  exact jq hbod
 have fin:∀(Γ':Env) (R':List Res) (g':G) (w':World) (tm:Array Value) (r:σ×Int),finD s z=r->St ⟨P,fn.ntmps,No,H0,w0,none,[],fun _=>none,[]⟩ Γ' R' g' w' ⟨tm,a.defers⟩->RV P Γ' R' [.cell t6 S,.cell t7 I] (RVs fs r)->LeavesInM (FR none) 0 P fn tm (Ret No H0 w0 (tup [(kR fs).sig (finD s z).1,(kI .i64).sig (finD s z).2])) a.defers .returning w':=by
  intro Γ' R' g' w' tm r hz sb hrv
  refine St.leaveD (C:=⟨P,fn.ntmps,No,H0,w0,none,[],fun _=>none,[]⟩) (a:=⟨tm,a.defers⟩) (u:=.returning) (by simp) rfl sb (fun w4 s4=>?_)
  obtain⟨vs,hsats,hrun⟩:=ip s4 hres hrv
  have hn:¬vs.toArray.size=1:=by
   have:=iB hsats
   simp[this,RVs]
  rw[dif_neg hn] at hrun
  rw[hz]
  exact⟨_,hrun,_,_,rfl,s4.keep,vs,rfl,hsats⟩
 have hret:∀(Γ':Env) (R':List Res) (g':G) (r:σ×Int),z=.inr r->St ⟨P,fn.ntmps,Blk g R,g.H,w,none,[t6,t7],g.nm,d::a1.defers⟩ Γ' R' g' w' a'->RV P Γ' R' [.cell t6 S,.cell t7 I] (RVs fs r)->
   LeavesInM (FR none) 0 P fn a'.tmps (Ret No H0 w0 (tup [(kR fs).sig (finD s z).1,(kI .i64).sig (finD s z).2])) a'.defers .returning w':=by
  intro Γ' R' g' r hz s' hrv
  refine St.leaveD (C:=⟨P,fn.ntmps,Blk g R,g.H,w,none,[t6,t7],g.nm,d::a1.defers⟩) (u:=.returning) (by simp) rfl s' (fun w2 s2=>?_)
  refine⟨by simp,.inr ⟨fun h=>by simp[FR,Fence.wide] at h,_,_,fcl,_,rfl,hinv w2,fun _ _=>trivial,CallsDIn.mono (rec_ret hfc hbc hNc hresc hA) ?_⟩⟩
  rintro e u' w3 ⟨rfl,rfl,rfl⟩
  show LeavesInM (FR none) 0 P fn a'.tmps _ a1.defers .returning w3
  rw[hd1]
  exact fin Γ' R' g' w3 a'.tmps r (by rw[hz];rfl) (St.base rfl st s2) hrv
 cases e with
 |ret=>obtain⟨Γ',R',g',r,hz,s',hrv⟩:=hq;exact hret Γ' R' g' r hz s' hrv
 |normal=>obtain⟨Γ',R',g',r,hz,s',hrv⟩:=hq;exact hret Γ' R' g' r hz s' hrv
 |panic ch=>
  obtain⟨n,R',g',ls6',ls7',m6,m7,hz,rfl,q6,q7,hne,z6,z7,s'⟩:=hq
  refine St.leaveD (C:=⟨P,fn.ntmps,Blk g R,g.H,w,none,[t6,t7],g.nm,d::a1.defers⟩) (u:=.panicking (pch (pvv E n))) (by simp) rfl s' (fun w2 s2=>?_)
  have p6:g'.nm t6=some (.pointer (some ⟨b6,0,none⟩)):=(s2.pin t6 (by simp)).trans hn6
  have p7:g'.nm t7=some (.pointer (some ⟨b7,0,none⟩)):=(s2.pin t7 (by simp)).trans hn7
  obtain⟨b6',cs6,e6',hh6,hl6⟩:=s2.own.get q6
  obtain⟨b7',cs7,e7',hh7,hl7⟩:=s2.own.get q7
  obtain rfl:=mr (p6.symm.trans e6')
  obtain rfl:=mr (p7.symm.trans e7')
  have hle:=s2.keep.le st.keep.agree
  have hw5:=s2.keep.agree _ _ (hle _ _ hb5)
  have hlen:((cs5.toList.drop o5).take (kR fs).sz).length=szF fs:=(kR fs).len hr5
  have hblk6:(Res.box t6 S ls6').block g' b6:=by simp only[Res.block,p6]
  have hblk7:(Res.box t7 I ls7').block g' b7:=by simp only[Res.block,p7]
  have h67:b6≠b7:=fun e=>mC s2.own.apart hne q6 q7 b6 hblk6 (by rw[e];exact hblk7)
  have hsz6:cs6.size=((cs5.toList.drop o5).take (kR fs).sz).length:=by rw[hlen,<-z6,<-iC hl6,Array.length_toList]
  have hsz7:cs7.size=1:=by rw[<-z7,<-iC hl7,Array.length_toList]
  generalize hvs:(cs5.toList.drop o5).take (kR fs).sz=vs at hr5 hlen hsz6
  refine⟨by simp,.inr ⟨fun h=>by simp[FR,Fence.wide] at h,_,_,fcl,_,rfl,hinv w2,fun _ _=>trivial,CallsDIn.mono (rec_pan (n:=n) (vs:=vs) hfc hbc hNc hresc hA hE hw5 (by rw[hlen];exact hvs) (by rw[hlen];exact hS) (by rw[hlen];exact hSz) ((kR fs).ok hr5) hh6 hsz6 hIz hh7 hsz7 h67) ?_⟩⟩
  rintro e u' w3 ⟨rfl,rfl,rfl⟩
  show LeavesInM (FR none) 0 P fn a'.tmps _ a1.defers .returning _
  rw[hd1]
  have sb:St ⟨P,fn.ntmps,No,H0,w0,none,[],fun _=>none,[]⟩ [(t6,.p t6 0),(t7,.p t7 0)] R' g' w2 ⟨a'.tmps,a.defers⟩:=St.base rfl st s2
  obtain⟨k61,k62,k63⟩:=sb.own.at_ _ (List.mem_of_getElem? q6) b6 hblk6
  obtain⟨k71,k72,k73⟩:=sb.own.at_ _ (List.mem_of_getElem? q7) b7 hblk7
  have hw6:((w2.setRow b6 vs.toArray).setRow b7 #[.int .i64 (n.val:Int)]).heap[b6]?=some (.cells vs.toArray S (0,0)):=(setRow_other _ b7 b6 _ h67).trans (setRow_heap w2 b6 cs6 vs.toArray S (0,0) hh6)
  have hw7:((w2.setRow b6 vs.toArray).setRow b7 #[.int .i64 (n.val:Int)]).heap[b7]?=some (.cells #[.int .i64 (n.val:Int)] I (0,0)):=setRow_heap _ b7 cs7 _ I (0,0) ((setRow_other _ b6 b7 _ (Ne.symm h67)).trans hh7)
  refine fin [(t6,.p t6 0),(t7,.p t7 0)] [.box t6 S [.d (kR fs) s],.box t7 I [.d (kI .i64) (n.val:Int)]] g' _ a'.tmps (s,(n.val:Int)) (by rw[hz];rfl) ⟨sb.size,?_,iw (iw sb.keep k63 k61 _) k73 k71 _,sb.sat,⟨?_,?_,?_⟩,fun i hi=>by cases hi⟩ ?_
  ·obtain⟨rs,e,hnd,hr⟩:=sb.defers
   refine⟨rs,e,hnd,fun r hm=>?_⟩
   obtain⟨h1,h2,h3,h4⟩:=hr r hm
   have r6:r≠b6:=fun e=>h4 _ (List.mem_of_getElem? q6) (by rw[e];exact hblk6)
   have r7:r≠b7:=fun e=>h4 _ (List.mem_of_getElem? q7) (by rw[e];exact hblk7)
   refine⟨(setRow_other _ b7 r _ r7).trans ((setRow_other _ b6 r _ r6).trans h1),h2,h3,fun x hx e'=>?_⟩
   rcases List.mem_cons.1 hx with rfl|hx
   ·simp only[Res.block,p6,Option.some.injEq] at e';exact r6 e'.symm
   ·rcases List.mem_cons.1 hx with rfl|hx
    ·simp only[Res.block,p7,Option.some.injEq] at e';exact r7 e'.symm
    ·cases hx
  ·intro x hx
   rcases List.mem_cons.1 hx with rfl|hx
   ·exact⟨b6,vs.toArray,p6,hw6,vs,[],by simp,(kR fs).mono hle hr5,rfl⟩
   ·rcases List.mem_cons.1 hx with rfl|hx
    ·exact⟨b7,#[.int .i64 (n.val:Int)],p7,hw7,[.int .i64 (n.val:Int)],[],by simp,⟨rfl,(by have:=n.isLt;exact⟨by show (-9223372036854775808:Int)<=_;omega,by show _<=(9223372036854775807:Int);omega⟩)⟩,rfl⟩
    ·cases hx
  ·intro x hx b e'
   rcases List.mem_cons.1 hx with rfl|hx
   ·simp only[Res.block,p6,Option.some.injEq] at e';subst e';exact⟨k61,by simpa using k62,k63⟩
   ·rcases List.mem_cons.1 hx with rfl|hx
    ·simp only[Res.block,p7,Option.some.injEq] at e';subst e';exact⟨k71,by simpa using k72,k73⟩
    ·cases hx
  ·refine List.pairwise_cons.2 ⟨fun x hx b e1 e2=>?_,List.pairwise_singleton ..⟩
   rcases List.mem_cons.1 hx with rfl|hx
   ·simp only[Res.block,p6,Option.some.injEq] at e1
    simp only[Res.block,p7,Option.some.injEq] at e2
    exact h67 (e1.trans e2.symm)
   ·cases hx
  ·refine .boxV (n:=0) (id:=t6) (T0:=S) (d:=kR fs) (u:=s) ?_ rfl hS (.boxV (n:=1) (id:=t7) (T0:=I) (d:=kI .i64) (u:=(n.val:Int)) ?_ rfl hIt .nil)
   ·rw[eD,if_pos rfl]
   ·rw[eD]
    split
    ·rename_i e;subst e;exact absurd (mr (p6.symm.trans p7)) h67
    ·rw[eD,if_pos rfl]
 |exit id=>exact hq.elim
 |goto l=>exact hq.elim
 |outgrown=>exact hq.elim
end Go.Proofs.YtmjcpkmongafnaaGreatDoor.Ab
