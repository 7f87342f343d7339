import Derived.Test.YtmjcpkmongafnaaGreatDoorAb37
set_option linter.unusedVariables false
set_option linter.unusedSimpArgs false
namespace Go.Proofs.YtmjcpkmongafnaaGreatDoor.Ab
open Go Go.RowKit
section
variable{α β:Type} {r:β} {C:Cx} {c:Code} {e:Exit} {Q:Exit->Act->World->Prop} {Γ:Env} {R:List Res}
theorem bx{x:Option α} {f:α->Option β}(h:(x>>=f)=some r)(k:∀y,x=some y->f y=some r->WP C c Q Γ R):WP C c Q Γ R:=by
 obtain⟨y,a,b⟩:=bd h
 exact k y a b
theorem ix{p:Prop}[Decidable p]{x:Option β}(h:(if p then x else none)=some r)(k:p->x=some r->WP C c Q Γ R):WP C c Q Γ R:=by
 obtain⟨a,b⟩:=ib h
 exact k a b
theorem jx{p:Prop}[Decidable p]{x y:Option β}(h:(if p then x else y)=some r)(k:Hd p->x=some r->WP C c Q Γ R)(j:Hd (¬p)->y=some r->WP C c Q Γ R):WP C c Q Γ R:=by
 rcases ik h with ⟨a,b⟩|⟨a,b⟩
 ·exact k a b
 ·exact j a b
end
section
variable{C:Cx} {Q:Exit->Act->World->Prop} {Γ:Env} {R:List Res}
theorem wB{A β:Type} {x y:Code} {e:Option A} {f:A->Option β} {r:β}(h:(e>>=f)=some r)(Γ':A->Env)(R':A->List Res)(k:∀o,e=some o->WP C x (Exit.then (At1 C (fun x=>x=o) Γ' R') Q) Γ R)(j:∀o,f o=some r->WP C y Q (Γ' o) (R' o)):WP C (.seq x y) Q Γ R:=by
 obtain⟨o,a,b⟩:=bd h
 exact wJ1 (fun x=>x=o) Γ' R' (k o a) (by rintro a0 rfl;exact j _ b)
theorem kX{A β:Type} {x:Code} {e:Option A} {f:A->Option β} {r:β}(h:(e>>=f)=some r)(Γ':A->Env)(R':A->List Res)(k:∀o,e=some o->WP C x (Exit.then (At1 C (fun x=>x=o) Γ' R') Q) Γ R)(j:∀o,f o=some r->Post C Q .normal (Γ' o) (R' o)):WP C x Q Γ R:=by
 obtain⟨o,a,b⟩:=bd h
 exact wK1 (fun x=>x=o) Γ' R' (k o a) (by rintro a0 rfl;exact j _ b)
theorem ej{A1:Type} {id:Nat} {l:List Oper} {es:List En} {E:A1->Prop} {Γ':A1->Env} {R':A1->List Res} {Γ1:Env} {R1:List Res} {a0:A1}(hc:Chain C.rd C.P ⟨l⟩ l Γ R es Γ1 R1)(he:E a0)(hs:Sub (Γ' a0) Γ1)(hR:R' a0=R1)(hk:(noBoom es&&chkB C l es Γ R)=true:=by kernel_rfl):WP C (.region id ⟨l⟩ false) (Exit.then (At1 C E Γ' R') Q) Γ R:=
 rx hc (pJ1 a0 he hs hR) hk
theorem sx{id:Nat} {l:List Oper} {es:List En} {y:Code} {Γ1:Env} {R1:List Res}(hc:Chain C.rd C.P ⟨l⟩ l Γ R es Γ1 R1)(h:WP C y Q Γ1 R1)(hk:(noBoom es&&chkB C l es Γ R)=true:=by kernel_rfl):WP C (.seq (.region id ⟨l⟩ false) y) Q Γ R:=
 wSeq (rx hc (pSeq h) hk)
end
section
variable{rd:Option Nat} {P:Program} {ops:Array Oper} {rest:List Oper} {Γ Γ':Env} {R R':List Res} {es:List En} {d t id off:Nat} {T ty T0:TypeId} {pos:String} {af:Array Edge} {ls:List Leaf}
theorem lB{α:Type} {D:Kd α} {v:α}(n k:Nat)(hr:R[n]?=some (.box id T0 ls))(hk:ls[k]?=some (.d D v))(ho:offL ls k=off)(hi:tinf P T=some (D.agg,D.sz))(hl:look Γ t=some (.p id off))(c:Chain rd P ops rest ((d,.d (D.sig v))::Γ) R es Γ' R'):Chain rd P ops (⟨some d,.load T (.tmp t),ty,pos,af,none⟩::rest) Γ R (⟨.read,[(t,.p id off)],.d (D.sig v),[],some d,R,R⟩::es) Γ' R':=
 cr (oLdB hr hk ho hi tm) (s1 hl) c
theorem lK{α:Type} {D:Kd α} {v:α}(n k:Nat)(hr:R[n]?=some (.box id T0 ls))(hk:ls[k]?=some (.d D v))(ho:Nat.beq (offL ls k) off=true)(hi:tinf P T=some (D.agg,D.sz))(hl:look Γ t=some (.p id off))(c:Chain rd P ops rest ((d,.d (D.sig v))::Γ) R es Γ' R'):Chain rd P ops (⟨some d,.load T (.tmp t),ty,pos,af,none⟩::rest) Γ R (⟨.read,[(t,.p id off)],.d (D.sig v),[],some d,R,R⟩::es) Γ' R':=
 cr (oLdK hr hk ho hi tm) (s1 hl) c
theorem lN{j:Nat}(n k:Nat)(hr:R[n]?=some (.box id T0 ls))(hk:ls[k]?=some (.v j))(ho:offL ls k=off)(hi:tinf P T=some (false,1))(hl:look Γ t=some (.p id off))(c:Chain rd P ops rest ((d,.v j)::Γ) R es Γ' R'):Chain rd P ops (⟨some d,.load T (.tmp t),ty,pos,af,none⟩::rest) Γ R (⟨.read,[(t,.p id off)],.v j,[],some d,R,R⟩::es) Γ' R':=
 cr (oLdN hr hk ho hi tm) (s1 hl) c
theorem lA{S:Type}(n:Nat)(fs:List (Fld S))(v:S)(hr:R[n]?=some (.box id T0 ls))(ha:allD ls fs v)(hi:tinf P T=some (true,szF fs))(hl:look Γ t=some (.p id 0))(c:Chain rd P ops rest ((d,.d ((kR fs).sig v))::Γ) R es Γ' R'):Chain rd P ops (⟨some d,.load T (.tmp t),ty,pos,af,none⟩::rest) Γ R (⟨.read,[(t,.p id 0)],.d ((kR fs).sig v),[],some d,R,R⟩::es) Γ' R':=
 cr (oLdA hr ha hi tm) (s1 hl) c
theorem lP{α:Type} {l2:List Leaf}(n k m:Nat)(D:Kd α)(v:α)(hF:Part l2 D v)(hr:R[n]?=some (.box id T0 ls))(hl:(ls.drop k).take m=l2)(ho:offL ls k=off)(hi:tinf P T=some (D.agg,D.sz))(hs:look Γ t=some (.p id off))(c:Chain rd P ops rest ((d,.d (D.sig v))::Γ) R es Γ' R'):Chain rd P ops (⟨some d,.load T (.tmp t),ty,pos,af,none⟩::rest) Γ R (⟨.read,[(t,.p id off)],.d (D.sig v),[],some d,R,R⟩::es) Γ' R':=
 cr (oLdP hF hr hl ho hi tm) (s1 hs) c
theorem iX{kk:IntKind} {s:Nat} {α:Type} {D:Kd α} {xs:List α} {v:α} {n:Int} {E:TypeId}(hT:P.underlying T=some (.slice E))(hE:sizeIs P E D.sz)(hu:lAt xs n=some v)(h:look Γ t=some (.d ((kL D).sig xs)))(h':look Γ s=some (.d ((kI kk).sig n)))(c:Chain rd P ops rest ((d,.d (sP D v))::Γ) R es Γ' R'):Chain rd P ops (⟨some d,.indexAddr T (.tmp t) (.tmp s),ty,pos,af,none⟩::rest) Γ R (⟨.pure,[(t,.d ((kL D).sig xs)),(s,.d ((kI kk).sig n))],.d (sP D v),[],some d,R,R⟩::es) Γ' R':=
 cp (oIdx hT hE hu tm tm) (s2 h h') c
theorem aL(i:Nat)(ls:List Leaf){cs:List Value}(hz:zeroIs P T cs)(hl:∀g,leafs ls g cs)(c:Chain rd P ops rest ((d,.p i 0)::Γ) (.box i T ls::R) es Γ' R'):Chain rd P ops (⟨some d,.alloc T,ty,pos,af,none⟩::rest) Γ R (⟨.write,[],.p i 0,[i],some d,R,.box i T ls::R⟩::es) Γ' R':=
 cw (oAlloc hz hl) trivial c
theorem sA{S:Type} {s:Nat} {v:S}(n:Nat)(fs:List (Fld S))(hr:R[n]?=some (.box id T0 ls))(hs:(ls.map Leaf.sz).sum=szF fs)(hi:sizeIs P T (szF fs))(h:look Γ t=some (.p id 0))(h':look Γ s=some (.d ((kR fs).sig v)))(c:Chain rd P ops rest Γ (R.set n (.box id T0 (leafF fs v))) es Γ' R'):Chain rd P ops (⟨none,.store T (.tmp t) (.tmp s),ty,pos,af,none⟩::rest) Γ R (⟨.write,[(t,.p id 0),(s,.d ((kR fs).sig v))],.d sAny,[],none,R,R.set n (.box id T0 (leafF fs v))⟩::es) Γ' R':=
 cwn (oStA hr hs hi tm tm) (s2 h h') c
end
section
variable{S:Type} {f:Fld S} {fs:List (Fld S)} {n:Nat} {u:S} {x:Operand} {ps:List (Nat×Operand)} {zs:List Value} {a b:Env}
theorem qI(h:Opd x (.d (f.d.sig (f.get u))) a)(hz:([(.int .i64 0)]:List Value).length=f.d.sz)(k:Prt S fs (n+1) u ps zs b):Prt S (f::fs) n u ((n,x)::ps) (([(.int .i64 0)]:List Value)++zs) (a++b):=.op h hz k
theorem qL(h:Opd x (.d (f.d.sig (f.get u))) a)(hz:([(.slice none 0 0)]:List Value).length=f.d.sz)(k:Prt S fs (n+1) u ps zs b):Prt S (f::fs) n u ((n,x)::ps) (([(.slice none 0 0)]:List Value)++zs) (a++b):=.op h hz k
theorem qT(h:Opd x (.d (f.d.sig (f.get u))) a)(hz:([(.int .i64 0),(.int .i64 0),(.slice none 0 0),(.slice none 0 0),(.slice none 0 0),(.slice none 0 0)]:List Value).length=f.d.sz)(k:Prt S fs (n+1) u ps zs b):Prt S (f::fs) n u ((n,x)::ps) (([(.int .i64 0),(.int .i64 0),(.slice none 0 0),(.slice none 0 0),(.slice none 0 0),(.slice none 0 0)]:List Value)++zs) (a++b):=.op h hz k
theorem gI(h:∀H,f.d.reps H ([(.int .i64 0)]:List Value) (f.get u))(k:Prt S fs (n+1) u ps zs b):Prt S (f::fs) n u ps (([(.int .i64 0)]:List Value)++zs) b:=.ze h k
theorem gL(h:∀H,f.d.reps H ([(.slice none 0 0)]:List Value) (f.get u))(k:Prt S fs (n+1) u ps zs b):Prt S (f::fs) n u ps (([(.slice none 0 0)]:List Value)++zs) b:=.ze h k
theorem gB(h:∀H,f.d.reps H ([(.bool false)]:List Value) (f.get u))(k:Prt S fs (n+1) u ps zs b):Prt S (f::fs) n u ps (([(.bool false)]:List Value)++zs) b:=.ze h k
theorem gS(h:∀H,f.d.reps H ([(.bool false),(.int .i64 0),(.int .i64 0)]:List Value) (f.get u))(k:Prt S fs (n+1) u ps zs b):Prt S (f::fs) n u ps (([(.bool false),(.int .i64 0),(.int .i64 0)]:List Value)++zs) b:=.ze h k
end
section
variable{C:Cx} {Q:Exit->Act->World->Prop} {Γ:Env} {R:List Res} {t:Nat} {x y:Code}
theorem wb{b:Bool}(hp:Hd (b=true))(hl:look Γ t=some (.d (kB.sig (b))))(h:WP C x Q Γ R):WP C (.cond (.tmp t) x y) Q Γ R:=wBT hp.1 tm (s1 hl) h
theorem wc{b:Bool}(hp:Hd (¬b=true))(hl:look Γ t=some (.d (kB.sig (b))))(h:WP C y Q Γ R):WP C (.cond (.tmp t) x y) Q Γ R:=wBF hp.1 tm (s1 hl) h
theorem wd{p:Prop}[Decidable p](hp:Hd (p))(hl:look Γ t=some (.d (kB.sig (decide p))))(h:WP C x Q Γ R):WP C (.cond (.tmp t) x y) Q Γ R:=wCT hp.1 tm (s1 hl) h
theorem we{p:Prop}[Decidable p](hp:Hd (¬p))(hl:look Γ t=some (.d (kB.sig (decide p))))(h:WP C y Q Γ R):WP C (.cond (.tmp t) x y) Q Γ R:=wCF hp.1 tm (s1 hl) h
theorem wh{p:Prop}[Decidable p](hp:Hd (p))(hl:look Γ t=some (.d (kB.sig (!decide p))))(h:WP C y Q Γ R):WP C (.cond (.tmp t) x y) Q Γ R:=wNT hp.1 tm (s1 hl) h
theorem wg{p:Prop}[Decidable p](hp:Hd (¬p))(hl:look Γ t=some (.d (kB.sig (!decide p))))(h:WP C x Q Γ R):WP C (.cond (.tmp t) x y) Q Γ R:=wNF hp.1 tm (s1 hl) h
theorem pT{fn:Func} {out:Sig}(hr:fn.results.toList=[.tmp t])(h:look Γ t=some (.d out))(hrd:C.rd=none:=by rfl)(hds:C.ds=[]:=by rfl):Post C (BP C fn (Ret C.X C.H0 C.w0 out)) .ret Γ R:=pR1 (.inl rfl) hr (.tmp h .nil) hrd hds
theorem fJ{P:Program} {f:FuncId} {fn:Func} {c:Code} {ins:List Sig} {out:Sig}(hf:P.funcs[f]?=some fn)(hb:fn.body=some c)(h:∀H0 w0,WP ⟨P,fn.ntmps,No,H0,w0,none,[],fun _=>none,[]⟩ c (BP ⟨P,fn.ntmps,No,H0,w0,none,[],fun _=>none,[]⟩ fn (Ret No H0 w0 out)) (paramsAt 0 ins) [])(hN':Nat.ble ins.length fn.ntmps=true:=by kernel_rfl):FnA P f ins out:=fnIntro hf hb hN' h
end
end Go.Proofs.YtmjcpkmongafnaaGreatDoor.Ab
