import Derived.Test.YtmjcpkmongafnaaGreatDoorAb8
set_option linter.unusedVariables false
set_option linter.unusedSimpArgs false
namespace Go.Proofs.YtmjcpkmongafnaaGreatDoor.Ab
open Go Go.RowKit
section
variable{C:Cx} {Q:Exit->Act->World->Prop} {Γ Γ':Env} {R R':List Res}
def At0(C:Cx)(E:Prop)(Γ:Env)(R:List Res)(a:Act)(w:World):Prop:=E/\∃g,St C (Γ) (R) g w a
theorem wJ0{x y:Code}(E:Prop)(Γ':Env)(R':List Res)(h:WP C x (Exit.then (At0 C E Γ' R') Q) Γ R)(k:E->WP C y Q (Γ') (R')):WP C (.seq x y) Q Γ R:=
 wJoin (At0 C E Γ' R') h fun a w ⟨he,g,st⟩=>k he g w a st
theorem wK0{x:Code}(E:Prop)(Γ':Env)(R':List Res)(h:WP C x (Exit.then (At0 C E Γ' R') Q) Γ R)(k:E->Post C Q .normal (Γ') (R')):WP C x Q Γ R:=
 fun g w a s=>wpIn_mono (h g w a s) (fun e a w he=>match e,he with|.normal,⟨he,g,st⟩=>k he g w a st|.ret,he=>he|.exit _,he=>he|.goto _,he=>he|.panic _,he=>he|.outgrown,he=>he)
theorem pJ0{E:Prop} {Γ':Env} {R':List Res}(he:E)(hs:Sub (Γ') Γ)(hR:R'=R):Post C (Exit.then (At0 C E Γ' R') Q) .normal Γ R:=by
 subst hR
 exact fun g w a st=>⟨he,g,st.weak hs⟩
def At1{A1:Type}(C:Cx)(E:A1->Prop)(Γ:A1->Env)(R:A1->List Res)(a:Act)(w:World):Prop:=∃a0,E a0/\∃g,St C (Γ a0) (R a0) g w a
theorem wJ1{A1:Type} {x y:Code}(E:A1->Prop)(Γ':A1->Env)(R':A1->List Res)(h:WP C x (Exit.then (At1 C E Γ' R') Q) Γ R)(k:∀a0,E a0->WP C y Q (Γ' a0) (R' a0)):WP C (.seq x y) Q Γ R:=
 wJoin (At1 C E Γ' R') h fun a w ⟨a0,he,g,st⟩=>k a0 he g w a st
theorem wK1{A1:Type} {x:Code}(E:A1->Prop)(Γ':A1->Env)(R':A1->List Res)(h:WP C x (Exit.then (At1 C E Γ' R') Q) Γ R)(k:∀a0,E a0->Post C Q .normal (Γ' a0) (R' a0)):WP C x Q Γ R:=
 fun g w a s=>wpIn_mono (h g w a s) (fun e a w he=>match e,he with|.normal,⟨a0,he,g,st⟩=>k a0 he g w a st|.ret,he=>he|.exit _,he=>he|.goto _,he=>he|.panic _,he=>he|.outgrown,he=>he)
theorem pJ1{A1:Type} {E:A1->Prop} {Γ':A1->Env} {R':A1->List Res}(a0:A1)(he:E a0)(hs:Sub (Γ' a0) Γ)(hR:R' a0=R):Post C (Exit.then (At1 C E Γ' R') Q) .normal Γ R:=by
 subst hR
 exact fun g w a st=>⟨a0,he,g,st.weak hs⟩
def At2{A1 B1:Type}(C:Cx)(E:A1->B1->Prop)(Γ:A1->B1->Env)(R:A1->B1->List Res)(a:Act)(w:World):Prop:=∃a0 a1,E a0 a1/\∃g,St C (Γ a0 a1) (R a0 a1) g w a
theorem wJ2{A1 B1:Type} {x y:Code}(E:A1->B1->Prop)(Γ':A1->B1->Env)(R':A1->B1->List Res)(h:WP C x (Exit.then (At2 C E Γ' R') Q) Γ R)(k:∀a0 a1,E a0 a1->WP C y Q (Γ' a0 a1) (R' a0 a1)):WP C (.seq x y) Q Γ R:=
 wJoin (At2 C E Γ' R') h fun a w ⟨a0,a1,he,g,st⟩=>k a0 a1 he g w a st
theorem wK2{A1 B1:Type} {x:Code}(E:A1->B1->Prop)(Γ':A1->B1->Env)(R':A1->B1->List Res)(h:WP C x (Exit.then (At2 C E Γ' R') Q) Γ R)(k:∀a0 a1,E a0 a1->Post C Q .normal (Γ' a0 a1) (R' a0 a1)):WP C x Q Γ R:=
 fun g w a s=>wpIn_mono (h g w a s) (fun e a w he=>match e,he with|.normal,⟨a0,a1,he,g,st⟩=>k a0 a1 he g w a st|.ret,he=>he|.exit _,he=>he|.goto _,he=>he|.panic _,he=>he|.outgrown,he=>he)
theorem pJ2{A1 B1:Type} {E:A1->B1->Prop} {Γ':A1->B1->Env} {R':A1->B1->List Res}(a0:A1)(a1:B1)(he:E a0 a1)(hs:Sub (Γ' a0 a1) Γ)(hR:R' a0 a1=R):Post C (Exit.then (At2 C E Γ' R') Q) .normal Γ R:=by
 subst hR
 exact fun g w a st=>⟨a0,a1,he,g,st.weak hs⟩
def At3{A1 B1 D1:Type}(C:Cx)(E:A1->B1->D1->Prop)(Γ:A1->B1->D1->Env)(R:A1->B1->D1->List Res)(a:Act)(w:World):Prop:=∃a0 a1 a2,E a0 a1 a2/\∃g,St C (Γ a0 a1 a2) (R a0 a1 a2) g w a
theorem wK3{A1 B1 D1:Type} {x:Code}(E:A1->B1->D1->Prop)(Γ':A1->B1->D1->Env)(R':A1->B1->D1->List Res)(h:WP C x (Exit.then (At3 C E Γ' R') Q) Γ R)(k:∀a0 a1 a2,E a0 a1 a2->Post C Q .normal (Γ' a0 a1 a2) (R' a0 a1 a2)):WP C x Q Γ R:=
 fun g w a s=>wpIn_mono (h g w a s) (fun e a w he=>match e,he with|.normal,⟨a0,a1,a2,he,g,st⟩=>k a0 a1 a2 he g w a st|.ret,he=>he|.exit _,he=>he|.goto _,he=>he|.panic _,he=>he|.outgrown,he=>he)
theorem pJ3{A1 B1 D1:Type} {E:A1->B1->D1->Prop} {Γ':A1->B1->D1->Env} {R':A1->B1->D1->List Res}(a0:A1)(a1:B1)(a2:D1)(he:E a0 a1 a2)(hs:Sub (Γ' a0 a1 a2) Γ)(hR:R' a0 a1 a2=R):Post C (Exit.then (At3 C E Γ' R') Q) .normal Γ R:=by
 subst hR
 exact fun g w a st=>⟨a0,a1,a2,he,g,st.weak hs⟩
def At4{A1 B1 D1 E1:Type}(C:Cx)(E:A1->B1->D1->E1->Prop)(Γ:A1->B1->D1->E1->Env)(R:A1->B1->D1->E1->List Res)(a:Act)(w:World):Prop:=∃a0 a1 a2 a3,E a0 a1 a2 a3/\∃g,St C (Γ a0 a1 a2 a3) (R a0 a1 a2 a3) g w a
theorem wJ4{A1 B1 D1 E1:Type} {x y:Code}(E:A1->B1->D1->E1->Prop)(Γ':A1->B1->D1->E1->Env)(R':A1->B1->D1->E1->List Res)(h:WP C x (Exit.then (At4 C E Γ' R') Q) Γ R)(k:∀a0 a1 a2 a3,E a0 a1 a2 a3->WP C y Q (Γ' a0 a1 a2 a3) (R' a0 a1 a2 a3)):WP C (.seq x y) Q Γ R:=
 wJoin (At4 C E Γ' R') h fun a w ⟨a0,a1,a2,a3,he,g,st⟩=>k a0 a1 a2 a3 he g w a st
theorem wK4{A1 B1 D1 E1:Type} {x:Code}(E:A1->B1->D1->E1->Prop)(Γ':A1->B1->D1->E1->Env)(R':A1->B1->D1->E1->List Res)(h:WP C x (Exit.then (At4 C E Γ' R') Q) Γ R)(k:∀a0 a1 a2 a3,E a0 a1 a2 a3->Post C Q .normal (Γ' a0 a1 a2 a3) (R' a0 a1 a2 a3)):WP C x Q Γ R:=
 fun g w a s=>wpIn_mono (h g w a s) (fun e a w he=>match e,he with|.normal,⟨a0,a1,a2,a3,he,g,st⟩=>k a0 a1 a2 a3 he g w a st|.ret,he=>he|.exit _,he=>he|.goto _,he=>he|.panic _,he=>he|.outgrown,he=>he)
theorem pJ4{A1 B1 D1 E1:Type} {E:A1->B1->D1->E1->Prop} {Γ':A1->B1->D1->E1->Env} {R':A1->B1->D1->E1->List Res}(a0:A1)(a1:B1)(a2:D1)(a3:E1)(he:E a0 a1 a2 a3)(hs:Sub (Γ' a0 a1 a2 a3) Γ)(hR:R' a0 a1 a2 a3=R):Post C (Exit.then (At4 C E Γ' R') Q) .normal Γ R:=by
 subst hR
 exact fun g w a st=>⟨a0,a1,a2,a3,he,g,st.weak hs⟩
theorem wCT{c:Operand} {x y:Code} {ins:Env} {p:Prop}[Decidable p](hp:p)(hc:Opd c (.d (kB.sig (decide p))) ins)(hs:Sub ins Γ)(h:WP C x Q Γ R):WP C (.cond c x y) Q Γ R:=
 wCondT (by rwa [decide_eq_true hp] at hc) (by rwa [decide_eq_true hp] at*) h
theorem wCF{c:Operand} {x y:Code} {ins:Env} {p:Prop}[Decidable p](hp:¬p)(hc:Opd c (.d (kB.sig (decide p))) ins)(hs:Sub ins Γ)(h:WP C y Q Γ R):WP C (.cond c x y) Q Γ R:=by
 rw[decide_eq_false hp] at hc
 exact wCondF hc hs h
theorem wNT{c:Operand} {x y:Code} {ins:Env} {p:Prop}[Decidable p](hp:p)(hc:Opd c (.d (kB.sig (!decide p))) ins)(hs:Sub ins Γ)(h:WP C y Q Γ R):WP C (.cond c x y) Q Γ R:=by
 rw[decide_eq_true hp] at hc
 exact wCondF hc hs h
theorem wNF{c:Operand} {x y:Code} {ins:Env} {p:Prop}[Decidable p](hp:¬p)(hc:Opd c (.d (kB.sig (!decide p))) ins)(hs:Sub ins Γ)(h:WP C x Q Γ R):WP C (.cond c x y) Q Γ R:=by
 rw[decide_eq_false hp] at hc
 exact wCondT hc hs h
theorem wBT{c:Operand} {x y:Code} {ins:Env} {b:Bool}(hp:b=true)(hc:Opd c (.d (kB.sig b)) ins)(hs:Sub ins Γ)(h:WP C x Q Γ R):WP C (.cond c x y) Q Γ R:=by
 subst hp
 exact wCondT hc hs h
theorem wBF{c:Operand} {x y:Code} {ins:Env} {b:Bool}(hp:¬b=true)(hc:Opd c (.d (kB.sig b)) ins)(hs:Sub ins Γ)(h:WP C y Q Γ R):WP C (.cond c x y) Q Γ R:=by
 cases b with
 |true=>exact absurd rfl hp
 |false=>exact wCondF hc hs h
theorem nb{b:Bool}(h:¬b=true):b=false:=by cases b with|true=>exact absurd rfl h|false=>rfl
theorem ic{α:Type} {p:Prop}[Decidable p]{x y:Option α} {r:α}(h:(if p then x else y)=some r):(p/\x=some r)\/(¬p/\y=some r):=by
 by_cases hp:p
 ·rw[if_pos hp] at h;exact .inl ⟨hp,h⟩
 ·rw[if_neg hp] at h;exact .inr ⟨hp,h⟩
theorem pc1{A1 ρ:Type} {c:Code} {f:A1->Option ρ} {Body:(A1->Option ρ)->A1->Option ρ}(o:ρ)(Γ':A1->Env)(R':A1->List Res)
  (pc:∀M:A1->ρ->Prop,(∀f':A1->Option ρ,(∀(a0:A1) (r:ρ),f' a0=some r->M a0 r)->∀(a0:A1) (r:ρ),Body f' a0=some r->M a0 r)->∀(a0:A1) (r:ρ),f a0=some r->M a0 r)
  (round:∀f':A1->Option ρ,(∀(a0:A1),f' a0=some o->LP C c Q (Γ' a0) (R' a0))->∀(a0:A1),Body f' a0=some o->WP C c (Exit.then (LoopAt C c Q) Q) (Γ' a0) (R' a0)):
  ∀(a0:A1),f a0=some o->LP C c Q (Γ' a0) (R' a0):=by
 intro a0 h
 refine pc (fun a0 r=>r=o->LP C c Q (Γ' a0) (R' a0)) ?_ a0 o h rfl
 rintro f' ih a0 r hb rfl
 exact lUnfold (round f' (fun a0 h=>ih a0 _ h rfl) a0 hb)
theorem pc2{A1 B1 ρ:Type} {c:Code} {f:A1->B1->Option ρ} {Body:(A1->B1->Option ρ)->A1->B1->Option ρ}(o:ρ)(Γ':A1->B1->Env)(R':A1->B1->List Res)
  (pc:∀M:A1->B1->ρ->Prop,(∀f':A1->B1->Option ρ,(∀(a0:A1) (a1:B1) (r:ρ),f' a0 a1=some r->M a0 a1 r)->∀(a0:A1) (a1:B1) (r:ρ),Body f' a0 a1=some r->M a0 a1 r)->∀(a0:A1) (a1:B1) (r:ρ),f a0 a1=some r->M a0 a1 r)
  (round:∀f':A1->B1->Option ρ,(∀(a0:A1) (a1:B1),f' a0 a1=some o->LP C c Q (Γ' a0 a1) (R' a0 a1))->∀(a0:A1) (a1:B1),Body f' a0 a1=some o->WP C c (Exit.then (LoopAt C c Q) Q) (Γ' a0 a1) (R' a0 a1)):
  ∀(a0:A1) (a1:B1),f a0 a1=some o->LP C c Q (Γ' a0 a1) (R' a0 a1):=by
 intro a0 a1 h
 refine pc (fun a0 a1 r=>r=o->LP C c Q (Γ' a0 a1) (R' a0 a1)) ?_ a0 a1 o h rfl
 rintro f' ih a0 a1 r hb rfl
 exact lUnfold (round f' (fun a0 a1 h=>ih a0 a1 _ h rfl) a0 a1 hb)
theorem pc3{A1 B1 D1 ρ:Type} {c:Code} {f:A1->B1->D1->Option ρ} {Body:(A1->B1->D1->Option ρ)->A1->B1->D1->Option ρ}(o:ρ)(Γ':A1->B1->D1->Env)(R':A1->B1->D1->List Res)
  (pc:∀M:A1->B1->D1->ρ->Prop,(∀f':A1->B1->D1->Option ρ,(∀(a0:A1) (a1:B1) (a2:D1) (r:ρ),f' a0 a1 a2=some r->M a0 a1 a2 r)->∀(a0:A1) (a1:B1) (a2:D1) (r:ρ),Body f' a0 a1 a2=some r->M a0 a1 a2 r)->∀(a0:A1) (a1:B1) (a2:D1) (r:ρ),f a0 a1 a2=some r->M a0 a1 a2 r)
  (round:∀f':A1->B1->D1->Option ρ,(∀(a0:A1) (a1:B1) (a2:D1),f' a0 a1 a2=some o->LP C c Q (Γ' a0 a1 a2) (R' a0 a1 a2))->∀(a0:A1) (a1:B1) (a2:D1),Body f' a0 a1 a2=some o->WP C c (Exit.then (LoopAt C c Q) Q) (Γ' a0 a1 a2) (R' a0 a1 a2)):
  ∀(a0:A1) (a1:B1) (a2:D1),f a0 a1 a2=some o->LP C c Q (Γ' a0 a1 a2) (R' a0 a1 a2):=by
 intro a0 a1 a2 h
 refine pc (fun a0 a1 a2 r=>r=o->LP C c Q (Γ' a0 a1 a2) (R' a0 a1 a2)) ?_ a0 a1 a2 o h rfl
 rintro f' ih a0 a1 a2 r hb rfl
 exact lUnfold (round f' (fun a0 a1 a2 h=>ih a0 a1 a2 _ h rfl) a0 a1 a2 hb)
theorem pc4{A1 B1 D1 E1 ρ:Type} {c:Code} {f:A1->B1->D1->E1->Option ρ} {Body:(A1->B1->D1->E1->Option ρ)->A1->B1->D1->E1->Option ρ}(o:ρ)(Γ':A1->B1->D1->E1->Env)(R':A1->B1->D1->E1->List Res)
  (pc:∀M:A1->B1->D1->E1->ρ->Prop,(∀f':A1->B1->D1->E1->Option ρ,(∀(a0:A1) (a1:B1) (a2:D1) (a3:E1) (r:ρ),f' a0 a1 a2 a3=some r->M a0 a1 a2 a3 r)->∀(a0:A1) (a1:B1) (a2:D1) (a3:E1) (r:ρ),Body f' a0 a1 a2 a3=some r->M a0 a1 a2 a3 r)->∀(a0:A1) (a1:B1) (a2:D1) (a3:E1) (r:ρ),f a0 a1 a2 a3=some r->M a0 a1 a2 a3 r)
  (round:∀f':A1->B1->D1->E1->Option ρ,(∀(a0:A1) (a1:B1) (a2:D1) (a3:E1),f' a0 a1 a2 a3=some o->LP C c Q (Γ' a0 a1 a2 a3) (R' a0 a1 a2 a3))->∀(a0:A1) (a1:B1) (a2:D1) (a3:E1),Body f' a0 a1 a2 a3=some o->WP C c (Exit.then (LoopAt C c Q) Q) (Γ' a0 a1 a2 a3) (R' a0 a1 a2 a3)):
  ∀(a0:A1) (a1:B1) (a2:D1) (a3:E1),f a0 a1 a2 a3=some o->LP C c Q (Γ' a0 a1 a2 a3) (R' a0 a1 a2 a3):=by
 intro a0 a1 a2 a3 h
 refine pc (fun a0 a1 a2 a3 r=>r=o->LP C c Q (Γ' a0 a1 a2 a3) (R' a0 a1 a2 a3)) ?_ a0 a1 a2 a3 o h rfl
 rintro f' ih a0 a1 a2 a3 r hb rfl
 exact lUnfold (round f' (fun a0 a1 a2 a3 h=>ih a0 a1 a2 a3 _ h rfl) a0 a1 a2 a3 hb)
theorem pc5{A1 B1 D1 E1 F1 ρ:Type} {c:Code} {f:A1->B1->D1->E1->F1->Option ρ} {Body:(A1->B1->D1->E1->F1->Option ρ)->A1->B1->D1->E1->F1->Option ρ}(o:ρ)(Γ':A1->B1->D1->E1->F1->Env)(R':A1->B1->D1->E1->F1->List Res)
  (pc:∀M:A1->B1->D1->E1->F1->ρ->Prop,(∀f':A1->B1->D1->E1->F1->Option ρ,(∀(a0:A1) (a1:B1) (a2:D1) (a3:E1) (a4:F1) (r:ρ),f' a0 a1 a2 a3 a4=some r->M a0 a1 a2 a3 a4 r)->∀(a0:A1) (a1:B1) (a2:D1) (a3:E1) (a4:F1) (r:ρ),Body f' a0 a1 a2 a3 a4=some r->M a0 a1 a2 a3 a4 r)->∀(a0:A1) (a1:B1) (a2:D1) (a3:E1) (a4:F1) (r:ρ),f a0 a1 a2 a3 a4=some r->M a0 a1 a2 a3 a4 r)
  (round:∀f':A1->B1->D1->E1->F1->Option ρ,(∀(a0:A1) (a1:B1) (a2:D1) (a3:E1) (a4:F1),f' a0 a1 a2 a3 a4=some o->LP C c Q (Γ' a0 a1 a2 a3 a4) (R' a0 a1 a2 a3 a4))->∀(a0:A1) (a1:B1) (a2:D1) (a3:E1) (a4:F1),Body f' a0 a1 a2 a3 a4=some o->WP C c (Exit.then (LoopAt C c Q) Q) (Γ' a0 a1 a2 a3 a4) (R' a0 a1 a2 a3 a4)):
  ∀(a0:A1) (a1:B1) (a2:D1) (a3:E1) (a4:F1),f a0 a1 a2 a3 a4=some o->LP C c Q (Γ' a0 a1 a2 a3 a4) (R' a0 a1 a2 a3 a4):=by
 intro a0 a1 a2 a3 a4 h
 refine pc (fun a0 a1 a2 a3 a4 r=>r=o->LP C c Q (Γ' a0 a1 a2 a3 a4) (R' a0 a1 a2 a3 a4)) ?_ a0 a1 a2 a3 a4 o h rfl
 rintro f' ih a0 a1 a2 a3 a4 r hb rfl
 exact lUnfold (round f' (fun a0 a1 a2 a3 a4 h=>ih a0 a1 a2 a3 a4 _ h rfl) a0 a1 a2 a3 a4 hb)
theorem lW{c:Code} {Γ1:Env}(h:LP C c Q Γ1 R')(hs:Sub Γ1 Γ)(hR:R'=R):LP C c Q Γ R:=by subst hR;exact lWeak hs h
def G.frz(g:G)(b:Nat)(o:Obj):G:=⟨fun k=>if k=b then some o else g.H k,g.nm⟩
theorem jt{g:G} {b:Nat} {o:Obj}(h:g.H b=none):G.le g (g.frz b o):=⟨fun k o' e=>by
 show (if k=b then some o else g.H k)=some o'
 rw[if_neg (fun hk=>by subst hk;rw[h] at e;cases e)];exact e,fun _ _ e=>e⟩
theorem kK(g:G)(b:Nat)(o:Obj):(g.frz b o).H b=some o:=by simp[G.frz]
theorem lJ{g:G} {b k:Nat} {o:Obj}(h:k≠b):(g.frz b o).H k=g.H k:=by simp[G.frz,h]
theorem li{X:Nat->Prop} {H0:FH} {w0 w:World} {g:G} {b:Nat} {o:Obj}(h:Keep X H0 w0 g.H w)(hb:X b\/w0.heap.size<=b)(hn:g.H b=none)(hw:w.heap[b]?=some o):Keep X H0 w0 (g.frz b o).H w:=
 ⟨h.os,h.tape,h.output,h.size,h.block,fun k hk hx=>(lJ (fun e=>by
  subst e
  rcases hb with hb|hb
  ·have:=h.old k hk hx
   rw[hn] at this
   exact hx hb this.symm
  ·omega)).trans (h.old k hk hx),⟨h.agree.base.mono (jt hn).1,fun k o' e=>by
  by_cases hkb:k=b
  ·subst hkb;rw[kK] at e;cases e;exact hw
  ·rw[lJ hkb] at e;exact h.agree k o' e⟩⟩
theorem mi{X:Nat->Prop} {B:Nat} {g:G} {w:World} {n:Nat} {r:Res} {b:Nat} {o:Obj}(h:Own X B g w R)(hr:R[n]?=some r)(hb:r.block g b)(hH:g.H b=none):Own X B (g.frz b o) w (R.eraseIdx n):=by
 have hle:G.le g (g.frz b o):=jt hH
 have hsub:(R.eraseIdx n).Sublist R:=List.eraseIdx_sublist ..
 have h':=h.sub hsub
 have other:∀s∈R.eraseIdx n,¬s.block g b:=by
  intro s hs e
  obtain⟨m,hm⟩:=List.mem_iff_getElem?.1 hs
  have hlt:n<R.length:=(List.getElem?_eq_some_iff.1 hr).1
  have e2:=(List.getElem?_eq_some_iff.1 hr).2
  have hp:=List.pairwise_iff_getElem.1 h.apart
  rw[List.getElem?_eraseIdx] at hm
  split at hm
  ·rename_i hmn
   have hlm:=(List.getElem?_eq_some_iff.1 hm).1
   have e1:=(List.getElem?_eq_some_iff.1 hm).2
   exact hp m n hlm hlt hmn b (by rw[e1];exact e) (by rw[e2];exact hb)
  ·rename_i hmn
   have hlm:=(List.getElem?_eq_some_iff.1 hm).1
   have e1:=(List.getElem?_eq_some_iff.1 hm).2
   exact hp n (m+1) hlt hlm (by omega) b (by rw[e2];exact hb) (by rw[e1];exact e)
 refine⟨fun s hs=>Res.gr hle (Nat.le_refl _) (fun _ _=>rfl) (h'.ok s hs),fun s hs k e=>?_,?_⟩
 ·rw[Res.du hle (h'.ok s hs)] at e
  obtain⟨h1,h2,h3⟩:=h'.at_ s hs k e
  exact⟨by rw[lJ (fun hk=>other s hs (by rw[<-hk];exact e))];exact h1,h2,h3⟩
 ·refine List.Pairwise.imp_of_mem ?_ h'.apart
  intro s t hs ht hst k e
  rw[Res.du hle (h'.ok s hs)] at e
  rw[Res.du hle (h'.ok t ht)]
  exact hst k e
theorem mj{D:List Deferred} {B:Nat} {X:Nat->Prop} {B':Nat} {g:G} {w:World} {n:Nat} {r:Res} {b:Nat} {o:Obj} {ds:List Deferred}(h:Own X B' g w R)(hD:Dfr D B g w R ds)(hr:R[n]?=some r)(hb:r.block g b)(hH:g.H b=none):Dfr D B (g.frz b o) w (R.eraseIdx n) ds:=by
 obtain⟨rs,e,hnd,hrs⟩:=hD
 refine⟨rs,e,hnd,fun q hq=>?_⟩
 obtain⟨h1,h2,h3,h4⟩:=hrs q hq
 have hne:q≠b:=fun e=>h4 r (List.mem_of_getElem? hr) (e▸hb)
 refine⟨h1,(lJ hne).trans h2,h3,fun s hs e'=>?_⟩
 have hs':=(List.eraseIdx_sublist ..).subset hs
 rw[Res.du (jt hH) (h.ok s hs')] at e'
 exact h4 s hs' e'
theorem nu{D:List Deferred} {B:Nat} {X:Nat->Prop} {B':Nat} {g g':G} {w:World} {ds:List Deferred} {r':Res}(h:Own X B' g w R)(hD:Dfr D B g w R ds)(hle:G.le g g')(hb:∀b,¬r'.block g' b)(hH:g'.H=g.H:=by rfl):Dfr D B g' w (r'::R) ds:=by
 obtain⟨rs,e,hnd,hrs⟩:=hD
 refine⟨rs,e,hnd,fun q hq=>?_⟩
 obtain⟨h1,h2,h3,h4⟩:=hrs q hq
 refine⟨h1,by rw[hH];exact h2,h3,fun s hs e'=>?_⟩
 rcases List.mem_cons.1 hs with rfl|hs
 ·exact hb q e'
 ·rw[Res.du hle (h.ok s hs)] at e'
  exact h4 s hs e'
theorem nv{g:G} {w:World} {a:Act} {id:Nat} {v:Value}(s:St C Γ R g w a)(hid:g.nm id=none){i:Nat}(hi:i∈C.pi)(hne:id∉C.pi):(g.name id v).nm i=C.pv i:=by
 rw[io (fun e=>hne (by rw[<-e];exact hi))];exact s.pin i hi
def Leaf.frz{α:Type}(id:Nat)(d:Kd α)(xs:List α):Leaf->Leaf
 |.v i=>match Nat.beq i id with|true=>.d (kL d) xs|false=>.v i
 |l=>l
def Res.frz{α:Type}(id:Nat)(d:Kd α)(xs:List α):Res->Res
 |.box i T ls=>.box i T (ls.map (Leaf.frz id d xs))
 |r=>r
theorem j5{α:Type} {id:Nat} {d:Kd α} {xs:List α} {g:G}(h:∀v,g.nm id=some v->((kL d).sig xs).p g.H v):∀{ls:List Leaf} {cs:List Value},leafs ls g cs->leafs (ls.map (Leaf.frz id d xs)) g cs
 |[],_,h'=>h'
 |.d k x::ls,_,⟨c1,c2,e,h1,h2⟩=>⟨c1,c2,e,h1,j5 h h2⟩
 |.o i::ls,_,⟨c1,c2,e,h1,h2⟩=>⟨c1,c2,e,h1,j5 h h2⟩
 |.v i::ls,_,⟨c1,c2,e,h1,h2⟩=>by
  refine⟨c1,c2,e,?_,j5 h h2⟩
  show (Leaf.frz id d xs (.v i)).ok g c1
  simp only[Leaf.frz]
  cases hb:Nat.beq i id with
  |false=>exact h1
  |true=>
   have hi:=Nat.eq_of_beq_eq_true hb
   subst hi
   obtain⟨v,h0,he,_⟩:=h1
   obtain⟨cs,hr,hv⟩:=h v h0
   have hcs:cs=c1:=by
    obtain⟨A,c,hc,_⟩:=hr
    subst hc
    rw[he,hv];rfl
   subst hcs
   exact hr
theorem own_map{X:Nat->Prop} {B:Nat} {g:G} {w:World} {α:Type} {id:Nat} {d:Kd α} {xs:List α}(hf:∀v,g.nm id=some v->((kL d).sig xs).p g.H v)(h:Own X B g w R):Own X B g w (R.map (Res.frz id d xs)):=by
 have hb:∀r:Res,(r.frz id d xs).block g=r.block g:=fun r=>by cases r<;>rfl
 refine⟨fun r hr=>?_,fun r hr b e=>?_,?_⟩
 ·obtain⟨r0,h0,rfl⟩:=List.mem_map.1 hr
  have:=h.ok r0 h0
  cases r0 with
  |box i T ls=>obtain⟨b,cs,h1,h2,h3⟩:=this;exact⟨b,cs,h1,h2,j5 hf h3⟩
  |row i T d' xs'=>exact this
  |abs i A s=>exact this
 ·obtain⟨r0,h0,rfl⟩:=List.mem_map.1 hr
  rw[hb] at e
  exact h.at_ r0 h0 b e
 ·rw[List.pairwise_map]
  refine h.apart.imp ?_
  intro r s hrs b e
  rw[hb] at e⊢
  exact hrs b e
theorem dfr_map{D:List Deferred} {B:Nat} {g:G} {w:World} {α:Type} {id:Nat} {d:Kd α} {xs:List α} {ds:List Deferred}(h:Dfr D B g w R ds):Dfr D B g w (R.map (Res.frz id d xs)) ds:=by
 obtain⟨rs,e,hnd,hrs⟩:=h
 refine⟨rs,e,hnd,fun q hq=>?_⟩
 obtain⟨h1,h2,h3,h4⟩:=hrs q hq
 refine⟨h1,h2,h3,fun s hs e'=>?_⟩
 obtain⟨r0,h0,rfl⟩:=List.mem_map.1 hs
 exact h4 r0 h0 (by cases r0<;>exact e')
def LookV:List Nat->Nat->Env->Prop
 |[],_,_=>True
 |t::r,id,Γ=>look Γ t=some (.v id)/\LookV r id Γ
theorem mD:∀{ts:List Nat} {id:Nat},LookV ts id Γ->∀t∈ts,look Γ t=some (.v id)
 |t::r,id,⟨h,k⟩,u,hu=>by
  rcases List.mem_cons.1 hu with rfl|hu
  ·exact h
  ·exact mD k u hu
theorem ny{e:Ent}:∀{ts:List Nat} {t:Nat},look (ts.map (fun u=>(u,e))++Γ) t=if t∈ts then some e else look Γ t
 |[],t=>by simp
 |u::r,t=>by
  rw[List.map_cons,List.cons_append,eD,ny]
  by_cases h:u=t
  ·subst h;simp
  ·have:¬t=u:=fun e=>h e.symm
   simp[h,this]
theorem frzR{α:Type} {d:Kd α} {xs:List α} {n id:Nat} {E:TypeId} {K:Act->World->Prop}(ts:List Nat)(hr:R[n]?=some (.row id E d xs))(hX:0=0)(ht:LookV ts id Γ)
  (h:∀g w a,St C (ts.map (fun t=>(t,.d ((kL d).sig xs)))++Γ) ((R.eraseIdx n).map (Res.frz id d xs)) g w a->K a w):∀g w a,St C Γ R g w a->K a w:=by
 intro g w a s
 obtain⟨v,cells,hv,hrow,hro,hl⟩:=s.own.get hr
 have fin:∀g':G,g'.nm=g.nm->G.le g g'->Keep C.X C.H0 C.w0 g'.H w->Own C.X C.w0.heap.size g' w (R.eraseIdx n)->((kL d).sig xs).p g'.H v->Dfr C.ds C.B g' w (R.eraseIdx n) a.defers->K a w:=by
  intro g' hnm hle hk ho hsig hD
  have hv':g'.nm id=some v:=hle.2 _ _ hv
  refine h g' w a ⟨s.size,dfr_map hD,hk,fun t e he=>?_,own_map (fun u hu=>by rw[hv'] at hu;cases hu;exact hsig) ho,fun i hi=>?_⟩
  rotate_left
  ·cases hg:g.nm i with
   |some x=>rw[hle.2 _ _ hg,<-hg];exact s.pin i hi
   |none=>rw[hnm,<-s.pin i hi]
  rw[ny] at he
  split at he
  ·rename_i hmem
   cases he
   have:g'.nm id=some (a.tmps.getD t undef):=hle.2 _ _ (s.sat t _ (mD ht t hmem))
   rw[hv'] at this;cases this
   exact hsig
  ·exact Ent.mono hle (s.sat t e he)
 rcases hrow.2 with ⟨rfl,hn⟩|⟨b,cap,cur,rfl,_,hb,hnc,hcm,hcs,htk⟩
 ·obtain rfl:=List.eq_nil_of_length_eq_zero hn
  exact fin g rfl (G.le.refl g) s.keep (s.own.sub (List.eraseIdx_sublist ..)) (kL_sig.2 ⟨none,0,rfl,Nat.le_refl _,by omega,hl,.inl rfl⟩) (s.defers.same (fun r hr=>(List.eraseIdx_sublist ..).subset hr))
 ·have hblk:(Res.row id E d xs).block g b:=by simp only[Res.block,hv];rfl
  obtain⟨h1,h2,h3⟩:=s.own.at_ _ (List.mem_of_getElem? hr) b hblk
  refine fin (g.frz b _) rfl (jt h1) (li s.keep h3 h1 hb) (mi s.own hr hblk h1) (kL_sig.2 ⟨some ⟨b,0,none⟩,cap,rfl,hnc,by unfold maxLen at hcm;omega,hl,.inr ⟨b,0,cur,E,(0,0),rfl,kK ..,?_⟩⟩) (mj s.own s.defers hr hblk h1)
  rw[List.drop_zero,htk]
  exact hro.mono (jt h1).1
@[reducible] def frzG(e:Ent):List Nat->Env->Env
 |[],Γ=>Γ
 |t::ts,Γ=>(t,e)::frzG e ts Γ
theorem frzG_eq{e:Ent}:∀{ts:List Nat} {Γ:Env},frzG e ts Γ=ts.map (fun t=>(t,e))++Γ
 |[],_=>rfl
 |t::ts,Γ=>by
  show (t,e)::frzG e ts Γ=_
  rw[frzG_eq (e:=e)];rfl
theorem wFrzR{α:Type} {d:Kd α} {xs:List α} {n id:Nat} {E:TypeId} {c:Code}(ts:List Nat)(hr:R[n]?=some (.row id E d xs))(hX:0=0)(ht:LookV ts id Γ)
  (h:WP C c Q (frzG (.d ((kL d).sig xs)) ts Γ) ((R.eraseIdx n).map (Res.frz id d xs))):WP C c Q Γ R:=frzR (K:=CW C c Q) ts hr hX ht (frzG_eq▸h)
theorem pFrzR{α:Type} {d:Kd α} {xs:List α} {n id:Nat} {E:TypeId} {e:Exit}(ts:List Nat)(hr:R[n]?=some (.row id E d xs))(hX:0=0)(ht:LookV ts id Γ)
  (h:Post C Q e (frzG (.d ((kL d).sig xs)) ts Γ) ((R.eraseIdx n).map (Res.frz id d xs))):Post C Q e Γ R:=frzR (K:=Q e) ts hr hX ht (frzG_eq▸h)
theorem wFrzV{α:Type} {d:Kd α} {u:α} {n id:Nat} {T:TypeId} {c:Code}(t:Nat)(hr:R[n]?=some (.box id T [.d d u]))(hX:0=0)(ht:look Γ t=some (.p id 0))
  (h:WP C c Q ((t,.d (sP d u))::Γ) (R.eraseIdx n)):WP C c Q Γ R:=by
 intro g w a s
 obtain⟨b,cs,hb,hh,c1,c2,hl,hd,h0⟩:=s.own.get hr
 have hblk:(Res.box id T [.d d u]).block g b:=by simp only[Res.block,hb]
 obtain⟨h1,h2,h3⟩:=s.own.at_ _ (List.mem_of_getElem? hr) b hblk
 have hle:G.le g (g.frz b (.cells cs T (0,0))):=jt h1
 refine h (g.frz b (.cells cs T (0,0))) w a ⟨s.size,mj s.own s.defers hr hblk h1,li s.keep h3 h1 hh,fun t' e he=>?_,mi s.own hr hblk h1,s.pin⟩
 rw[eD] at he
 by_cases htt:t=t'
 ·rw[if_pos htt] at he;cases he
  subst htt
  obtain⟨b',hb',e'⟩:=s.sat t _ ht
  rw[hb] at hb';cases hb'
  refine⟨b,0,cs,T,(0,0),e',kK ..,?_⟩
  have hd':d.reps g.H c1 u:=hd
  rw[show c2=[] from h0,List.append_nil] at hl
  rw[List.drop_zero,hl,List.take_of_length_le (by have:=d.len hd';omega)]
  exact d.mono hle.1 hd'
 ·rw[if_neg htt] at he
  exact Ent.mono hle (s.sat t' e he)
def sV(v:Value):Sig:=⟨fun _ u=>u=v,fun _ h=>h⟩
theorem cV{v:Value}:Opd (.const v) (.d (sV v)) []:=fun g a _=>rfl
theorem wNil{α:Type}(d:Kd α)(E:TypeId)(id t:Nat){c:Code}(ht:look Γ t=some (.d (sV (.slice none 0 0))))(hf:memB id (C.pi++used Γ R)=false)(h:WP C c Q ((t,.v id)::Γ) (.row id E d []::R)):WP C c Q Γ R:=by
 intro g w a s
 have s':=s.only
 have hid:(g.only (C.pi++used Γ R)).nm id=none:=iF (fun hm=>by rw[memB_iff.2 hm] at hf;cases hf)
 have hle:G.le (g.only (C.pi++used Γ R)) ((g.only (C.pi++used Γ R)).name id (.slice none 0 0)):=gY hid
 refine h ((g.only (C.pi++used Γ R)).name id (.slice none 0 0)) w a ⟨s.size,nu s'.own s'.defers hle (fun b e=>by simp only[Res.block,dQ,Option.bind_some] at e;cases e),s'.keep,fun t' e he=>?_,?_,fun i hi=>nv s' hid hi (fun hm=>by rw[memB_iff.2 (List.mem_append_left _ hm)] at hf;cases hf)⟩
 ·rw[eD] at he
  by_cases htt:t=t'
  ·rw[if_pos htt] at he;cases he
   subst htt
   have:a.tmps.getD t undef=.slice none 0 0:=s.sat t _ ht
   show ((g.only (C.pi++used Γ R)).name id (.slice none 0 0)).nm id=some _
   rw[this];exact dQ ..
  ·rw[if_neg htt] at he
   exact Ent.mono hle (s'.sat t' e he)
 ·refine Own.add (s'.own.mono hle (Nat.le_refl _) (fun _ _ _=>rfl) (fun _ _ e=>e)) ⟨.slice none 0 0,[],dQ ..,⟨by simp,.inl ⟨rfl,rfl⟩⟩,⟨by simp,by simp⟩,by simp⟩ ?_
  intro b e
  simp only[Res.block,dQ,Option.bind_some] at e
  cases e
inductive RV(P:Program)(Γ:Env)(R:List Res):List ResultVar->List Sig->Prop where
 |nil:RV P Γ R [] []
 |tmp {t:Nat} {s:Sig} {rs:List ResultVar} {ss:List Sig} (hl:look Γ t=some (.d s)) (k:RV P Γ R rs ss):RV P Γ R (.tmp t::rs) (s::ss)
 |box {S:Type} {fs:List (Fld S)} {u:S} {p n id:Nat} {T T0:TypeId} {ls:List Leaf} {rs:List ResultVar} {ss:List Sig} (hl:look Γ p=some (.p id 0)) (hr:R[n]?=some (.box id T0 ls)) (ha:allD ls fs u) (hi:tinf P T=some (true,szF fs)) (k:RV P Γ R rs ss):RV P Γ R (.cell p T::rs) ((kR fs).sig u::ss)
 |boxV {α:Type} {d:Kd α} {u:α} {p n id:Nat} {T T0:TypeId} {rs:List ResultVar} {ss:List Sig} (hl:look Γ p=some (.p id 0)) (hr:R[n]?=some (.box id T0 [.d d u])) (hi:tinf P T=some (d.agg,d.sz)) (k:RV P Γ R rs ss):RV P Γ R (.cell p T::rs) (d.sig u::ss)
 |boxP {α:Type} {d:Kd α} {u:α} {p n id:Nat} {T T0:TypeId} {ls l2:List Leaf} {rs:List ResultVar} {ss:List Sig} (hl:look Γ p=some (.p id 0)) (hr:R[n]?=some (.box id T0 ls)) (hp:∀(g:G) cs,leafs l2 g cs↔d.reps g.H cs u) (he:ls=l2) (hi:tinf P T=some (d.agg,d.sz)) (k:RV P Γ R rs ss):RV P Γ R (.cell p T::rs) (d.sig u::ss)
 |froz {α:Type} {d:Kd α} {u:α} {p:Nat} {T:TypeId} {rs:List ResultVar} {ss:List Sig} (hl:look Γ p=some (.d (sP d u))) (hi:tinf P T=some (d.agg,d.sz)) (k:RV P Γ R rs ss):RV P Γ R (.cell p T::rs) (d.sig u::ss)
theorem iv{P:Program} {w:World} {b off:Nat} {T:TypeId} {ag:Bool} {n:Nat} {cells:Array Value} {t:TypeId} {fr:Nat×Nat} {ls:List Value}
  (hi:tinf P T=some (ag,n)) (h1:ag=false->n=1) (hb:w.heap[b]?=some (.cells cells t fr)) (hl:(cells.toList.drop off).take n=ls) (hn:ls.length=n):
  (loadVar T ⟨b,off,none⟩).run P w=.ok (mkv ag ls) w:=by
 have:=ie (P:=P) (w:=w) hi h1 hb hl hn
 simpa only[Instr.loadAt,Instr.sureAddr,Sem.run_bind,Sem.run_pure,Result.andThen_ok] using this
theorem rv_run{P:Program} {g:G} {w:World} {a:Act}(s:St C Γ R g w a)(f:ResultVar->Sem Value)(hf:∀u,f (.tmp u)=pure (a.tmps.getD u undef))(hc:∀p t,f (.cell p t)=(do loadVar t (<-asAddr (a.tmps.getD p undef)))):
  ∀{rs:List ResultVar} {ss:List Sig},RV P Γ R rs ss->∃vs,(rs.mapM f).run P w=.ok vs w/\Sats ss g.H vs:=by
 intro rs ss h
 induction h with
 |nil=>exact⟨[],by simp,rfl⟩
 |tmp hl k ih=>
  obtain⟨vs,h1,h2⟩:=ih
  rename_i t s0 _ _
  exact⟨a.tmps.getD t undef::vs,by simp[List.mapM_cons,hf,h1],_,_,rfl,s.sat t _ hl,h2⟩
 | @box S fs u p n id T T0 ls rs ss hl hr ha hi k ih=>
  obtain⟨vs,h1,h2⟩:=ih
  obtain⟨b,hb,e⟩:=s.sat p _ hl
  obtain⟨b',cs,hb',hh,hlf⟩:=s.own.get hr
  rw[hb] at hb';cases hb'
  have hrep:=kw ha hlf
  have hlen:=jI fs hrep
  have hrun:=iv (P:=P) (w:=w) (off:=0) hi (fun h=>by cases h) hh (ls:=cs.toList) (by rw[List.drop_zero,List.take_of_length_le (by omega)]) hlen
  exact⟨mkv true cs.toList::vs,by rw[List.mapM_cons,hc,e];simp[asAddr,hrun,h1],_,_,rfl,⟨_,hrep,rfl⟩,h2⟩
 | @boxV α d u p n id T T0 rs ss hl hr hi k ih=>
  obtain⟨vs,h1,h2⟩:=ih
  obtain⟨b,hb,e⟩:=s.sat p _ hl
  obtain⟨b',cs,hb',hh,c1,c2,hlf,hd,h0⟩:=s.own.get hr
  rw[hb] at hb';cases hb'
  have hd':d.reps g.H c1 u:=hd
  rw[show c2=[] from h0,List.append_nil] at hlf
  have hlen:=d.len hd'
  have hrun:=iv (P:=P) (w:=w) (off:=0) hi d.one hh (ls:=c1) (by rw[List.drop_zero,hlf,List.take_of_length_le (by omega)]) hlen
  exact⟨mkv d.agg c1::vs,by rw[List.mapM_cons,hc,e];simp[asAddr,hrun,h1],_,_,rfl,⟨_,hd',rfl⟩,h2⟩
 | @boxP α d u p n id T T0 ls l2 rs ss hl hr hp he hi k ih=>
  obtain⟨vs,h1,h2⟩:=ih
  obtain⟨b,hb,e⟩:=s.sat p _ hl
  obtain⟨b',cs,hb',hh,hlf⟩:=s.own.get hr
  rw[hb] at hb';cases hb'
  have hd':d.reps g.H cs.toList u:=(hp g _).1 (he▸hlf)
  have hlen:=d.len hd'
  have hrun:=iv (P:=P) (w:=w) (off:=0) hi d.one hh (ls:=cs.toList) (by rw[List.drop_zero,List.take_of_length_le (by omega)]) hlen
  exact⟨mkv d.agg cs.toList::vs,by rw[List.mapM_cons,hc,e];simp[asAddr,hrun,h1],_,_,rfl,⟨_,hd',rfl⟩,h2⟩
 | @froz α d u p T rs ss hl hi k ih=>
  obtain⟨vs,h1,h2⟩:=ih
  obtain⟨b,off,cells,t,fr,e,hb,hr⟩:=s.sat p _ hl
  have hrun:=iv (P:=P) (w:=w) (off:=off) hi d.one (s.keep.agree b _ hb) rfl (d.len hr)
  exact⟨mkv d.agg _::vs,by rw[List.mapM_cons,hc,e];simp[asAddr,hrun,h1],_,_,rfl,⟨_,hr,rfl⟩,h2⟩
theorem lL(fn:Func)(tmps:Array Value)(f:ResultVar->Sem Value)(hf:∀u,f (.tmp u)=pure (tmps.getD u undef))(hc:∀p t,f (.cell p t)=(do loadVar t (<-asAddr (tmps.getD p undef)))):
  results fn tmps=(do let vs<-fn.results.mapM f;pure (if h:vs.size=1 then vs[0] else .tuple vs)):=by
 unfold results
 congr 1
 congr 1
 funext x
 cases x with
 |tmp t=>exact(hf t).symm
 |cell p t=>exact(hc p t).symm
def resF(tmps:Array Value):ResultVar->Sem Value
 |.tmp u=>pure (tmps.getD u undef)
 |.cell p t=>do loadVar t (<-asAddr (tmps.getD p undef))
theorem ip{P:Program} {fn:Func} {g:G} {w:World} {a:Act}(s:St C Γ R g w a){rs:List ResultVar} {ss:List Sig}(hr:fn.results.toList=rs)(h:RV P Γ R rs ss):
  ∃vs:List Value,Sats ss g.H vs/\(results fn a.tmps).run P w=.ok (if h:vs.toArray.size=1 then vs.toArray[0] else .tuple vs.toArray) w:=by
 obtain⟨vs,h1,h2⟩:=rv_run (P:=P) s (resF a.tmps) (fun _=>rfl) (fun _ _=>rfl) h
 refine⟨vs,h2,?_⟩
 have hr':fn.results=rs.toArray:=by rw[<-hr]
 rw[lL fn a.tmps (resF a.tmps) (fun _=>rfl) (fun _ _=>rfl),hr',List.mapM_toArray]
 simp only[Sem.run_bind,Sem.run_map,h1,Result.andThen_ok,Sem.run_pure]
theorem pR1{fn:Func} {out:Sig} {r:ResultVar} {e:Exit}(he:e=.ret\/e=.normal)(hr:fn.results.toList=[r])(h:RV C.P Γ R [r] [out])(hrd:C.rd=none:=by rfl)(hds:C.ds=[]:=by rfl):Post C (BP C fn (Ret C.X C.H0 C.w0 out)) e Γ R:=by
 refine pLeave he (fun g w tm s=>?_) hrd hds
 obtain⟨vs,⟨v,vr,e1,h1,h2⟩,hrun⟩:=ip s hr h
 rw[show vr=[] from h2] at e1
 subst e1
 exact⟨v,by simpa using hrun,v,g.H,rfl,s.keep,h1⟩
theorem pRn{fn:Func} {ss:List Sig} {rs:List ResultVar} {e:Exit}(he:e=.ret\/e=.normal)(hr:fn.results.toList=rs)(hl:(ss.length==1)=false)(h:RV C.P Γ R rs ss)(hrd:C.rd=none:=by rfl)(hds:C.ds=[]:=by rfl):Post C (BP C fn (Ret C.X C.H0 C.w0 (tup ss))) e Γ R:=by
 refine pLeave he (fun g w tm s=>?_) hrd hds
 obtain⟨vs,h1,hrun⟩:=ip s hr h
 have hn:¬vs.toArray.size=1:=by
  have:=iB h1
  simpa [this] using hl
 rw[dif_neg hn] at hrun
 exact⟨_,hrun,_,g.H,rfl,s.keep,vs,rfl,h1⟩
end
end Go.Proofs.YtmjcpkmongafnaaGreatDoor.Ab
