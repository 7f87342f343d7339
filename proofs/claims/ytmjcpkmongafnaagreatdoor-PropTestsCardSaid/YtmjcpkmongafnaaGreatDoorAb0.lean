import Derived.Test.YtmjcpkmongafnaaGreatDoorAbB
set_option linter.unusedVariables false
set_option linter.unusedSimpArgs false
namespace Go.Proofs.YtmjcpkmongafnaaGreatDoor.Ab
open Go Go.RowKit
theorem FH.le.refl(H:FH):FH.le H H:=fun _ _ h=>h
theorem FH.le.trans{A B C:FH}(h:FH.le A B)(k:FH.le B C):FH.le A C:=fun b o e=>k b o (h b o e)
structure Agree(H:FH)(w:World):Prop where
 base:Base H
 at_:∀b o,H b=some o->w.heap[b]?=some o
instance{H:FH} {w:World}:CoeFun (Agree H w) (fun _=>∀b o,H b=some o->w.heap[b]?=some o):=⟨Agree.at_⟩
theorem Agree.lt{H:FH} {w:World}(h:Agree H w){b:Nat} {o:Obj}(e:H b=some o):b<w.heap.size:=(Array.getElem?_eq_some_iff.1 (h b o e)).1
theorem Agree.none{H:FH} {w:World}(h:Agree H w){b:Nat}(hb:w.heap.size<=b):H b=none:=by
 cases e:H b with
 |none=>rfl
 |some o=>exact absurd (h.lt e) (by omega)
structure Keep(X:Nat->Prop)(H:FH)(w:World)(H':FH)(w':World):Prop where
 os:w'.os=w.os
 tape:w'.tape=w.tape
 output:w'.output=w.output
 size:w.heap.size<=w'.heap.size
 block:∀b,b<w.heap.size->¬X b->w'.heap[b]?=w.heap[b]?
 old:∀b,b<w.heap.size->(X b->H b≠none)->H' b=H b
 agree:Agree H' w'
def No:Nat->Prop:=fun _=>False
theorem Keep.refl{X:Nat->Prop} {H:FH} {w:World}(h:Agree H w):Keep X H w H w:=⟨rfl,rfl,rfl,Nat.le_refl _,fun _ _ _=>rfl,fun _ _ _=>rfl,h⟩
theorem Keep.mono{X Y:Nat->Prop} {A B:FH} {a b:World}(h:Keep X A a B b)(hXY:∀i,i<a.heap.size->X i->Y i):Keep Y A a B b:=
 ⟨h.os,h.tape,h.output,h.size,fun i hi hx=>h.block i hi (fun hX=>hx (hXY i hi hX)),fun i hi hx=>h.old i hi (fun hX=>hx (hXY i hi hX)),h.agree⟩
theorem Keep.le{X:Nat->Prop} {A B:FH} {a b:World}(h:Keep X A a B b)(hA:Agree A a):FH.le A B:=fun i o e=>(h.old i (hA.lt e) (fun _ hn=>by rw[e] at hn;cases hn)).trans e
theorem Keep.below{A B:FH} {a b:World}(h:Keep No A a B b):Below a.heap.size a b:=⟨h.os,h.tape,h.output,h.size,fun i hi=>h.block i hi (fun x=>x)⟩
theorem Keep.step{X Y:Nat->Prop} {A B C:FH} {a b c:World}(h:Keep X A a B b)(k:Keep Y B b C c)(hY:∀i,Y i->X i\/a.heap.size<=i):Keep X A a C c:=
 ⟨k.os.trans h.os,k.tape.trans h.tape,k.output.trans h.output,Nat.le_trans h.size k.size,
  fun i hi hx=>(k.block i (Nat.lt_of_lt_of_le hi h.size) (fun hy=>(hY i hy).elim hx (fun hle=>by omega))).trans (h.block i hi hx),
  fun i hi hx=>(k.old i (Nat.lt_of_lt_of_le hi h.size) (fun hy=>(hY i hy).elim (fun x=>by rw[h.old i hi hx];exact hx x) (fun hle=>by omega))).trans (h.old i hi hx),k.agree⟩
structure Sig where
 p:FH->Value->Prop
 mono:∀{H H':FH} {v:Value},FH.le H H'->p H v->p H' v
def mkv(agg:Bool)(cs:List Value):Value:=match agg with|true=>.agg cs.toArray|false=>cs.headD undef
structure Kd(α:Type) where
 sz:Nat
 agg:Bool
 reps:FH->List Value->α->Prop
 mono:∀{H H':FH} {cs:List Value} {x:α},FH.le H H'->reps H cs x->reps H' cs x
 len:∀{H:FH} {cs:List Value} {x:α},reps H cs x->cs.length=sz
 ok:∀{H:FH} {cs:List Value} {x:α},reps H cs x->∀c∈cs,c.oneCell'=true
 one:agg=false->sz=1
def Kd.sig{α:Type}(d:Kd α)(x:α):Sig:=⟨fun H v=>∃cs,d.reps H cs x/\v=mkv d.agg cs,fun h ⟨cs,hr,e⟩=>⟨cs,d.mono h hr,e⟩⟩
theorem kz{v:Value}(h:v.oneCell'=true):v.cells= #[v]:=by cases v<;>simp_all [Value.oneCell',Value.cells]
theorem Kd.gD{α:Type}(d:Kd α){H:FH} {cs:List Value} {x:α}(h:d.reps H cs x):(mkv d.agg cs).cells=cs.toArray:=by
 cases hd:d.agg with
 |true=>rfl
 |false=>
  have hl:=d.len h
  rw[d.one hd] at hl
  match cs,hl with
  |[c],_=>exact kz (d.ok h c (by simp))
def InR(k:IntKind)(x:Int):Prop:=k.min<=x/\x<=k.max
instance(k:IntKind)(x:Int):Decidable (InR k x):=inferInstanceAs (Decidable (_/\_))
def kI(k:IntKind):Kd Int:=⟨1,false,fun _ cs x=>cs=[.int k x]/\InR k x,fun _ h=>h,fun h=>by rw[h.1];rfl,fun h c hc=>by rw[h.1] at hc;simp at hc;subst hc;rfl,fun _=>rfl⟩
def kB:Kd Bool:=⟨1,false,fun _ cs x=>cs=[.bool x],fun _ h=>h,fun h=>by rw[h];rfl,fun h c hc=>by rw[h] at hc;simp at hc;subst hc;rfl,fun _=>rfl⟩
def kS:Kd Str:=⟨1,false,fun _ cs x=>cs=[.string ⟨⟨x⟩⟩]/\x.length<=9223372036854775807,fun _ h=>h,fun h=>by rw[h.1];rfl,fun h c hc=>by rw[h.1] at hc;simp at hc;subst hc;rfl,fun _=>rfl⟩
theorem kI_sig{k:IntKind} {x:Int} {H:FH} {v:Value}:((kI k).sig x).p H v↔v=.int k x/\InR k x:=
 ⟨fun⟨cs,⟨h1,h2⟩,e⟩=>⟨by rw[e,h1];rfl,h2⟩,fun⟨e,h⟩=>⟨[.int k x],⟨rfl,h⟩,e⟩⟩
theorem kB_sig{x:Bool} {H:FH} {v:Value}:(kB.sig x).p H v↔v=.bool x:=
 ⟨fun⟨cs,h1,e⟩=>by rw[e,h1];rfl,fun e=>⟨[.bool x],rfl,e⟩⟩
theorem kS_sig{x:Str} {H:FH} {v:Value}:(kS.sig x).p H v↔v=.string ⟨⟨x⟩⟩/\x.length<=9223372036854775807:=
 ⟨fun⟨cs,⟨h1,h2⟩,e⟩=>⟨by rw[e,h1];rfl,h2⟩,fun⟨e,h⟩=>⟨[.string ⟨⟨x⟩⟩],⟨rfl,h⟩,e⟩⟩
def RowOf{α:Type}(d:Kd α)(H:FH)(cs:List Value)(xs:List α):Prop:=
 cs.length=xs.length*d.sz/\∀j x,xs[j]?=some x->d.reps H ((cs.drop (j*d.sz)).take d.sz) x
theorem RowOf.mono{α:Type} {d:Kd α} {H H':FH} {cs:List Value} {xs:List α}(h:FH.le H H')(hr:RowOf d H cs xs):RowOf d H' cs xs:=⟨hr.1,fun j x e=>d.mono h (hr.2 j x e)⟩
def SliceAt{α:Type}(d:Kd α)(H:FH)(A:Option Addr)(xs:List α):Prop:=
 xs=[]\/∃b off cells t fr,A=some ⟨b,off,none⟩/\H b=some (.cells cells t fr)/\RowOf d H ((cells.toList.drop off).take (xs.length*d.sz)) xs
theorem SliceAt.mono{α:Type} {d:Kd α} {H H':FH} {A:Option Addr} {xs:List α}(h:FH.le H H'):SliceAt d H A xs->SliceAt d H' A xs
 |.inl e=>.inl e
 |.inr ⟨b,off,cells,t,fr,e,hb,hr⟩=>.inr ⟨b,off,cells,t,fr,e,h _ _ hb,hr.mono h⟩
def big:Nat:=140737488355328
def kL{α:Type}(d:Kd α):Kd (List α):=⟨1,false,
 fun H cs xs=>∃A c,cs=[.slice A xs.length c]/\xs.length<=c/\c<=9223372036854775807/\xs.length<=big/\SliceAt d H A xs,
 fun h ⟨A,c,e,h1,h2,h3,h4⟩=>⟨A,c,e,h1,h2,h3,h4.mono h⟩,fun⟨A,c,e,_⟩=>by rw[e];rfl,
 fun⟨A,c',e,_⟩ c hc=>by rw[e] at hc;simp at hc;subst hc;rfl,fun _=>rfl⟩
theorem kL_sig{α:Type} {d:Kd α} {xs:List α} {H:FH} {v:Value}:((kL d).sig xs).p H v↔∃A c,v=.slice A xs.length c/\xs.length<=c/\c<=9223372036854775807/\xs.length<=big/\SliceAt d H A xs:=
 ⟨fun⟨cs,⟨A,c,e1,r⟩,e⟩=>⟨A,c,by rw[e,e1];rfl,r⟩,fun⟨A,c,e,r⟩=>⟨[.slice A xs.length c],⟨A,c,rfl,r⟩,e⟩⟩
structure Fld(S:Type) where
 {α:Type}
 d:Kd α
 get:S->α
def repsF{S:Type}:List (Fld S)->FH->List Value->S->Prop
 |[],_,cs,_=>cs=[]
 |f::fs,H,cs,x=>∃c1 c2,cs=c1++c2/\f.d.reps H c1 (f.get x)/\repsF fs H c2 x
def szF{S:Type}:List (Fld S)->Nat
 |[]=>0
 |f::fs=>f.d.sz+szF fs
theorem lR{S:Type}:∀(fs:List (Fld S)) {H H':FH} {cs:List Value} {x:S},FH.le H H'->repsF fs H cs x->repsF fs H' cs x
 |[],_,_,_,_,_,h=>h
 |f::fs,_,_,_,_,hl,⟨c1,c2,e,h1,h2⟩=>⟨c1,c2,e,f.d.mono hl h1,lR fs hl h2⟩
theorem jI{S:Type}:∀(fs:List (Fld S)) {H:FH} {cs:List Value} {x:S},repsF fs H cs x->cs.length=szF fs
 |[],_,_,_,h=>by rw[show _=[] from h];rfl
 |f::fs,_,_,_,⟨c1,c2,e,h1,h2⟩=>by rw[e,List.length_append,f.d.len h1,jI fs h2];rfl
theorem repsF_ok{S:Type}:∀(fs:List (Fld S)) {H:FH} {cs:List Value} {x:S},repsF fs H cs x->∀c∈cs,c.oneCell'=true
 |[],_,_,_,h,c,hc=>by rw[show _=[] from h] at hc;simp at hc
 |f::fs,_,_,_,⟨c1,c2,e,h1,h2⟩,c,hc=>by
  rw[e,List.mem_append] at hc
  exact hc.elim (f.d.ok h1 c) (repsF_ok fs h2 c)
def kR{S:Type}(fs:List (Fld S)):Kd S:=⟨szF fs,true,repsF fs,lR fs,jI fs,repsF_ok fs,fun h=>by simp at h⟩
def offF{S:Type}:List (Fld S)->Nat->Nat
 |[],_=>0
 |_::_,0=>0
 |f::fs,j+1=>f.d.sz+offF fs j
theorem repsF_at{S:Type}:∀(fs:List (Fld S)) (j:Nat) (f:Fld S) {H:FH} {cs:List Value} {x:S},fs[j]?=some f->repsF fs H cs x->f.d.reps H ((cs.drop (offF fs j)).take f.d.sz) (f.get x)
 |[],_,_,_,_,_,h,_=>by simp at h
 |g::fs,0,f,H,cs,x,h,⟨c1,c2,e,h1,h2⟩=>by
  simp at h;subst h
  rw[e,offF,List.drop_zero,List.take_left' (g.d.len h1)];exact h1
 |g::fs,j+1,f,H,cs,x,h,⟨c1,c2,e,h1,h2⟩=>by
  have:=repsF_at fs j f (by simpa using h) h2
  rw[e,offF,<-g.d.len h1,List.drop_length_add_append];exact this
end Go.Proofs.YtmjcpkmongafnaaGreatDoor.Ab
