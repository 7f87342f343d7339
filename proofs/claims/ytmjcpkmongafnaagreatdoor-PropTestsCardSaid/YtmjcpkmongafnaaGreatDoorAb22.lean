import Derived.Test.YtmjcpkmongafnaaGreatDoorAb21
set_option linter.unusedVariables false
set_option linter.unusedSimpArgs false
namespace Go.Proofs.YtmjcpkmongafnaaGreatDoor.Ab
open Go Go.RowKit
theorem jl{α:Type} {L vs:List α} {p i:Nat}(h:p+vs.length<=L.length):(L.take p++vs++L.drop (p+vs.length))[i]?=if i<p then L[i]? else if i<p+vs.length then vs[i-p]? else L[i]?:=by
 have hp:(L.take p).length=p:=by rw[List.length_take];omega
 by_cases h1:i<p
 ·rw[if_pos h1,List.append_assoc,List.getElem?_append_left (by omega),List.getElem?_take,if_pos h1]
 ·rw[if_neg h1]
  by_cases h2:i<p+vs.length
  ·rw[if_pos h2,List.append_assoc,List.getElem?_append_right (by omega),hp,List.getElem?_append_left (by omega)]
  ·rw[if_neg h2,List.getElem?_append_right (by rw[List.length_append];omega),List.length_append,hp,List.getElem?_drop]
   congr 1;omega
theorem oW{α:Type} {L vs:List α} {sz n m o:Nat}(hL:L.length=n*sz)(hm:m<n)(ho:o+vs.length<=sz)(j:Nat):
  ((L.take (m*sz+o)++vs++L.drop (m*sz+o+vs.length)).drop (j*sz)).take sz=
   if j=m then (((L.drop (m*sz)).take sz).take o++vs++((L.drop (m*sz)).take sz).drop (o+vs.length)) else (L.drop (j*sz)).take sz:=by
 have hmn:m*sz+sz<=n*sz:=by rw[<-Nat.succ_mul];exact Nat.mul_le_mul_right _ hm
 have hfit:m*sz+o+vs.length<=L.length:=by omega
 have hE:((L.drop (m*sz)).take sz).length=sz:=by rw[List.length_take,List.length_drop];omega
 apply List.ext_getElem?
 intro q
 rw[List.getElem?_take]
 by_cases hq:q<sz
 ·rw[if_pos hq,List.getElem?_drop,jl hfit]
  by_cases hj:j=m
  ·subst hj
   rw[if_pos rfl,jl (by rw[hE];exact ho),List.getElem?_take,if_pos hq,List.getElem?_drop]
   by_cases h1:q<o
   ·rw[if_pos (by omega),if_pos h1]
   ·rw[if_neg (by omega),if_neg h1]
    by_cases h2:q<o+vs.length
    ·rw[if_pos (by omega),if_pos h2];congr 1;omega
    ·rw[if_neg (by omega),if_neg h2]
  ·rw[if_neg hj,List.getElem?_take,if_pos hq,List.getElem?_drop]
   rcases Nat.lt_or_gt_of_ne hj with h1|h1
   ·have:j*sz+sz<=m*sz:=by rw[<-Nat.succ_mul];exact Nat.mul_le_mul_right _ h1
    rw[if_pos (by omega)]
   ·have:m*sz+sz<=j*sz:=by rw[<-Nat.succ_mul];exact Nat.mul_le_mul_right _ h1
    rw[if_neg (by omega),if_neg (by omega)]
 ·rw[if_neg hq]
  symm
  split
  ·rename_i hj
   rw[List.getElem?_eq_none]
   rw[List.length_append,List.length_append,List.length_take,List.length_drop,hE];omega
  ·rw[List.getElem?_take,if_neg hq]
def SameF{S:Type}:List (Fld S)->S->S->Prop
 |[],_,_=>True
 |f::fs,u,u'=>f.get u'=f.get u/\SameF fs u u'
def FldUpd{S:Type}:List (Fld S)->Nat->S->S->Prop
 |[],_,_,_=>True
 |_::fs,0,u,u'=>SameF fs u u'
 |f::fs,k+1,u,u'=>f.get u'=f.get u/\FldUpd fs k u u'
theorem lT{S:Type}:∀{fs:List (Fld S)} {H:FH} {cs:List Value} {u u':S},SameF fs u u'->repsF fs H cs u->repsF fs H cs u'
 |[],_,_,_,_,_,h=>h
 |f::fs,H,cs,u,u',⟨e,k⟩,⟨c1,c2,ec,h1,h2⟩=>⟨c1,c2,ec,by rw[e];exact h1,lT k h2⟩
theorem mL{S:Type}:∀{fs:List (Fld S)} {k:Nat} {f:Fld S} {H:FH} {cs vs:List Value} {u u':S},fs[k]?=some f->FldUpd fs k u u'->f.d.reps H vs (f.get u')->repsF fs H cs u->repsF fs H (cs.take (offF fs k)++vs++cs.drop (offF fs k+vs.length)) u'
 |[],_,_,_,_,_,_,_,h,_,_,_=>by simp at h
 |f0::fs,0,f,H,cs,vs,u,u',h,hu,hv,⟨c1,c2,e,h1,h2⟩=>by
  simp at h;subst h
  refine⟨vs,c2,?_,hv,lT hu h2⟩
  have hl:=f0.d.len h1
  have hl2:=f0.d.len hv
  rw[offF,List.take_zero,List.nil_append,Nat.zero_add,e,hl2,<-hl,List.drop_left]
 |f0::fs,k+1,f,H,cs,vs,u,u',h,⟨e0,hu⟩,hv,⟨c1,c2,e,h1,h2⟩=>by
  refine⟨c1,_,?_,by rw[e0];exact h1,mL (k:=k) (by simpa using h) hu hv h2⟩
  rw[offF,e,<-f0.d.len h1,Nat.add_assoc,List.drop_length_add_append,List.take_length_add_append,List.append_assoc,List.append_assoc,List.append_assoc]
theorem mM{S:Type}:∀{fs:List (Fld S)} {k:Nat} {f:Fld S},fs[k]?=some f->offF fs k+f.d.sz<=szF fs
 |[],_,_,h=>by simp at h
 |f0::fs,0,f,h=>by simp at h;subst h;simp[offF,szF]
 |f0::fs,k+1,f,h=>by
  have:=mM (k:=k) (f:=f) (by simpa using h)
  simp only[offF,szF];omega
section
variable{rd:Option Nat} {P:Program} {x y:Operand} {i j:Env} {dst:Option Nat} {T T' ty:TypeId} {pos:String} {af:Array Edge} {gd:Option (Nat×Bool)} {R:List Res}
theorem mN{α:Type} {d:Kd α} {xs:List α} {u u':α} {n id off o:Nat} {m:Int} {E:TypeId} {s:Sig}(hr:R[n]?=some (.row id E d xs))(hu:lAt xs m=some u)(ho:m.toNat*d.sz+o=off)
  (hs:∀(g:G) (v:Value),s.p g.H v->∃vs:List Value,v.cells=vs.toArray/\sizeIs P T vs.length/\o+vs.length<=d.sz/\(∀c∈vs,c.oneCell'=true)/\∀cs,d.reps g.H cs u->d.reps g.H (cs.take o++vs++cs.drop (o+vs.length)) u')
  (h:Opd x (.e id off) i) (h':Opd y (.d s) j):Ok P ⟨dst,.store T x y,ty,pos,af,gd⟩ (i++j) R (.d sAny) none (R.set n (.row id E d (xs.set m.toNat u'))):=by
 intro X H0 w0 g w a K Q hk hi hown _ hK
 obtain⟨b,nn,c,hb,e⟩:=h g a (satI_l hi)
 obtain⟨vs,hvc,hsz,hfo,hone,hnew⟩:=hs g _ (h' g a (satI_r hi))
 obtain⟨v,cells,hv,hrow,hro,hbig⟩:=hown.get hr
 obtain⟨_,hlt,hget⟩:=kt hu
 rw[hb] at hv
 cases hv
 rcases hrow.2 with ⟨he,_⟩|⟨b',cap,cur,he,hb0,hh,hnc,hcm,hcs,htk⟩
 ·cases he
 cases he
 have hmn:m.toNat*d.sz+d.sz<=xs.length*d.sz:=by rw[<-Nat.succ_mul];exact Nat.mul_le_mul_right _ hlt
 have hcap:xs.length*d.sz<=c*d.sz:=Nat.mul_le_mul_right _ hnc
 subst ho
 have hfit:m.toNat*d.sz+o+vs.length<=cur.size:=by omega
 have hrun:=ii (P:=P) (T:=T) hh hvc hsz hfit hone
 have hblk:(Res.row id E d xs).block g b:=by simp only[Res.block,hb,Option.bind_some];rfl
 obtain⟨q1,q2,q3⟩:=hown.at_ _ (List.mem_of_getElem? hr) b hblk
 unfold Oper.wp
 rw[show (execOp a.eval ⟨dst,.store T x y,ty,pos,af,gd⟩).run P w=.ok .skip (w.setRow b (cur.toList.take (m.toNat*d.sz+o)++vs++cur.toList.drop (m.toNat*d.sz+o+vs.length)).toArray) by
  simp only[execOp,e,Sem.run_bind,hrun,Result.andThen_ok,Sem.run_pure]]
 refine hK undef g _ (iw hk q3 q1 _) (G.le.refl g) (fun i e _=>e) trivial ?_
 have hL:cells.length=xs.length*d.sz:=hro.1
 refine hown.put hr (G.le.refl g) (by simp) (fun b' hb' _ hne=>setRow_other w b b' _ (fun e=>hne (by rw[e];exact hblk))) (fun _ _ e _=>e)
  ⟨_,cells.take (m.toNat*d.sz+o)++vs++cells.drop (m.toNat*d.sz+o+vs.length),hb,⟨?_,.inr ⟨b,c,_,by rw[List.length_set],hb0,setRow_heap w b cur _ E (0,0) hh,by rw[List.length_set];exact hnc,hcm,?_,?_⟩⟩,⟨?_,fun q x hq=>?_⟩,by rw[List.length_set];exact hbig⟩ ?_
 ·rw[List.length_set,List.length_append,List.length_append,List.length_take,List.length_drop,hL];omega
 ·rw[List.size_toArray,List.length_append,List.length_append,List.length_take,List.length_drop,Array.length_toList,hcs];omega
 ·rw[List.length_set]
  simp only
  apply List.ext_getElem?
  intro q
  have hf1:m.toNat*d.sz+o+vs.length<=cur.toList.length:=by rw[Array.length_toList];exact hfit
  have hf2:m.toNat*d.sz+o+vs.length<=cells.length:=by omega
  rw[List.getElem?_take,jl hf1,jl hf2,<-htk]
  simp only[List.getElem?_take]
  by_cases h0:q<xs.length*d.sz
  ·simp only[if_pos h0]
  ·rw[if_neg h0,if_neg (by omega),if_neg (by omega),if_neg h0]
 ·rw[List.length_set,List.length_append,List.length_append,List.length_take,List.length_drop,hL];omega
 ·rw[oW hL hlt hfo]
  rw[List.getElem?_set] at hq
  by_cases hqm:m.toNat=q
  ·subst hqm
   rw[if_pos rfl,if_pos hlt] at hq
   cases hq
   rw[if_pos rfl]
   exact hnew _ (hro.2 _ _ hget)
  ·rw[if_neg hqm] at hq
   rw[if_neg (fun e=>hqm e.symm)]
   exact hro.2 q x hq
 ·intro b' e'
  have:b'=b:=by
   simp only[Res.block,hb,Option.bind_some] at e'
   exact(Option.some.inj e').symm
  subst this
  exact⟨q1,by simpa using q2,q3,.inl hblk⟩
theorem oStE{α:Type} {d:Kd α} {xs:List α} {u u':α} {n id off:Nat} {m:Int} {E:TypeId}(hr:R[n]?=some (.row id E d xs))(hu:lAt xs m=some u)(ho:m.toNat*d.sz+0=off)(hi:sizeIs P T d.sz)(h:Opd x (.e id off) i)(h':Opd y (.d (d.sig u')) j):
  Ok P ⟨dst,.store T x y,ty,pos,af,gd⟩ (i++j) R (.d sAny) none (R.set n (.row id E d (xs.set m.toNat u'))):=
 mN (s:=d.sig u') hr hu ho (fun g v ⟨vs,hv,e⟩=>⟨vs,by rw[e];exact d.gD hv,by rw[d.len hv];exact hi,by rw[d.len hv];omega,d.ok hv,fun cs hc=>by
  have h1:=d.len hv
  have h2:=d.len hc
  rw[List.take_zero,List.nil_append,Nat.zero_add,List.drop_of_length_le (by omega),List.append_nil];exact hv⟩) h h'
theorem oStEF{S:Type} {fs:List (Fld S)} {f:Fld S} {xs:List S} {u u':S} {n id off k:Nat} {m:Int} {E:TypeId}(hr:R[n]?=some (.row id E (kR fs) xs))(hu:lAt xs m=some u)(hf:fs[k]?=some f)(hup:FldUpd fs k u u')(ho:m.toNat*szF fs+offF fs k=off)(hi:sizeIs P T f.d.sz)(h:Opd x (.e id off) i)(h':Opd y (.d (f.d.sig (f.get u'))) j):
  Ok P ⟨dst,.store T x y,ty,pos,af,gd⟩ (i++j) R (.d sAny) none (R.set n (.row id E (kR fs) (xs.set m.toNat u'))):=
 mN (d:=kR fs) (s:=f.d.sig (f.get u')) hr hu ho (fun g v ⟨vs,hv,e⟩=>⟨vs,by rw[e];exact f.d.gD hv,by rw[f.d.len hv];exact hi,by rw[f.d.len hv];exact mM hf,f.d.ok hv,fun cs hc=>mL hf hup hv hc⟩) h h'
theorem okNil{α:Type} {o:Oper} {ins:Env} {out:Ent} {ns:List Nat} {R1:List Res} {n k bid id:Nat} {T0:TypeId} {ls:List Leaf} {u:List α}(d:Kd α)(E:TypeId)(h:OkL rd P o ins R out ns R1)(hr:R1[n]?=some (.box bid T0 ls))(hk:ls[k]?=some (.d (kN α) u))(hid:memB id ns=false):
  OkL rd P o ins R out (ns++[id]) (.row id E d u::R1.set n (.box bid T0 (ls.set k (.v id)))):=by
 intro X H0 w0 g w a K Q hk' hi ho hn hK
 refine h X H0 w0 g w a K Q hk' hi ho (fun q hq=>hn q (List.mem_append_left _ hq)) ?_
 intro v g' w' k1 hle hnm hv ho'
 have hidn:id∉ns:=fun hm=>by rw[memB_iff.2 hm] at hid;cases hid
 have hid':g'.nm id=none:=hnm id (hn id (List.mem_append_right _ (List.mem_singleton.2 rfl))) hidn
 have hle2:G.le g' (g'.name id (.slice none 0 0)):=gY hid'
 have ho2:=ho'.mono hle2 (Nat.le_refl _) (fun _ _ _=>rfl) (fun _ _ e=>e)
 obtain⟨b,cs,hb,hh,hlf⟩:=ho'.get hr
 have hu:u=[]:=(jr hk hlf).2
 subst hu
 have ho3:=ho2.swap (l':=.v id) hr hk (fun cs hc=>⟨.slice none 0 0,dQ ..,hc.1,rfl⟩)
 refine hK v (g'.name id (.slice none 0 0)) w' k1 (hle.trans hle2) (fun q e hq=>?_) (Ent.mono hle2 hv) ?_
 ·rw[io (fun e2=>hq (List.mem_append_right _ (by rw[e2];exact List.mem_singleton.2 rfl)))]
  exact hnm q e (fun hm=>hq (List.mem_append_left _ hm))
 refine Own.add ho3 ⟨.slice none 0 0,[],dQ ..,⟨by simp,.inl ⟨rfl,rfl⟩⟩,⟨by simp,by simp⟩,by simp⟩ ?_
 intro b e
 simp only[Res.block,dQ,Option.bind_some] at e
 cases e
end
end Go.Proofs.YtmjcpkmongafnaaGreatDoor.Ab
