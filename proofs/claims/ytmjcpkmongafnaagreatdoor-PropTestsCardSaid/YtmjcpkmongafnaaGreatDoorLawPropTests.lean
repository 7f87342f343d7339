/- The given statement PropTestsSaid holds: of every world and every argument that its row lets in, the law answers true. No condition beyond the statement's own. -/
import Derived.Test.YtmjcpkmongafnaaGreatDoorCards
import Derived.Test.YtmjcpkmongafnaaGreatDoorTie
import Derived.Test.YtmjcpkmongafnaaGreatDoorWTT
import Derived.Test.YtmjcpkmongafnaaGreatDoorPurePropTests
import Derived.Test.YtmjcpkmongafnaaGreatDoorAb17
import Derived.WalkKit
import Derived.ProofKit
import Derived.OpenShut
import Derived.ShutString
import Derived.ChangeOld
import Derived.Below
import Derived.SizedLaws
import Derived.Carry
import Derived.Deep.DeepHandedRow
import Derived.Lib.LaidTab
namespace Go.Proofs.YtmjcpkmongafnaaGreatDoor.propTests
open Go.ChangeShapes Go.WideShapes Go.ChangeAt Go.RowKit
open Go.ChangeMaps (open_string shut_string)
open Go.Proofs.YtmjcpkmongafnaaGreatDoor.Ab Go.Proofs.YtmjcpkmongafnaaGreatDoor.TT
set_option linter.unusedVariables false
theorem own:ownKnob Tryz.prog.godebug=none:=by kernel_rfl
theorem laidOut:laidOutB Tryz.prog=true:=by kernel_rfl
theorem open9:Ab.Open Tryz.prog 9 kS:=openS Tryz.underlying9
theorem open22:Ab.Open Tryz.prog 22 (kL kS):=openL Tryz.underlying22 (by kernel_rfl) (by decide) (of_decide_eq_true (by kernel_rfl)) open9
theorem open70:Ab.Open Tryz.prog 70 (kI .u32):=openI Tryz.underlying70
theorem open23:Ab.Open Tryz.prog 23 (kL (kI .u32)):=openL Tryz.underlying23 (by kernel_rfl) (by decide) (of_decide_eq_true (by kernel_rfl)) open70
theorem open25:Ab.Open Tryz.prog 25 (kR aC):=openR (gs:=aC) (fun v=>⟨v.1,v.2.1⟩) (fun H cs v h=>h) Tryz.underlying25 (by kernel_rfl) ⟨rfl,by kernel_rfl,open22,rfl,by kernel_rfl,open23,trivial⟩
theorem open3:Ab.Open Tryz.prog 3 (kI .i64):=openI Tryz.underlying3
theorem open56:Ab.Open Tryz.prog 56 (kL (kI .i64)):=openL Tryz.underlying56 (by kernel_rfl) (by decide) (of_decide_eq_true (by kernel_rfl)) open3
theorem open58:Ab.Open Tryz.prog 58 (kR bj):=openR (gs:=bj) (fun v=>⟨v.1,v.2.1,v.2.2.1⟩) (fun H cs v h=>h) Tryz.underlying58 (by kernel_rfl) ⟨rfl,by kernel_rfl,open56,rfl,by kernel_rfl,open56,rfl,by kernel_rfl,open56,trivial⟩
theorem open26:Ab.Open Tryz.prog 26 (kL (kR bj)):=openL Tryz.underlying26 (by kernel_rfl) (by decide) (of_decide_eq_true (by kernel_rfl)) open58
theorem open28:Ab.Open Tryz.prog 28 (kR bn):=openR (gs:=bn) (fun v=>⟨v.1⟩) (fun H cs v h=>h) Tryz.underlying28 (by kernel_rfl) ⟨rfl,by kernel_rfl,open26,trivial⟩
theorem open30:Ab.Open Tryz.prog 30 (kR aB):=openR (gs:=aB) (fun v=>⟨v.1,v.2.1⟩) (fun H cs v h=>h) Tryz.underlying30 (by kernel_rfl) ⟨rfl,by kernel_rfl,open3,rfl,by kernel_rfl,open3,trivial⟩
theorem open73:Ab.Open Tryz.prog 73 (kR aH):=openR (gs:=aH) (fun v=>⟨v.1,v.2.1,v.2.2.1⟩) (fun H cs v h=>h) Tryz.underlying73 (by kernel_rfl) ⟨rfl,by kernel_rfl,open3,rfl,by kernel_rfl,open3,rfl,by kernel_rfl,open3,trivial⟩
theorem open31:Ab.Open Tryz.prog 31 (kL (kR aH)):=openL Tryz.underlying31 (by kernel_rfl) (by decide) (of_decide_eq_true (by kernel_rfl)) open73
theorem open32:Ab.Open Tryz.prog 32 (kL (kR aB)):=openL Tryz.underlying32 (by kernel_rfl) (by decide) (of_decide_eq_true (by kernel_rfl)) open30
theorem open4:Ab.Open Tryz.prog 4 kB:=openB Tryz.underlying4
theorem open88:Ab.Open Tryz.prog 88 (kR aD):=openR (gs:=aD) (fun v=>⟨v.1,v.2.1,v.2.2.1⟩) (fun H cs v h=>h) Tryz.underlying88 (by kernel_rfl) ⟨rfl,by kernel_rfl,open4,rfl,by kernel_rfl,open3,rfl,by kernel_rfl,open3,trivial⟩
theorem open33:Ab.Open Tryz.prog 33 (kL (kR aD)):=openL Tryz.underlying33 (by kernel_rfl) (by decide) (of_decide_eq_true (by kernel_rfl)) open88
theorem open35:Ab.Open Tryz.prog 35 (kR av):=openR (gs:=av) (fun v=>⟨v.1,v.2.1,v.2.2.1,v.2.2.2.1,v.2.2.2.2.1⟩) (fun H cs v h=>h) Tryz.underlying35 (by kernel_rfl) ⟨rfl,by kernel_rfl,open30,rfl,by kernel_rfl,open31,rfl,by kernel_rfl,open32,rfl,by kernel_rfl,open33,rfl,by kernel_rfl,open32,trivial⟩
theorem laidBase{W:World}(h:laidMetH Tryz.prog Rows.propTestsRow.laid W)(hs:W.ShapedOpen Tryz.prog):Base (fun b=>W.heap[b]?):=by
 have h':laidMet Tryz.prog Rows.propTestsRow.laid W:=h
 obtain⟨ps,hv,_⟩:=h'
 obtain⟨⟨t0,f0,e0⟩,q0,hv⟩:=laidI (P:=Tryz.prog) (zs:=gl0) (by kernel_rfl) (by kernel_rfl) Tryz.underlying237 Tryz.underlying3 (by kernel_rfl) (by kernel_rfl) (by rfl) hv
 refine⟨fun q hq=>?_,fun b hb=>?_⟩
 ·simp only[globs,List.mem_cons,List.mem_nil_iff,or_false] at hq
  subst hq
  ·exact⟨t0,f0,e0⟩
 ·first|(exact absurd (show b∈([]:List Nat) from hb) List.not_mem_nil)|(simp only[ints,List.mem_cons,List.mem_nil_iff,or_false] at hb;subst hb;exact int_block (zero:= #[.int .i64 0]) (t:=3) hs (of_decide_eq_true (by kernel_rfl)) (by kernel_rfl) rfl (by kernel_rfl) (by kernel_rfl) Tryz.underlying3)
noncomputable def kp(os:Os):World:={World.holding Tryz.prog os ⟨#[],#[],[]⟩ with heap:=((World.holding Tryz.prog os ⟨#[],#[],[]⟩).heap).modify 0 (fun|.cells _ t fr=>.cells (gl0.map (Value.int .i64)).toArray t fr|o=>o)}
theorem laid_met(os:Os):laidMet Tryz.prog Rows.propTestsRow.laid ((kp os).forCall (fun _ _=>0) ⟨#[],#[.agg #[.slice none 0 0,.slice none 0 0],.agg #[.slice none 0 0],.int .i64 0,.int .i64 0,.int .i64 0,.agg #[.int .i64 0,.int .i64 0,.slice none 0 0,.slice none 0 0,.slice none 0 0,.slice none 0 0],.agg #[.int .i64 0,.int .i64 0,.slice none 0 0,.slice none 0 0,.slice none 0 0,.slice none 0 0]],[]⟩).memory:=laidMet_of_run' 8 (by kernel_rfl) (by kernel_rfl)
theorem reads(os:Os){H:Type}(enc:TypeId×Value->H):∃places,DataW.whole enc Tryz.prog ((kp os).forCall (fun _ _=>0) ⟨#[],#[.agg #[.slice none 0 0,.slice none 0 0],.agg #[.slice none 0 0],.int .i64 0,.int .i64 0,.int .i64 0,.agg #[.int .i64 0,.int .i64 0,.slice none 0 0,.slice none 0 0,.slice none 0 0,.slice none 0 0],.agg #[.int .i64 0,.int .i64 0,.slice none 0 0,.slice none 0 0,.slice none 0 0,.slice none 0 0]],[]⟩).memory Tryz.f3.params.toList Rows.propTestsSpec.vars false (#[.agg #[.slice none 0 0,.slice none 0 0],.agg #[.slice none 0 0],.int .i64 0,.int .i64 0,.int .i64 0,.agg #[.int .i64 0,.int .i64 0,.slice none 0 0,.slice none 0 0,.slice none 0 0,.slice none 0 0],.agg #[.int .i64 0,.int .i64 0,.slice none 0 0,.slice none 0 0,.slice none 0 0,.slice none 0 0]]:Array Value).toList 8=some ([.agg [.nil,.nil],.agg [.nil],.lit (.int .i64 0),.lit (.int .i64 0),.lit (.int .i64 0),.agg [.agg [.lit (.int .i64 0),.lit (.int .i64 0)],.nil,.nil,.nil,.nil],.agg [.agg [.lit (.int .i64 0),.lit (.int .i64 0)],.nil,.nil,.nil,.nil]],[],places):=⟨[],by kernel_rfl⟩
set_option maxRecDepth 100000 in
theorem lifted(os:Os)(started:os.Started)(H:Type)(enc:TypeId×Value->H)(F:Stop.Interp):
  ReturnsInHanded {} Tryz.checked os 3 .any ((OpenSpec.ofChange Rows.propTestsSpec).preRow enc Tryz.prog Tryz.f3 Rows.propTestsRow.domain false Rows.propTestsRow.laid) (((OpenSpec.ofChange Rows.propTestsSpec).at F).post enc Tryz.prog Tryz.f3 false true false false):=by
 obtain⟨places,hx⟩:=reads os enc
 refine returnsInHanded_of_row (C:=Tryz.checked) (s:=OpenSpec.ofChange Rows.propTestsSpec) own started (by kernel_rfl) Tryz.func3
  (witness_row_at (enc:=enc) (C:=Tryz.checked) false (kp os) #[.agg #[.slice none 0 0,.slice none 0 0],.agg #[.slice none 0 0],.int .i64 0,.int .i64 0,.int .i64 0,.agg #[.int .i64 0,.int .i64 0,.slice none 0 0,.slice none 0 0,.slice none 0 0,.slice none 0 0],.agg #[.int .i64 0,.int .i64 0,.slice none 0 0,.slice none 0 0,.slice none 0 0,.slice none 0 0]] rfl (by kernel_rfl) (by kernel_rfl) (by kernel_rfl)
   (OpenSpec.preRow_of_cond 8 hx (by kernel_rfl) (fun k hk=>by cases hk) (by kernel_rfl) (laid_met os))) ?_
 intro W base_ args ds gs before hval0 hW _ _ hsz0 hL hsh _
 have hsz:(DataW.weightsEach Tryz.prog (Tryz.f3.params.toList++Rows.propTestsSpec.plain.varTypes Tryz.prog) (ds++gs)).all (·<=reachBytes)=true:=hsz0
 have hval:∀(j:Nat) t v,Tryz.f3.params[j]?=some t->args[j]?=some v->Value.okWide Tryz.prog W .any base_ t v:=hval0
 have hW':=hW
 obtain⟨p,q,hA0,hV,rfl,hfz,hnd⟩:=hW
 have hA:DataW.TrodAll enc Tryz.prog W 0 (fun _=>true) true Tryz.f3.params.toList args.toList ds p:=hA0
 rw[Tryz.params3] at hA hval hsz
 obtain⟨v0,vs0,d0,ds0,p0,q0,hargs,rfl,rfl,h0,r0⟩:=trodAll_cons hA
 obtain⟨v1,vs1,d1,ds1,p1,q1,rfl,rfl,rfl,h1,r1⟩:=trodAll_cons r0
 obtain⟨v2,vs2,d2,ds2,p2,q2,rfl,rfl,rfl,h2,r2⟩:=trodAll_cons r1
 obtain⟨v3,vs3,d3,ds3,p3,q3,rfl,rfl,rfl,h3,r3⟩:=trodAll_cons r2
 obtain⟨v4,vs4,d4,ds4,p4,q4,rfl,rfl,rfl,h4,r4⟩:=trodAll_cons r3
 obtain⟨v5,vs5,d5,ds5,p5,q5,rfl,rfl,rfl,h5,r5⟩:=trodAll_cons r4
 obtain⟨v6,vs6,d6,ds6,p6,q6,rfl,rfl,rfl,h6,r6⟩:=trodAll_cons r5
 obtain⟨rfl,rfl,rfl⟩:=trodAll_nil r6
 obtain rfl:args= #[v0,v1,v2,v3,v4,v5,v6]:=by cases args;simp_all
 obtain⟨rfl,rfl⟩:=trodVars_none hV
 have lt0:∀x∈p0,x.block<W.heap.size:=by obtain⟨m,hm⟩:=h0;exact DataW.trod_lt m _ _ _ hm
 obtain⟨u0,s0⟩:=openArg open25 h0 (fun n hn=>by have:=List.all_eq_true.1 hsz _ (DataW.weights_mem_each (j:=0) (t:=25) rfl rfl n hn);simpa using this) (hvStruct Tryz.underlying25 (hval 0 25 v0 rfl rfl))
 have lt1:∀x∈p1,x.block<W.heap.size:=by obtain⟨m,hm⟩:=h1;exact DataW.trod_lt m _ _ _ hm
 obtain⟨u1,s1⟩:=openArg open28 h1 (fun n hn=>by have:=List.all_eq_true.1 hsz _ (DataW.weights_mem_each (j:=1) (t:=28) rfl rfl n hn);simpa using this) (hvStruct Tryz.underlying28 (hval 1 28 v1 rfl rfl))
 obtain⟨u2,rfl,rfl,rfl,w2⟩:=open_int Tryz.underlying3 (hval 2 3 v2 rfl rfl) h2
 have i2:InR .i64 u2:=by simpa [Lit.wf,InR] using w2
 have s2:((kI .i64).sig u2).p (fun b=>W.heap[b]?) (.int .i64 u2):=kI_sig.2 ⟨rfl,i2⟩
 obtain⟨u3,rfl,rfl,rfl,w3⟩:=open_int Tryz.underlying3 (hval 3 3 v3 rfl rfl) h3
 have i3:InR .i64 u3:=by simpa [Lit.wf,InR] using w3
 have s3:((kI .i64).sig u3).p (fun b=>W.heap[b]?) (.int .i64 u3):=kI_sig.2 ⟨rfl,i3⟩
 obtain⟨u4,rfl,rfl,rfl,w4⟩:=open_int Tryz.underlying3 (hval 4 3 v4 rfl rfl) h4
 have i4:InR .i64 u4:=by simpa [Lit.wf,InR] using w4
 have s4:((kI .i64).sig u4).p (fun b=>W.heap[b]?) (.int .i64 u4):=kI_sig.2 ⟨rfl,i4⟩
 have lt5:∀x∈p5,x.block<W.heap.size:=by obtain⟨m,hm⟩:=h5;exact DataW.trod_lt m _ _ _ hm
 obtain⟨u5,s5⟩:=openArg open35 h5 (fun n hn=>by have:=List.all_eq_true.1 hsz _ (DataW.weights_mem_each (j:=5) (t:=35) rfl rfl n hn);simpa using this) (hvStruct Tryz.underlying35 (hval 5 35 v5 rfl rfl))
 have lt6:∀x∈p6,x.block<W.heap.size:=by obtain⟨m,hm⟩:=h6;exact DataW.trod_lt m _ _ _ hm
 obtain⟨u6,s6⟩:=openArg open35 h6 (fun n hn=>by have:=List.all_eq_true.1 hsz _ (DataW.weights_mem_each (j:=6) (t:=35) rfl rfl n hn);simpa using this) (hvStruct Tryz.underlying35 (hval 6 35 v6 rfl rfl))
 clear hA0 hval0 hsz0 hsz
 refine(eW.ok (Pure.PropTests u0 u1 u2 u3 u4 u5 u6 (let ⟨cs,h,_⟩:=s0;⟨_,cs,h⟩) (let ⟨cs,h,_⟩:=s1;⟨_,cs,h⟩) i2 i3 i4 (let ⟨cs,h,_⟩:=s5;⟨_,cs,h⟩) (let ⟨cs,h,_⟩:=s6;⟨_,cs,h⟩)) (fun b=>W.heap[b]?) W [_,_,_,_,_,_,_] ⟨laidBase hL hsh,fun _ _ e=>e⟩ ⟨_,_,rfl,s0,⟨_,_,rfl,s1,⟨_,_,rfl,s2,⟨_,_,rfl,s3,⟨_,_,rfl,s4,⟨_,_,rfl,s5,⟨_,_,rfl,s6,rfl⟩⟩⟩⟩⟩⟩⟩).mono ?_
 rintro e W' ⟨v,H',rfl,hk,hv⟩
 obtain rfl:=kB_sig.1 hv
 have bel:=hk.below
 exact⟨_,rfl,_,_,_,[],_,[],hW',trodAll_mk1 (shut_bool Tryz.underlying4 _),(trodAll_cons_mk (Below.trod laidOut (by kernel_rfl) (of_decide_eq_true (by kernel_rfl)) h0 bel lt0) (trodAll_cons_mk (Below.trod laidOut (by kernel_rfl) (of_decide_eq_true (by kernel_rfl)) h1 bel lt1) (trodAll_cons_mk (shut_int Tryz.underlying3 w2) (trodAll_cons_mk (shut_int Tryz.underlying3 w3) (trodAll_cons_mk (shut_int Tryz.underlying3 w4) (trodAll_cons_mk (Below.trod laidOut (by kernel_rfl) (of_decide_eq_true (by kernel_rfl)) h5 bel lt5) (trodAll_cons_mk (Below.trod laidOut (by kernel_rfl) (of_decide_eq_true (by kernel_rfl)) h6 bel lt6) trodAll_mk0))))))),rfl,bel.frame _,fun h=>by cases h⟩
theorem an{a b:Bool}(h:a=true)(k:b=true):(a&&b)=true:=by rw[h,k];rfl
set_option maxHeartbeats 4000000 in
theorem closed:joinedFacts Tryz.pinned.checked.prog 3 Tryz.f3 (OpenSpec.ofChange Rows.propTestsSpec).bare Rows.propTestsRow=true:=by
 unfold joinedFacts
 refine an (an (an (an (an (an (an (an (an (an (an (an (an (an (an (an (an (an (an (an (an (an (an (an (an (an (an (an (an (an (an (?_) ?_) ?_) ?_) ?_) ?_) ?_) ?_) ?_) ?_) ?_) ?_) ?_) ?_) ?_) ?_) ?_) ?_) ?_) ?_) ?_) ?_) ?_) ?_) ?_) ?_) ?_) ?_) ?_) ?_) ?_) ?_
 all_goals (as_aux_lemma=>kernel_rfl)
theorem named:Tryz.pinned.checked.prog.funcNamed Rows.propTestsRow.func=some 3:=by kernel_rfl
theorem inst:Func.isInstance Tryz.pinned.checked.prog Tryz.f3 Rows.propTestsRow.origin Rows.propTestsRow.targs:=of_decide_eq_true (by kernel_rfl)
theorem wrapd:Func.isWrapper Tryz.pinned.checked.prog Tryz.f3 Rows.propTestsRow.wrapper Rows.propTestsRow.mainSum:=by unfold Func.isWrapper;first|(rw[if_pos (by decide+kernel)];kernel_rfl)|(rw[if_neg (by decide+kernel)];exact⟨rfl,rfl⟩)
theorem said:Rows.PropTestsSaid:=
 OpenClaim.holds_of_cond 3 Tryz.f3 rfl rfl rfl rfl rfl rfl rfl ⟨rfl,rfl,rfl,rfl,rfl⟩ rfl rfl rfl rfl rfl named Tryz.func3 closed inst wrapd
  (fun os started H enc _ F=>by rw[OpenClaim.pre_eq_preRow];exact lifted os started H enc F)
theorem plain(f:FuncId)(fn:Func)(hf:Tryz.pinned.checked.prog.funcNamed "reticent/reticentlaw20.PropTests" =some f)(hfn:Tryz.pinned.checked.prog.funcs[f]?=some fn):
  true=Tryz.pinned.checked.prog.looks []/\∀(j:Nat) t,fn.params[j]?=some t->Tryz.pinned.checked.prog.wantsStandIn t=false:=by
 obtain rfl:f=3:=Option.some.inj ((show Tryz.prog.funcNamed "reticent/reticentlaw20.PropTests" =some 3 by kernel_rfl).symm.trans hf)|>.symm
 obtain rfl:fn=Tryz.f3:=(Option.some.inj (Tryz.func3.symm.trans hfn)).symm
 refine⟨by kernel_rfl,fun j t ht=>?_⟩
 rw[Tryz.params3] at ht
 have ht:=Array.mem_of_getElem? ht
 simp only[List.mem_toArray,List.mem_cons,List.mem_nil_iff,or_false] at ht
 rcases ht with rfl|rfl|rfl|rfl|rfl|rfl|rfl
 ·exact(show Tryz.prog.wantsStandIn 25=false by kernel_rfl)
 ·exact(show Tryz.prog.wantsStandIn 28=false by kernel_rfl)
 ·exact(show Tryz.prog.wantsStandIn 3=false by kernel_rfl)
 ·exact(show Tryz.prog.wantsStandIn 3=false by kernel_rfl)
 ·exact(show Tryz.prog.wantsStandIn 3=false by kernel_rfl)
 ·exact(show Tryz.prog.wantsStandIn 35=false by kernel_rfl)
 ·exact(show Tryz.prog.wantsStandIn 35=false by kernel_rfl)
theorem proved:Rows.PropTestsCardSaid:=
 Claim7.holds_tied_plain_at .later [] _ _ _ _ said (fun _ h=>by cases h) (by kernel_rfl) (fun _ h=>by cases h) propTests_row_tie rfl ⟨rfl,rfl⟩ (by kernel_rfl) rfl plain (by kernel_rfl)
#print axioms proved
end Go.Proofs.YtmjcpkmongafnaaGreatDoor.propTests
