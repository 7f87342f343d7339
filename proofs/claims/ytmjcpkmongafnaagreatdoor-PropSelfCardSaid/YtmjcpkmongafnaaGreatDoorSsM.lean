import Derived.Test.YtmjcpkmongafnaaGreatDoorSsb1
import Derived.Test.YtmjcpkmongafnaaGreatDoorGTT
set_option linter.unusedVariables false
set_option linter.unusedSimpArgs false
set_option linter.unusedSectionVars false
namespace Go.Proofs.YtmjcpkmongafnaaGreatDoor.Ss
open Go Go.Proofs.YtmjcpkmongafnaaGreatDoor.Ab Go.Proofs.YtmjcpkmongafnaaGreatDoor.TT
theorem fp(b:Bool):bA.f b=some (if b=true then .inr () else .inl 3):=by
 unfold bA.f
 cases b<;>rfl
def sl(S:List av)(d:Nat):av:=S.getD (S.length-1-d) ⟨true,0,0⟩
def okT(S:List av)(d:Nat):Bool:=decide (d<S.length)&& !(sl S d).Ret
theorem sl_at{S:List av} {d:Nat}(h:d<S.length):sl S d=S[S.length-1-d]:=by
 unfold sl
 rw[List.getD_eq_getElem?_getD,List.getElem?_eq_getElem (by omega)];rfl
theorem atom_m{m:al}(hn:m.s_.Stack.length<=1000){d:Nat}(hd:d<=1000):bG.f m (d:Int)=some (if okT m.s_.Stack d=true then .inr (m,sl m.s_.Stack d) else .inl 3):=by
 unfold bG.f okT
 have e1:IntKind.i64.wrap ((m.s_.Stack.length:Int)-1)=(m.s_.Stack.length:Int)-1:=wrapZ (by omega) (by omega)
 have e2:IntKind.i64.wrap ((m.s_.Stack.length:Int)-1-(d:Int))=(m.s_.Stack.length:Int)-1-(d:Int):=wrapZ (by omega) (by omega)
 rw[e1,e2]
 by_cases h:d<m.s_.Stack.length
 ·have e3:(m.s_.Stack.length:Int)-1-(d:Int)=((m.s_.Stack.length-1-d:Nat):Int):=by omega
  rw[if_pos (by omega),e3,br (by omega),bsome,fp,bsome,sl_at h,decide_eq_true h]
  cases hr:m.s_.Stack[m.s_.Stack.length-1-d].Ret<;>rfl
 ·rw[if_neg (by omega),fp,bsome,decide_eq_false h]
  rfl
def firstM(m:al):al:=⟨m.l_,m.s_,m.x_,sl m.s_.Stack 0,m.b_,m.r_,(m.s_.Stack.length:Int)-1,⟨(sl m.s_.Stack 0).L,m.one_.x1_,m.one_.x2_⟩⟩
theorem fQ{m:al}(hn:m.s_.Stack.length<=1000):bh.f m=some (if okT m.s_.Stack 0=true then .inr (firstM m) else .inl 3):=by
 unfold bh.f
 have h:=atom_m hn (d:=0) (by omega)
 rw[show ((0:Nat):Int)=0 from rfl] at h
 rw[h,bsome]
 have e1:IntKind.i64.wrap ((m.s_.Stack.length:Int)-1)=(m.s_.Stack.length:Int)-1:=wrapZ (by omega) (by omega)
 cases okT m.s_.Stack 0 with
 |false=>rfl
 |true=>
  show some (Sum.inr (⟨m.l_,m.s_,m.x_,sl m.s_.Stack 0,m.b_,m.r_,IntKind.i64.wrap ((m.s_.Stack.length:Int)-1),⟨(sl m.s_.Stack 0).L,m.one_.x1_,m.one_.x2_⟩⟩:al))=_
  rw[e1];rfl
def bothM(m:al):al:=⟨m.l_,m.s_,m.x_,sl m.s_.Stack 0,sl m.s_.Stack 1,m.r_,(m.s_.Stack.length:Int)-2,⟨(sl m.s_.Stack 0).L,(sl m.s_.Stack 1).L,m.one_.x2_⟩⟩
theorem both_m{m:al}(hn:m.s_.Stack.length<=1000):bH.f m=some (if okT m.s_.Stack 0=true/\okT m.s_.Stack 1=true then .inr (bothM m) else .inl 3):=by
 unfold bH.f
 rw[fQ hn,bsome]
 cases h0:okT m.s_.Stack 0 with
 |false=>rfl
 |true=>
  have h:=atom_m (m:=firstM m) hn (d:=1) (by omega)
  rw[show ((1:Nat):Int)=1 from rfl] at h
  show (bG.f (firstM m) 1>>=_)=_
  rw[h,bsome]
  show (match (if okT m.s_.Stack 1=true then Sum.inr (firstM m,sl m.s_.Stack 1) else Sum.inl 3:Pn⊕(al×av)) with|.inl p5=>_|.inr y6=>_)=_
  cases h1:okT m.s_.Stack 1 with
  |false=>rfl
  |true=>
   show some (Sum.inr (⟨m.l_,m.s_,m.x_,sl m.s_.Stack 0,sl m.s_.Stack 1,m.r_,IntKind.i64.wrap ((m.s_.Stack.length:Int)-1-1),⟨(sl m.s_.Stack 0).L,(sl m.s_.Stack 1).L,m.one_.x2_⟩⟩:al))=_
   rw[wrapZ (by omega) (by omega),show (m.s_.Stack.length:Int)-1-1=(m.s_.Stack.length:Int)-2 by omega];rfl
end Go.Proofs.YtmjcpkmongafnaaGreatDoor.Ss
namespace Go.Proofs.YtmjcpkmongafnaaGreatDoor.Ss
open Go Go.Proofs.YtmjcpkmongafnaaGreatDoor.Ab Go.Proofs.YtmjcpkmongafnaaGreatDoor.TT
def okC(m:al):Bool:=decide (0<=m.a_.V/\m.a_.V<(m.s_.Mem.length:Int))
theorem cell_m{m:al}:bK.f m=some (if okC m=true then .inr (m,m.a_.V) else .inl 3):=by
 unfold bK.f okC
 by_cases h:0<=m.a_.V
 ·rw[if_pos h,fp,bsome]
  by_cases q:m.a_.V<(m.s_.Mem.length:Int)
  ·rw[decide_eq_true q,decide_eq_true (show 0<=m.a_.V/\m.a_.V<(m.s_.Mem.length:Int) from ⟨h,q⟩)];rfl
  ·rw[decide_eq_false q,decide_eq_false (show ¬(0<=m.a_.V/\m.a_.V<(m.s_.Mem.length:Int)) from fun w=>q w.2)];rfl
 ·rw[if_neg (show ¬m.a_.V>=0 by omega),fp,bsome,decide_eq_false (show ¬(0<=m.a_.V/\m.a_.V<(m.s_.Mem.length:Int)) from fun w=>h w.1)];rfl
def mm(s:ah)(v:Int):az:=s.Mem.getD v.toNat ⟨0,0⟩
theorem mm_at{s:ah} {v:Int}(h0:0<=v)(h1:v<(s.Mem.length:Int)):lAt s.Mem v=some (mm s v):=by
 have e:v=((v.toNat:Nat):Int):=by omega
 have hlt:v.toNat<s.Mem.length:=by omega
 unfold mm
 rw[List.getD_eq_getElem?_getD,List.getElem?_eq_getElem hlt]
 conv=>lhs;rw[e]
 rw[br hlt];rfl
def loadM(m:al):al:=⟨m.l_,m.s_,m.x_,sl m.s_.Stack 0,m.b_,m.r_,(m.s_.Stack.length:Int)-1,⟨(sl m.s_.Stack 0).L,(mm m.s_ (sl m.s_.Stack 0).V).L,m.one_.x2_⟩⟩
theorem loads_m{m:al}(hn:m.s_.Stack.length<=1000):cc.f m=some (if okT m.s_.Stack 0=true/\okC (firstM m)=true then .inr (loadM m) else .inl 3):=by
 unfold cc.f
 rw[fQ hn,bsome]
 cases h0:okT m.s_.Stack 0 with
 |false=>rfl
 |true=>
  show (bK.f (firstM m)>>=_)=_
  rw[cell_m,bsome]
  cases h1:okC (firstM m) with
  |false=>rfl
  |true=>
   unfold okC at h1
   obtain⟨a,b⟩:=of_decide_eq_true h1
   show (lAt m.s_.Mem (sl m.s_.Stack 0).V>>=_)=_
   rw[show lAt m.s_.Mem (sl m.s_.Stack 0).V=some (mm m.s_ (sl m.s_.Stack 0).V) from mm_at a b,bsome];rfl
def storeM(m:al):al:=⟨m.l_,m.s_,m.x_,sl m.s_.Stack 0,sl m.s_.Stack 1,m.r_,(m.s_.Stack.length:Int)-2,⟨(sl m.s_.Stack 0).L,(sl m.s_.Stack 1).L,(mm m.s_ (sl m.s_.Stack 0).V).L⟩⟩
theorem stores_m{m:al}(hn:m.s_.Stack.length<=1000):bU.f m=some (if (okT m.s_.Stack 0=true/\okT m.s_.Stack 1=true)/\okC (firstM m)=true then .inr (storeM m) else .inl 3):=by
 unfold bU.f
 rw[both_m hn,bsome]
 by_cases h:okT m.s_.Stack 0=true/\okT m.s_.Stack 1=true
 ·rw[if_pos h]
  show (bK.f (bothM m)>>=_)=_
  rw[cell_m,bsome]
  have e:okC (bothM m)=okC (firstM m):=rfl
  rw[e]
  cases h1:okC (firstM m) with
  |false=>rw[if_neg (show ¬((okT m.s_.Stack 0=true/\okT m.s_.Stack 1=true)/\false=true) from fun w=>by cases w.2)];rfl
  |true=>
   rw[if_pos (show ((okT m.s_.Stack 0=true/\okT m.s_.Stack 1=true)/\true=true) from ⟨h,rfl⟩)]
   unfold okC at h1
   obtain⟨a,b⟩:=of_decide_eq_true h1
   show (lAt m.s_.Mem (sl m.s_.Stack 0).V>>=_)=_
   rw[show lAt m.s_.Mem (sl m.s_.Stack 0).V=some (mm m.s_ (sl m.s_.Stack 0).V) from mm_at a b,bsome];rfl
 ·rw[if_neg h,if_neg (show ¬((okT m.s_.Stack 0=true/\okT m.s_.Stack 1=true)/\okC (firstM m)=true) from fun w=>h w.1)]
theorem goes_m{m:al}(hn:m.s_.Stack.length<=1000):bS.f m=some (if okT m.s_.Stack 0=true/\plaB (sl m.s_.Stack 0).V=true then .inr (firstM m) else .inl 3):=by
 unfold bS.f
 rw[fQ hn,bsome]
 cases h0:okT m.s_.Stack 0 with
 |false=>rfl
 |true=>
  show (((if (sl m.s_.Stack 0).V>=0 then (bA.f (decide ((sl m.s_.Stack 0).V<=12))>>=_) else (bA.f false>>=_)):Option ((Pn⊕al)⊕Unit))>>=_)=_
  unfold plaB
  by_cases h:(sl m.s_.Stack 0).V>=0
  ·rw[if_pos h,fp,bsome]
   by_cases q:(sl m.s_.Stack 0).V<=12
   ·rw[decide_eq_true q,decide_eq_true (show (sl m.s_.Stack 0).V>=0/\(sl m.s_.Stack 0).V<=12 from ⟨h,q⟩)];rfl
   ·rw[decide_eq_false q,decide_eq_false (show ¬((sl m.s_.Stack 0).V>=0/\(sl m.s_.Stack 0).V<=12) from fun w=>q w.2)];rfl
  ·rw[if_neg h,fp,bsome,decide_eq_false (show ¬((sl m.s_.Stack 0).V>=0/\(sl m.s_.Stack 0).V<=12) from fun w=>h w.1)];rfl
def frU(S:List av):Nat->Nat
 |0=>0
 |k+1=>if (S.getD k ⟨true,0,0⟩).Ret=true then k+1 else frU S k
theorem frU_le(S:List av):∀k,frU S k<=k
 |0=>Nat.le_refl _
 |k+1=>by
  unfold frU
  split
  ·exact Nat.le_refl _
  ·exact Nat.le_succ_of_le (frU_le S k)
theorem ret_l{m:al}(hn:m.s_.Stack.length<=1000):∀k,k<=m.s_.Stack.length->aP.l0 m (k:Int)=some (frU m.s_.Stack k:Int)/\aP.l1 m (k:Int)=some (frU m.s_.Stack k:Int)
 |0,_=>by
  constructor
  ·rw[aP.l0,if_neg (by omega),bsome,if_neg (by decide)];rfl
  ·rw[aP.l1,if_neg (by omega),bsome,if_neg (by decide)];rfl
 |k+1,h=>by
  obtain⟨i0,i1⟩:=ret_l hn k (by omega)
  have e:IntKind.i64.wrap (((k+1:Nat):Int)-1)=(k:Int):=by rw[wrapZ (by omega) (by omega)];omega
  have g:m.s_.Stack.getD k ⟨true,0,0⟩=m.s_.Stack[k]:=by simp[show k<m.s_.Stack.length by omega]
  constructor
  ·rw[aP.l0,if_pos (by omega),e,br (by omega),bsome,bsome]
   unfold frU
   rw[g]
   cases hr:m.s_.Stack[k].Ret with
   |true=>rw[if_neg (show ¬(!true)=true by decide),if_pos (show true=true from rfl)]
   |false=>rw[if_pos (show (!false)=true from rfl),if_neg (show ¬false=true by decide)];exact i0
  ·rw[aP.l1,if_pos (by omega),e,br (by omega),bsome,bsome]
   unfold frU
   rw[g]
   cases hr:m.s_.Stack[k].Ret with
   |true=>rw[if_neg (show ¬(!true)=true by decide),if_pos (show true=true from rfl)]
   |false=>rw[if_pos (show (!false)=true from rfl),if_neg (show ¬false=true by decide)];exact i1
end Go.Proofs.YtmjcpkmongafnaaGreatDoor.Ss
namespace Go.Proofs.YtmjcpkmongafnaaGreatDoor.Ss
open Go Go.Proofs.YtmjcpkmongafnaaGreatDoor.Ab Go.Proofs.YtmjcpkmongafnaaGreatDoor.TT
def callB(S:List av):Nat->Nat->Bool
 |_,0=>true
 |i,k+1=>okT S (1+i)&&callB S (i+1) k
theorem ku{S:List av}:∀{k i:Nat},callB S i (k+1)=true->1+i+k<S.length
 |0,i,h=>by
  unfold callB okT at h
  rw[Bool.and_eq_true,Bool.and_eq_true,decide_eq_true_eq] at h
  exact h.1.1
 |k+1,i,h=>by
  unfold callB at h
  rw[Bool.and_eq_true] at h
  have:=ku h.2
  omega
theorem call_l{y m:al}(hn:m.s_.Stack.length<=1000):∀k i:Nat,y.x_.N=((i+k:Nat):Int)->i+k<=900->
  bn.l0 y m (i:Int)=some (if callB m.s_.Stack i k=true then .inr m else .inl (.inl 3))
 |0,i,h,hb=>by
  rw[bn.l0,if_neg (by omega)];rfl
 |k+1,i,h,hb=>by
  rw[bn.l0,if_pos (by omega)]
  have e1:IntKind.i64.wrap (1+(i:Int))=((1+i:Nat):Int):=by rw[wrapZ (by omega) (by omega)];omega
  have e2:IntKind.i64.wrap ((i:Int)+1)=((i+1:Nat):Int):=by rw[wrapZ (by omega) (by omega)];omega
  rw[e1,atom_m hn (by omega),bsome]
  unfold callB
  cases h0:okT m.s_.Stack (1+i) with
  |false=>rfl
  |true=>
   rw[Bool.true_and]
   show bn.l0 y m (IntKind.i64.wrap ((i:Int)+1))=_
   rw[e2]
   exact call_l hn k (i+1) (by omega) (by omega)
theorem calls_m{m:al}(hn:m.s_.Stack.length<=1000){k:Nat}(hk:m.x_.N=(k:Int))(hb:k<=900):
  bn.f m=some (if (okT m.s_.Stack 0=true/\plaB (sl m.s_.Stack 0).V=true)/\callB m.s_.Stack 0 k=true then .inr (firstM m) else .inl 3):=by
 unfold bn.f
 rw[goes_m hn,bsome]
 by_cases h:okT m.s_.Stack 0=true/\plaB (sl m.s_.Stack 0).V=true
 ·rw[if_pos h]
  show (bn.l0 (firstM m) (firstM m) 0>>=_)=_
  have q:=call_l (y:=firstM m) (m:=firstM m) hn k 0 (by rw[Nat.zero_add];exact hk) (by omega)
  rw[show ((0:Nat):Int)=0 from rfl] at q
  rw[q,bsome]
  show (match (if callB m.s_.Stack 0 k=true then .inr (firstM m) else .inl (.inl 3):(Pn⊕al)⊕al) with|.inl r=>some r|.inr x14=>some (.inr x14))=_
  cases h1:callB m.s_.Stack 0 k with
  |false=>rw[if_neg (show ¬((okT m.s_.Stack 0=true/\plaB (sl m.s_.Stack 0).V=true)/\false=true) from fun w=>by cases w.2)];rfl
  |true=>rw[if_pos (show ((okT m.s_.Stack 0=true/\plaB (sl m.s_.Stack 0).V=true)/\true=true) from ⟨h,rfl⟩)];rfl
 ·rw[if_neg h,if_neg (show ¬((okT m.s_.Stack 0=true/\plaB (sl m.s_.Stack 0).V=true)/\callB m.s_.Stack 0 k=true) from fun w=>h w.1)]
def retM(m:al)(k:Nat):al:=⟨m.l_,m.s_,m.x_,m.a_,m.b_,m.s_.Stack.getD (k-1) ⟨true,0,0⟩,(k:Int)-1,⟨m.one_.x0_,(m.s_.Stack.getD (k-1) ⟨true,0,0⟩).L,m.one_.x2_⟩⟩
theorem getD_is{S:List av} {k:Nat}(h:k<S.length):S.getD k ⟨true,0,0⟩=S[k]:=by simp[h]
theorem ret_end{m:al}(hn:m.s_.Stack.length<=1000){k:Nat}(hk:k<=m.s_.Stack.length):
  (bA.f (decide ((k:Int)>0))>>=fun z25=>match z25 with|.inl p26=>(some (.inl p26):Option (Pn⊕al))|.inr y27=>lAt m.s_.Stack (IntKind.i64.wrap ((k:Int)-1))>>=fun y28=>some (.inr (⟨m.l_,m.s_,m.x_,m.a_,m.b_,y28,IntKind.i64.wrap ((k:Int)-1),⟨m.one_.x0_,y28.L,m.one_.x2_⟩⟩:al)))=some (if 0<k then .inr (retM m k) else .inl 3):=by
 rw[fp,bsome]
 by_cases h:0<k
 ·rw[decide_eq_true (show (k:Int)>0 by omega),if_pos h]
  have e:IntKind.i64.wrap ((k:Int)-1)=((k-1:Nat):Int):=by rw[wrapZ (by omega) (by omega)];omega
  have e':(k:Int)-1=((k-1:Nat):Int):=by omega
  show (lAt m.s_.Stack (IntKind.i64.wrap ((k:Int)-1))>>=_)=_
  rw[e,br (by omega),bsome]
  unfold retM
  rw[getD_is (by omega),e']
 ·rw[decide_eq_false (show ¬(k:Int)>0 by omega),if_neg h];rfl
theorem returns_m{m:al}(hn:m.s_.Stack.length<=1000):
  aP.f m=some (if m.x_.N=1 then (if okT m.s_.Stack 0=true/\0<frU m.s_.Stack (m.s_.Stack.length-1) then .inr (retM (firstM m) (frU m.s_.Stack (m.s_.Stack.length-1))) else .inl 3) else (if 0<frU m.s_.Stack m.s_.Stack.length then .inr (retM m (frU m.s_.Stack m.s_.Stack.length)) else .inl 3)):=by
 unfold aP.f
 by_cases h:m.x_.N=1
 ·rw[if_pos h,if_pos h]
  have q:=fQ (m:=⟨m.l_,m.s_,m.x_,m.a_,m.b_,m.r_,(m.s_.Stack.length:Int),m.one_⟩) hn
  rw[q,bsome]
  show (match (if okT m.s_.Stack 0=true then .inr (firstM m) else .inl 3:Pn⊕al) with|.inl p3=>_|.inr y4=>_)=_
  cases h0:okT m.s_.Stack 0 with
  |false=>rw[if_neg (show ¬(false=true/\0<frU m.s_.Stack (m.s_.Stack.length-1)) from fun w=>by cases w.1)];rfl
  |true=>
   have hp:0<m.s_.Stack.length:=by
    unfold okT at h0
    rw[Bool.and_eq_true,decide_eq_true_eq] at h0
    exact h0.1
   have e:(m.s_.Stack.length:Int)-1=((m.s_.Stack.length-1:Nat):Int):=by omega
   have hf:=frU_le m.s_.Stack (m.s_.Stack.length-1)
   show (aP.l0 (firstM m) ((m.s_.Stack.length:Int)-1)>>=_)=_
   rw[e,(ret_l (m:=firstM m) hn (m.s_.Stack.length-1) (show m.s_.Stack.length-1<=m.s_.Stack.length by omega)).1,bsome]
   have q:=ret_end (m:=firstM m) hn (k:=frU m.s_.Stack (m.s_.Stack.length-1)) (show _<=m.s_.Stack.length by omega)
   refine Eq.trans q ?_
   simp only[true_and]
 ·rw[if_neg h,if_neg h,(ret_l hn m.s_.Stack.length (Nat.le_refl _)).2,bsome]
  exact ret_end hn (frU_le _ _)
end Go.Proofs.YtmjcpkmongafnaaGreatDoor.Ss
namespace Go.Proofs.YtmjcpkmongafnaaGreatDoor.Ss
open Go Go.Proofs.YtmjcpkmongafnaaGreatDoor.Ab Go.Proofs.YtmjcpkmongafnaaGreatDoor.TT
structure Fine(P:Int->Prop)(a m:al):Prop where
 l:m.l_=a.l_
 s:m.s_=a.s_
 x:m.x_=a.x_
 lo:0<=m.below_
 hi:m.below_<=(a.s_.Stack.length:Int)
 o0:P m.one_.x0_
 o1:P m.one_.x1_
 o2:P m.one_.x2_
 c:a.x_.Op=5\/a.x_.Op=6->okC m=true
 g:a.x_.Op=9->a.x_.N<=m.below_
structure Start(P:Int->Prop)(a:al):Prop where
 n:a.s_.Stack.length<=1000
 o0:P a.one_.x0_
 o1:P a.one_.x1_
 o2:P a.one_.x2_
 st:∀x∈a.s_.Stack,P x.L
 me:∀x∈a.s_.Mem,P x.L
 op:0<=a.x_.Op/\a.x_.Op<=12
 im:a.x_.Op=1->P a.x_.L
 cn:a.x_.Op=9->0<=a.x_.N/\a.x_.N<=3
theorem sl_P{P:Int->Prop} {S:List av}(h:∀x∈S,P x.L){d:Nat}(k:okT S d=true):P (sl S d).L:=by
 unfold okT at k
 rw[Bool.and_eq_true,decide_eq_true_eq] at k
 rw[sl_at k.1]
 exact h _ (List.getElem_mem _)
theorem okT_lt{S:List av} {d:Nat}(k:okT S d=true):d<S.length:=by
 unfold okT at k
 rw[Bool.and_eq_true,decide_eq_true_eq] at k
 exact k.1
theorem mm_P{P:Int->Prop} {m:al}(h:∀x∈m.s_.Mem,P x.L)(k:okC m=true):P (mm m.s_ m.a_.V).L:=by
 unfold okC at k
 have k:=of_decide_eq_true k
 have hlt:m.a_.V.toNat<m.s_.Mem.length:=by omega
 unfold mm
 rw[List.getD_eq_getElem?_getD,List.getElem?_eq_getElem hlt]
 exact h _ (List.getElem_mem _)
theorem getD_P{P:Int->Prop} {S:List av}(h:∀x∈S,P x.L){k:Nat}(hk:k<S.length):P (S.getD k ⟨true,0,0⟩).L:=by
 rw[getD_is hk]
 exact h _ (List.getElem_mem _)
theorem fL{P:Int->Prop} {a m:al}(z:Start P a)(hm:m.l_=a.l_/\m.s_=a.s_/\m.x_=a.x_/\m.one_=a.one_)(k:okT a.s_.Stack 0=true)(n5:¬(a.x_.Op=5\/a.x_.Op=6))(n9:a.x_.Op=9->a.x_.N<=(a.s_.Stack.length:Int)-1):Fine P a (firstM m):=by
 obtain⟨h1,h2,h3,h4⟩:=hm
 have hp:=okT_lt k
 refine⟨h1,h2,h3,?_,?_,?_,?_,?_,fun w=>absurd w n5,?_⟩
 ·show 0<=(m.s_.Stack.length:Int)-1
  rw[h2];omega
 ·show (m.s_.Stack.length:Int)-1<=_
  rw[h2];omega
 ·show P (sl m.s_.Stack 0).L
  rw[h2];exact sl_P z.st k
 ·show P m.one_.x1_
  rw[h4];exact z.o1
 ·show P m.one_.x2_
  rw[h4];exact z.o2
 ·intro w
  show a.x_.N<=(m.s_.Stack.length:Int)-1
  rw[h2];exact n9 w
theorem kw{P:Int->Prop} {a m:al}(z:Start P a)(hm:m.l_=a.l_/\m.s_=a.s_/\m.x_=a.x_/\m.one_=a.one_)(k:okT a.s_.Stack 0=true)(k1:okT a.s_.Stack 1=true)(n5:¬(a.x_.Op=5\/a.x_.Op=6))(n9:a.x_.Op≠9):Fine P a (bothM m):=by
 obtain⟨h1,h2,h3,h4⟩:=hm
 have hp:=okT_lt k1
 refine⟨h1,h2,h3,?_,?_,?_,?_,?_,fun w=>absurd w n5,fun w=>absurd w n9⟩
 ·show 0<=(m.s_.Stack.length:Int)-2
  rw[h2];omega
 ·show (m.s_.Stack.length:Int)-2<=_
  rw[h2];omega
 ·show P (sl m.s_.Stack 0).L
  rw[h2];exact sl_P z.st k
 ·show P (sl m.s_.Stack 1).L
  rw[h2];exact sl_P z.st k1
 ·show P m.one_.x2_
  rw[h4];exact z.o2
end Go.Proofs.YtmjcpkmongafnaaGreatDoor.Ss
namespace Go.Proofs.YtmjcpkmongafnaaGreatDoor.Ss
open Go Go.Proofs.YtmjcpkmongafnaaGreatDoor.Ab Go.Proofs.YtmjcpkmongafnaaGreatDoor.TT
def Ans(P:Int->Prop)(a:al)(e:Option (Pn⊕al)):Prop:=
 ∃r,e=some r/\(match r with|.inl p=>p=3|.inr m=>Fine P a m)
theorem fe{P:Int->Prop} {a m:al} {c:Prop}[Decidable c]{e:Option (Pn⊕al)}(h:e=some (if c then .inr m else .inl 3))(k:c->Fine P a m):Ans P a (e>>=fun z=>match z with|.inl p=>some (.inl p)|.inr y=>some (.inr y)):=by
 rw[h,bsome]
 by_cases q:c
 ·rw[if_pos q];exact⟨_,rfl,k q⟩
 ·rw[if_neg q];exact⟨_,rfl,rfl⟩
def topM(a:al):al:=⟨a.l_,a.s_,a.x_,a.a_,a.b_,a.r_,(a.s_.Stack.length:Int),a.one_⟩
theorem lz{P:Int->Prop} {a m:al}(z:Start P a)(hm:m.l_=a.l_/\m.s_=a.s_/\m.x_=a.x_)(o0:P m.one_.x0_)(o2:P m.one_.x2_){k:Nat}(h0:0<k)(hk:k<=a.s_.Stack.length)(n5:¬(a.x_.Op=5\/a.x_.Op=6))(n9:a.x_.Op≠9):Fine P a (retM m k):=by
 obtain⟨h1,h2,h3⟩:=hm
 refine⟨h1,h2,h3,?_,?_,o0,?_,o2,fun w=>absurd w n5,fun w=>absurd w n9⟩
 ·show 0<=(k:Int)-1
  omega
 ·show (k:Int)-1<=_
  omega
 ·show P (m.s_.Stack.getD (k-1) ⟨true,0,0⟩).L
  rw[h2]
  exact getD_P z.st (by omega)
theorem needs_a{P:Int->Prop} {a:al}(z:Start P a):Ans P a (bJ.f a):=by
 have hn:(topM a).s_.Stack.length<=1000:=z.n
 have hop:=z.op
 have same:(topM a).l_=a.l_/\(topM a).s_=a.s_/\(topM a).x_=a.x_/\(topM a).one_=a.one_:=⟨rfl,rfl,rfl,rfl⟩
 unfold bJ.f
 by_cases c0:a.x_.Op=0
 ·rw[if_pos c0]
  exact⟨_,rfl,⟨rfl,rfl,rfl,Int.natCast_nonneg _,Int.le_refl _,z.o0,z.o1,z.o2,fun w=>by omega,fun w=>by omega⟩⟩
 rw[if_neg c0]
 by_cases c12:a.x_.Op=12
 ·rw[if_pos c12]
  exact⟨_,rfl,⟨rfl,rfl,rfl,Int.natCast_nonneg _,Int.le_refl _,z.o0,z.o1,z.o2,fun w=>by omega,fun w=>by omega⟩⟩
 rw[if_neg c12]
 by_cases c1:a.x_.Op=1
 ·rw[if_pos c1]
  exact⟨_,rfl,⟨rfl,rfl,rfl,Int.natCast_nonneg _,Int.le_refl _,z.im c1,z.o1,z.o2,fun w=>by omega,fun w=>by omega⟩⟩
 rw[if_neg c1]
 by_cases c2:a.x_.Op=2
 ·rw[if_pos c2]
  exact fe (fQ (m:=topM a) hn) (fun q=>fL z same q (by omega) (by omega))
 rw[if_neg c2]
 by_cases c11:a.x_.Op=11
 ·rw[if_pos c11]
  exact fe (fQ (m:=topM a) hn) (fun q=>fL z same q (by omega) (by omega))
 rw[if_neg c11]
 by_cases c3:a.x_.Op=3
 ·rw[if_pos c3]
  exact fe (both_m (m:=topM a) hn) (fun q=>kw z same q.1 q.2 (by omega) (by omega))
 rw[if_neg c3]
 by_cases c4:a.x_.Op=4
 ·rw[if_pos c4]
  exact fe (both_m (m:=topM a) hn) (fun q=>kw z same q.1 q.2 (by omega) (by omega))
 rw[if_neg c4]
 by_cases c5:a.x_.Op=5
 ·rw[if_pos c5]
  refine fe (loads_m (m:=topM a) hn) (fun q=>?_)
  have hp:=okT_lt q.1
  refine⟨rfl,rfl,rfl,?_,?_,sl_P z.st q.1,mm_P (m:=firstM (topM a)) z.me q.2,z.o2,fun _=>q.2,fun w=>by omega⟩
  ·show 0<=(a.s_.Stack.length:Int)-1
   have:0<a.s_.Stack.length:=hp
   omega
  ·show (a.s_.Stack.length:Int)-1<=_
   omega
 rw[if_neg c5]
 by_cases c6:a.x_.Op=6
 ·rw[if_pos c6]
  refine fe (stores_m (m:=topM a) hn) (fun q=>?_)
  have hp:=okT_lt q.1.2
  refine⟨rfl,rfl,rfl,?_,?_,sl_P z.st q.1.1,sl_P z.st q.1.2,mm_P (m:=firstM (topM a)) z.me q.2,fun _=>q.2,fun w=>by omega⟩
  ·show 0<=(a.s_.Stack.length:Int)-2
   have:1<a.s_.Stack.length:=hp
   omega
  ·show (a.s_.Stack.length:Int)-2<=_
   omega
 rw[if_neg c6]
 by_cases c7:a.x_.Op=7
 ·rw[if_pos c7]
  exact fe (goes_m (m:=topM a) hn) (fun q=>fL z same q.1 (by omega) (by omega))
 rw[if_neg c7]
 by_cases c8:a.x_.Op=8
 ·rw[if_pos c8]
  exact fe (fQ (m:=topM a) hn) (fun q=>fL z same q (by omega) (by omega))
 rw[if_neg c8]
 by_cases c9:a.x_.Op=9
 ·rw[if_pos c9]
  obtain⟨q0,q3⟩:=z.cn c9
  have e:(topM a).x_.N=((a.x_.N.toNat:Nat):Int):=by show a.x_.N=_;omega
  refine fe (calls_m (m:=topM a) hn e (by omega)) (fun q=>fL z same q.1.1 (by omega) (fun _=>?_))
  have hp:0<a.s_.Stack.length:=okT_lt q.1.1
  cases hN:a.x_.N.toNat with
  |zero=>omega
  |succ k=>
   have q2:=q.2
   rw[hN] at q2
   have:1+0+k<a.s_.Stack.length:=ku q2
   omega
 rw[if_neg c9]
 have c10:a.x_.Op=10:=by omega
 rw[if_pos c10]
 have r:=returns_m (m:=topM a) hn
 by_cases cN:(topM a).x_.N=1
 ·rw[if_pos cN] at r
  refine fe r (fun q=>?_)
  have hf:=frU_le a.s_.Stack (a.s_.Stack.length-1)
  exact lz (m:=firstM (topM a)) z ⟨rfl,rfl,rfl⟩ (sl_P z.st q.1) z.o2 q.2 (Nat.le_trans hf (Nat.sub_le _ _)) (by omega) (by omega)
 ·rw[if_neg cN] at r
  refine fe r (fun q=>?_)
  exact lz (m:=topM a) z ⟨rfl,rfl,rfl⟩ z.o0 z.o2 q (frU_le _ _) (by omega) (by omega)
end Go.Proofs.YtmjcpkmongafnaaGreatDoor.Ss
namespace Go.Proofs.YtmjcpkmongafnaaGreatDoor.Ss
open Go Go.Proofs.YtmjcpkmongafnaaGreatDoor.Ab Go.Proofs.YtmjcpkmongafnaaGreatDoor.TT
theorem clone_s{S:List av}(h:S.length<=1000):bD.f S=some S:=by
 have hB:100000<=big:=by decide
 unfold bD.f
 rw[if_pos (show (([]:List av).length+S.length)*24<=big by simp;omega)];rfl
theorem iW{S:List az}(h:S.length<=1000):bi.f S=some S:=by
 have hB:100000<=big:=by decide
 unfold bi.f
 rw[if_pos (show (([]:List az).length+S.length)*16<=big by simp;omega)];rfl
theorem put_m{m:al}(h:m.s_.Stack.length<=1000)(v l:Int):b9.f m v l=some ⟨m.l_,⟨m.s_.Pc,m.s_.Code,m.s_.Mem,m.s_.Stack++[⟨false,v,l⟩],m.s_.Out⟩,m.x_,m.a_,m.b_,m.r_,m.below_,m.one_⟩:=by
 have hB:100000<=big:=by decide
 unfold b9.f
 rw[if_pos (show (m.s_.Stack.length+([(⟨false,v,l⟩:av)]:List av).length)*24<=big by simp;omega)]
theorem lY{xss:List (List av)}(h:∀x∈xss,x.length<=1000):xss.flatten.length<=xss.length*1000:=by
 induction xss with
 |nil=>simp
 |cons a r ih=>
  have ha:=h a (by simp)
  have:=ih (fun x hx=>h x (by simp[hx]))
  simp only[List.flatten_cons,List.length_append,List.length_cons,Nat.succ_mul]
  omega
theorem ky{xss:List (List av)}(hn:xss.length<=100)(h:∀x∈xss,x.length<=1000):∀(d k:Nat) (v:Nat),xss.length=k+d->v<=k*1000->aI.l0 xss (k:Int) (v:Int)=some ((v+(xss.drop k).flatten.length:Nat):Int)
 |0,k,v,e,hv=>by
  rw[aI.l0,if_neg (by omega),List.drop_of_length_le (by omega)];simp
 |d+1,k,v,e,hv=>by
  have hk:k<xss.length:=by omega
  have hx:=h xss[k] (List.getElem_mem hk)
  have ih:=ky hn h d (k+1) (v+xss[k].length) (by omega) (by rw[Nat.succ_mul];omega)
  have hw:IntKind.i64.wrap ((v:Int)+(xss[k].length:Int))=((v+xss[k].length:Nat):Int):=by rw[wrapZ (by omega) (by omega)];omega
  rw[aI.l0,if_pos (by omega),br hk,bsome,hw,if_neg (by omega),bsome,wS (by omega),ih,List.drop_eq_getElem_cons hk]
  simp only[List.flatten_cons,List.length_append]
  rw[Nat.add_assoc]
theorem kz{xss:List (List av)}(hn:xss.length<=100)(h:∀x∈xss,x.length<=1000):∀(d k:Nat) (v:List av),xss.length=k+d->v.length<=k*1000->aI.l1 xss v (k:Int)=some (v++(xss.drop k).flatten)
 |0,k,v,e,hv=>by
  rw[aI.l1,if_neg (by omega),List.drop_of_length_le (by omega)];simp
 |d+1,k,v,e,hv=>by
  have hk:k<xss.length:=by omega
  have hx:=h xss[k] (List.getElem_mem hk)
  have hB:10000000<=big:=by decide
  have ih:=kz hn h d (k+1) (v++xss[k]) (by omega) (by rw[Nat.succ_mul];simp;omega)
  rw[aI.l1,if_pos (by omega),br hk,bsome,if_pos (by omega),wS (by omega),ih,List.drop_eq_getElem_cons hk]
  simp only[List.flatten_cons,List.append_assoc]
theorem grow_eq{n:Nat}(h:n<=100000):ce.f (n:Int)=some []:=by
 unfold ce.f
 have h1:IntKind.i64.wrap (0-(([]:List av).length:Int))=0:=by decide
 have h2:IntKind.i64.wrap ((n:Int)-0)=(n:Int):=by rw[wrapZ (by omega) (by omega)];omega
 have hB:10000000<=big:=by decide
 rw[if_neg (by omega),h1,h2]
 by_cases h0:(n:Int)>0
 ·rw[if_pos h0,if_pos ⟨h0,by simp;omega⟩,if_pos ⟨by simp,by simp⟩];rfl
 ·rw[if_neg h0]
theorem concat_eq{xss:List (List av)}(hn:xss.length<=100)(h:∀x∈xss,x.length<=1000):aI.f xss=some xss.flatten:=by
 unfold aI.f
 have h1:=ky hn h xss.length 0 0 (by omega) (by omega)
 have h2:=kz hn h xss.length 0 [] (by omega) (by simp)
 have h3:=lY h
 have h4:xss.length*1000<=100*1000:=Nat.mul_le_mul_right _ hn
 rw[show ((0:Nat):Int)=0 from rfl,List.drop_zero,Nat.zero_add] at h1
 rw[show ((0:Nat):Int)=0 from rfl,List.drop_zero,List.nil_append] at h2
 rw[h1,bsome,grow_eq (by omega),bsome,h2,bsome]
end Go.Proofs.YtmjcpkmongafnaaGreatDoor.Ss
namespace Go.Proofs.YtmjcpkmongafnaaGreatDoor.Ss
open Go Go.Proofs.YtmjcpkmongafnaaGreatDoor.Ab Go.Proofs.YtmjcpkmongafnaaGreatDoor.TT
structure Kept(a m:al):Prop where
 code:m.s_.Code=a.s_.Code
 mem:m.s_.Mem.length=a.s_.Mem.length
 st:m.s_.Stack.length<=a.s_.Stack.length+1
 out:m.s_.Out=a.s_.Out\/∃x,m.s_.Out=a.s_.Out++[x]
theorem kept_bind{a:al} {e:Option (al×Int)}(h:∃m p,e=some (m,p)/\Kept a m):∃m,(e>>=fun o=>match o with|(x28,x29)=>some (⟨x28.l_,⟨⟨x29,x28.s_.Pc.L⟩,x28.s_.Code,x28.s_.Mem,x28.s_.Stack,x28.s_.Out⟩,x28.x_,x28.a_,x28.b_,x28.r_,x28.below_,x28.one_⟩:al))=some m/\Kept a m:=by
 obtain⟨m,p,h1,h2⟩:=h
 rw[h1,bsome]
 exact⟨_,rfl,⟨h2.code,h2.mem,h2.st,h2.out⟩⟩
theorem lCut_len{α:Type} {xs:List α} {b:Int}:(lCut xs 0 b).length<=xs.length:=by
 simp[lCut];omega
theorem does_m{m:al}(hn:m.s_.Stack.length<=900)(hm:m.s_.Mem.length<=900)(ho:m.s_.Out.length<=900)(lo:0<=m.below_)(hi:m.below_<=(m.s_.Stack.length:Int))(c:m.x_.Op=5\/m.x_.Op=6->okC m=true)(g:m.x_.Op=9->0<=m.x_.N/\m.x_.N<=m.below_)(v:Int):
  ∃r,da.f m v=some r/\Kept m r:=by
 have hc:=lCut_len (xs:=m.s_.Stack) (b:=m.below_)
 have hB:100000<=big:=by decide
 unfold da.f
 rw[if_pos ⟨lo,hi⟩,clone_s (by omega),bsome]
 refine kept_bind ?_
 have hput:∀(x:Int),b9.f (⟨m.l_,⟨m.s_.Pc,m.s_.Code,m.s_.Mem,lCut m.s_.Stack 0 m.below_,m.s_.Out⟩,m.x_,m.a_,m.b_,m.r_,m.below_,m.one_⟩:al) x v=some ⟨m.l_,⟨m.s_.Pc,m.s_.Code,m.s_.Mem,lCut m.s_.Stack 0 m.below_++[⟨false,x,v⟩],m.s_.Out⟩,m.x_,m.a_,m.b_,m.r_,m.below_,m.one_⟩:=fun x=>put_m (show (lCut m.s_.Stack 0 m.below_).length<=1000 by omega) x v
 have hst:∀x:Int,(lCut m.s_.Stack 0 m.below_++[(⟨false,x,v⟩:av)]).length<=m.s_.Stack.length+1:=fun x=>by simp only[List.length_append,List.length_singleton];omega
 by_cases c1:m.x_.Op=1
 ·rw[if_pos c1,hput,bsome];exact⟨_,_,rfl,⟨rfl,rfl,hst _,.inl rfl⟩⟩
 rw[if_neg c1]
 by_cases c3:m.x_.Op=3
 ·rw[if_pos c3,hput,bsome];exact⟨_,_,rfl,⟨rfl,rfl,hst _,.inl rfl⟩⟩
 rw[if_neg c3]
 by_cases c4:m.x_.Op=4
 ·rw[if_pos c4,hput,bsome];exact⟨_,_,rfl,⟨rfl,rfl,hst _,.inl rfl⟩⟩
 rw[if_neg c4]
 by_cases c5:m.x_.Op=5
 ·have k:=of_decide_eq_true (c (.inl c5))
  rw[if_pos c5,mm_at k.1 k.2,bsome,hput,bsome];exact⟨_,_,rfl,⟨rfl,rfl,hst _,.inl rfl⟩⟩
 rw[if_neg c5]
 by_cases c6:m.x_.Op=6
 ·have k:=of_decide_eq_true (c (.inr c6))
  rw[if_pos c6,iW (by omega),bsome,mm_at k.1 k.2,bsome]
  exact⟨_,_,rfl,⟨rfl,List.length_set,Nat.le_succ_of_le hc,.inl rfl⟩⟩
 rw[if_neg c6]
 by_cases c11:m.x_.Op=11
 ·rw[if_pos c11,iW (by omega),bsome,if_pos (show (m.s_.Out.length+([(⟨m.a_.V,v⟩:az)]:List az).length)*16<=big by simp;omega)]
  exact⟨_,_,rfl,⟨rfl,rfl,Nat.le_succ_of_le hc,.inr ⟨_,rfl⟩⟩⟩
 rw[if_neg c11]
 by_cases c7:m.x_.Op=7
 ·rw[if_pos c7];exact⟨_,_,rfl,⟨rfl,rfl,Nat.le_succ_of_le hc,.inl rfl⟩⟩
 rw[if_neg c7]
 by_cases c8:m.x_.Op=8
 ·rw[if_pos c8]
  split<;>exact⟨_,_,rfl,⟨rfl,rfl,Nat.le_succ_of_le hc,.inl rfl⟩⟩
 rw[if_neg c8]
 by_cases c9:m.x_.Op=9
 ·obtain⟨g0,g1⟩:=g c9
  have e:IntKind.i64.wrap (m.below_-m.x_.N)=m.below_-m.x_.N:=wrapZ (by omega) (by omega)
  rw[if_pos c9,e,if_pos (by omega),if_pos (by omega),concat_eq (by simp) (by
   intro x hx
   simp only[List.mem_cons,List.not_mem_nil,or_false] at hx
   rcases hx with rfl|rfl|rfl<;>simp[lCut]<;>omega),bsome]
  refine⟨_,_,rfl,⟨rfl,rfl,?_,.inl rfl⟩⟩
  simp[lCut];omega
 rw[if_neg c9]
 by_cases c10:m.x_.Op=10
 ·rw[if_pos c10]
  by_cases cn:m.x_.N=1
  ·rw[if_pos cn,hput,bsome];exact⟨_,_,rfl,⟨rfl,rfl,hst _,.inl rfl⟩⟩
  ·rw[if_neg cn];exact⟨_,_,rfl,⟨rfl,rfl,Nat.le_succ_of_le hc,.inl rfl⟩⟩
 rw[if_neg c10]
 exact⟨_,_,rfl,⟨rfl,rfl,Nat.le_succ_of_le hc,.inl rfl⟩⟩
end Go.Proofs.YtmjcpkmongafnaaGreatDoor.Ss
namespace Go.Proofs.YtmjcpkmongafnaaGreatDoor.Ss
open Go Go.Proofs.YtmjcpkmongafnaaGreatDoor.Ab Go.Proofs.YtmjcpkmongafnaaGreatDoor.TT
theorem cond_any{l:aq} {U:List Nat}(h:Nm l U){r labels:List Int}(hr:r.length<=900)(hl:labels.length<=900):∃b q,dG.f l r labels=some (b,q):=by
 by_cases hm:mayS l U r labels false=0
 ·obtain⟨hc,hR,h4,ha⟩:=kC hm
  obtain⟨t,h1,h2,h3,_⟩:=lA hR
  obtain⟨E,_⟩:=je_of h hc h4 ha
  subst h3
  exact⟨_,_,cond_is h E h1 h2 hr hl hm⟩
 ·exact⟨_,_,cond_no h hr hl hm⟩
theorem kD{l:aq} {U:List Nat}(h:Nm l U){r labels:List Int}(hr:r.length<=900)(hl:labels.length<=900):∃b q,cX.f l r labels=some (b,q):=by
 by_cases hm:mayS l U r labels true=0
 ·obtain⟨hc,hR,h4,ha⟩:=kC hm
  obtain⟨t,h1,h2,h3,_⟩:=lA hR
  obtain⟨E,_⟩:=je_of h hc h4 ha
  subst h3
  exact⟨_,_,label_is h E h1 h2 hr hl hm⟩
 ·exact⟨_,_,label_no h hr hl hm⟩
end Go.Proofs.YtmjcpkmongafnaaGreatDoor.Ss
namespace Go.Proofs.YtmjcpkmongafnaaGreatDoor.Ss
open Go Go.Proofs.YtmjcpkmongafnaaGreatDoor.Ab Go.Proofs.YtmjcpkmongafnaaGreatDoor.TT
theorem ins_of{n:Int} {x:aE}(h:insB n x=true):(0<=x.Op/\x.Op<=12)/\(x.Op=9->0<=x.N/\x.N<=3):=by
 unfold insB at h
 by_cases c1:x.Op=1
 ·exact⟨by omega,fun w=>by omega⟩
 ·rw[if_neg c1] at h
  obtain⟨a,b,_,d⟩:=of_decide_eq_true h
  refine⟨⟨a,b⟩,fun w=>?_⟩
  rw[if_neg (by omega),if_pos w] at d
  exact d
theorem plc_of{v:Int}(h:plaB v=true):0<=v/\v<=12:=by
 have:=of_decide_eq_true h
 exact⟨this.1,this.2⟩
structure RightS(n:Int)(s:ah):Prop where
 code:s.Code.length<=12
 ins:∀x∈s.Code,insB n x=true
 pc:0<=s.Pc.V/\s.Pc.V<=12
 mem:s.Mem.length<=6
 stack:s.Stack.length<=12
 out:s.Out.length<=8
theorem rs_of{n:Int} {s:ah}(h:rightS n s=true):RightS n s:=by
 unfold rightS at h
 simp only[Bool.and_eq_true] at h
 obtain⟨⟨⟨⟨⟨⟨h1,h2⟩,h3⟩,⟨h4,h5⟩,h6⟩,h7⟩,h8⟩,h9⟩:=h
 unfold rightB at h1
 rw[Bool.and_eq_true] at h1
 exact⟨of_decide_eq_true h1.1,List.all_eq_true.1 h1.2,plc_of h2,of_decide_eq_true h4,of_decide_eq_true h5,of_decide_eq_true h6⟩
theorem RightS.sz{n:Int} {s:ah}(h:RightS n s):Sz s:=⟨by have:=h.code;omega,by have:=h.mem;omega,by have:=h.stack;omega,by have:=h.out;omega⟩
def K(l:aq)(s:ah)(m:al)(row:aO):Option (Pn⊕(ah×Int)):=
 dG.f l row.May ([s.Pc.L,m.one_.x0_,m.one_.x1_,m.one_.x2_]:List Int)>>=fun y11=>if (!y11.1)=true then (some (.inl 2)) else (cX.f l row.Res ([s.Pc.L,m.one_.x0_,m.one_.x1_,m.one_.x2_]:List Int)>>=fun y13=>cX.f l row.Pc ([s.Pc.L,m.one_.x0_,m.one_.x1_,m.one_.x2_]:List Int)>>=fun y14=>da.f m y13.1>>=fun y15=>dw.f l (⟨⟨y15.s_.Pc.V,y14.1⟩,y15.s_.Code,y15.s_.Mem,y15.s_.Stack,y15.s_.Out⟩:ah)>>=fun y16=>bA.f y16>>=fun z17=>match z17 with|.inl p18=>some (.inl p18)|.inr y19=>some (.inr ((⟨⟨y15.s_.Pc.V,y14.1⟩,y15.s_.Code,y15.s_.Mem,y15.s_.Stack,y15.s_.Out⟩:ah),0)))
def mach(l:aq)(s:ah)(x:aE)(y:Int):al:=⟨l,s,x,⟨false,0,0⟩,⟨false,0,0⟩,⟨false,0,0⟩,0,⟨y,y,y⟩⟩
theorem code_at{n:Int} {s:ah}(h:RightS n s)(h0:s.Pc.V<(s.Code.length:Int)):∃x,lAt s.Code s.Pc.V=some x/\x∈s.Code:=by
 have p:=h.pc
 have hlt:s.Pc.V.toNat<s.Code.length:=by omega
 have e:s.Pc.V=((s.Pc.V.toNat:Nat):Int):=by omega
 refine⟨s.Code[s.Pc.V.toNat],?_,List.getElem_mem hlt⟩
 have:=br (xs:=s.Code) hlt
 rwa [<-e] at this
inductive Way(l:aq)(s:ah):Prop where
 |off (h:¬s.Pc.V<(s.Code.length:Int)) (e:∀R,cU.B l ⟨R⟩ s=some (.inl 3)):Way l s
 |no (x:aE) (hx:lAt s.Code s.Pc.V=some x) (h:s.Pc.V<(s.Code.length:Int)) (e:∀R,cU.B l ⟨R⟩ s=some (.inl 3)):Way l s
 |halt (x:aE) (hx:lAt s.Code s.Pc.V=some x) (h:s.Pc.V<(s.Code.length:Int)) (e:∀R,cU.B l ⟨R⟩ s=some (.inl 1)):Way l s
 |go (x:aE) (m:al) (y:Int) (hx:lAt s.Code s.Pc.V=some x) (h:s.Pc.V<(s.Code.length:Int)) (op:0<=x.Op/\x.Op<=12) (cn:x.Op=9->0<=x.N/\x.N<=3) (hm:Fine (fun _=>True) (mach l s x y) m) (e:∀R,cU.B l ⟨R⟩ s=(lAt R x.Op>>=fun r=>K l s m r)):Way l s
theorem way{l:aq} {U:List Nat}(h:Nm l U)(hc:chk l U=0){n:Int} {s:ah}(z:RightS n s):Way l s:=by
 obtain⟨y,_,hb⟩:=lC h hc
 have hS:=z.stack
 by_cases h0:s.Pc.V<(s.Code.length:Int)
 ·obtain⟨x,ea,hm⟩:=code_at z h0
  obtain⟨i0,i1⟩:=ins_of (z.ins x hm)
  obtain⟨r,hr,hq⟩:=needs_a (P:=fun _=>True) (a:=mach l s x y) ⟨by show s.Stack.length<=1000;omega,trivial,trivial,trivial,fun _ _=>trivial,fun _ _=>trivial,i0,fun _=>trivial,i1⟩
  have hB:∀R,cU.B l ⟨R⟩ s=(match r with|.inl p7=>some (.inl p7)|.inr y8=>if y8.x_.Op=12 then (some (.inl 1)) else (lAt R y8.x_.Op>>=fun y10=>K l s y8 y10):Option (Pn⊕(ah×Int))):=by
   intro R
   unfold cU.B
   rw[fp,bsome,decide_eq_true h0]
   show (cx.f l>>=_)=_
   rw[hb,bsome,ea,bsome]
   unfold mach at hr
   show (bJ.f (⟨l,s,x,⟨false,0,0⟩,⟨false,0,0⟩,⟨false,0,0⟩,0,⟨(y:Int),(y:Int),(y:Int)⟩⟩:al)>>=_)=_
   rw[hr,bsome]
   cases r<;>rfl
  cases r with
  |inl p=>
   have hp:p=3:=hq
   subst hp
   exact .no x ea h0 hB
  |inr m=>
   have hq:Fine (fun _=>True) (mach l s x y) m:=hq
   have hx:m.x_=x:=hq.x
   by_cases h12:x.Op=12
   ·refine .halt x ea h0 fun R=>?_
    rw[hB R]
    show (if m.x_.Op=12 then _ else _)=_
    rw[hx,if_pos h12]
   ·refine .go x m y ea h0 i0 i1 hq fun R=>?_
    rw[hB R]
    show (if m.x_.Op=12 then _ else _)=_
    rw[hx,if_neg h12]
 ·refine .off h0 fun R=>?_
  unfold cU.B
  rw[fp,bsome,decide_eq_false h0];rfl
def Went(n:Int)(s:ah):Pn⊕(ah×Int)->Prop
 |.inl p=>p=1\/p=2\/p=3
 |.inr (t,q)=>q=0/\rightS n t=true/\t.Code=s.Code/\t.Mem.length=s.Mem.length/\t.Stack.length<=s.Stack.length+1/\(t.Out=s.Out\/∃x,t.Out=s.Out++[x])
theorem K_m{l:aq} {U:List Nat}(h:Nm l U)(hc:chk l U=0){n:Int} {s:ah}(z:RightS n s){x:aE} {m:al} {y:Int}(op:0<=x.Op/\x.Op<=12)(cn:x.Op=9->0<=x.N/\x.N<=3)(hm:Fine (fun _=>True) (mach l s x y) m){row:aO}(h1:row.May.length<=900)(h2:row.Res.length<=900)(h3:row.Pc.length<=900):
  ∃r,K l s m row=some r/\Went (l.Up.length:Int) s r/\(∀p,r=.inl p->p=2\/p=3):=by
 have es:m.s_=s:=hm.s
 have ex:m.x_=x:=hm.x
 have zs:=z.stack
 have zm:=z.mem
 have zo:=z.out
 have zc:=z.code
 unfold K
 obtain⟨b,q,e1⟩:=cond_any h (r:=row.May) (labels:=[s.Pc.L,m.one_.x0_,m.one_.x1_,m.one_.x2_]) h1 (by simp)
 rw[e1,bsome]
 cases b with
 |false=>exact⟨_,rfl,.inr (.inl rfl),fun p hp=>by cases hp;exact .inl rfl⟩
 |true=>
  show∃r,(cX.f l row.Res _>>=_)=some r/\_
  obtain⟨v,q2,e2⟩:=kD h (r:=row.Res) (labels:=[s.Pc.L,m.one_.x0_,m.one_.x1_,m.one_.x2_]) h2 (by simp)
  obtain⟨w,q3,e3⟩:=kD h (r:=row.Pc) (labels:=[s.Pc.L,m.one_.x0_,m.one_.x1_,m.one_.x2_]) h3 (by simp)
  obtain⟨r,e4,k⟩:=does_m (m:=m) (by rw[es];omega) (by rw[es];omega) (by rw[es];omega) hm.lo (by rw[es];exact hm.hi) (fun w=>by rw[ex] at w;exact hm.c w) (fun w=>by rw[ex] at w⊢;exact⟨(cn w).1,hm.g w⟩) v
  have k1:r.s_.Code=s.Code:=by rw[k.code,es]
  have k2:r.s_.Mem.length=s.Mem.length:=by rw[k.mem,es]
  have k3:r.s_.Stack.length<=s.Stack.length+1:=by have:=k.st;rw[es] at this;exact this
  have k4:r.s_.Out=s.Out\/∃x,r.s_.Out=s.Out++[x]:=by have:=k.out;rw[es] at this;exact this
  have k5:r.s_.Out.length<=1000:=by
   rcases k4 with e|⟨x,e⟩<;>rw[e]
   ·omega
   ·rw[List.length_append,List.length_singleton];omega
  rw[e2,bsome,e3,bsome,e4,bsome,j4 h hc (s:=⟨⟨r.s_.Pc.V,w⟩,r.s_.Code,r.s_.Mem,r.s_.Stack,r.s_.Out⟩) ⟨by show r.s_.Code.length<=1000;rw[k1];omega,by show r.s_.Mem.length<=1000;omega,by show r.s_.Stack.length<=1000;omega,k5⟩,bsome,fp,bsome]
  cases hR:rightS (l.Up.length:Int) (⟨⟨r.s_.Pc.V,w⟩,r.s_.Code,r.s_.Mem,r.s_.Stack,r.s_.Out⟩:ah) with
  |false=>exact⟨_,rfl,.inr (.inr rfl),fun p hp=>by cases hp;exact .inr rfl⟩
  |true=>exact⟨_,rfl,⟨rfl,hR,k1,k2,k3,k4⟩,fun p hp=>by cases hp⟩
theorem B_m{l:aq} {U:List Nat}(h:Nm l U)(hc:chk l U=0){n:Int} {s:ah}(z:RightS n s){R:List aO}(hF:Few R)(h13:R.length=13):∃r,cU.B l ⟨R⟩ s=some r/\Went (l.Up.length:Int) s r:=by
 cases way h hc z with
 |off _ e=>exact⟨_,e R,.inr (.inr rfl)⟩
 |no x hx _ e=>exact⟨_,e R,.inr (.inr rfl)⟩
 |halt x hx _ e=>exact⟨_,e R,.inl rfl⟩
 |go x m y hx h0 op cn hm e=>
  have eo:x.Op=((x.Op.toNat:Nat):Int):=by omega
  have hlt:x.Op.toNat<R.length:=by omega
  have hmem:=List.getElem_mem hlt
  obtain⟨r,e1,e2,_⟩:=K_m h hc z op cn hm (row:=R[x.Op.toNat]) (by have:=hF.may _ hmem;omega) (by have:=hF.res _ hmem;omega) (by have:=hF.pc _ hmem;omega)
  refine⟨r,?_,e2⟩
  rw[e R,eo,br hlt,bsome];exact e1
end Go.Proofs.YtmjcpkmongafnaaGreatDoor.Ss
namespace Go.Proofs.YtmjcpkmongafnaaGreatDoor.Ss
open Go Go.Proofs.YtmjcpkmongafnaaGreatDoor.Ab Go.Proofs.YtmjcpkmongafnaaGreatDoor.TT
noncomputable def mayO(l:aq)(U:List Nat)(R:List aO)(s:ah):Int:=if chk l U=0 then (if (chT R).2=0 then (if rightS (l.Up.length:Int) s=true then 0 else 1) else (chT R).2) else chk l U
def nilS:ah:=⟨⟨0,0⟩,[],[],[],[]⟩
theorem one_no{l:aq} {U:List Nat}(h:Nm l U){R:List aO}(hF:Few R){s:ah}(z:Sz s)(hm:mayO l U R s≠0):df.f l ⟨R⟩ s=some (nilS,0,mayO l U R s):=by
 unfold mayO at hm⊢
 unfold df.f
 rw[fU h,bsome]
 by_cases hc:chk l U=0
 ·rw[if_pos hc,if_pos hc,kE hF,bsome]
  by_cases hT:(chT R).2=0
  ·rw[if_pos hT,if_pos hT,j4 h hc z,bsome]
   rw[if_pos hc,if_pos hT] at hm
   cases hr:rightS (l.Up.length:Int) s with
   |false=>rfl
   |true=>rw[hr] at hm;exact absurd rfl hm
  ·rw[if_neg hT,if_neg hT];rfl
 ·rw[if_neg hc,if_neg hc];rfl
theorem ge{l:aq} {U:List Nat} {R:List aO} {s:ah}(hm:mayO l U R s=0):chk l U=0/\(chT R).2=0/\rightS (l.Up.length:Int) s=true:=by
 unfold mayO at hm
 by_cases hc:chk l U=0
 ·rw[if_pos hc] at hm
  by_cases hT:(chT R).2=0
  ·rw[if_pos hT] at hm
   cases hr:rightS (l.Up.length:Int) s with
   |false=>rw[hr] at hm;cases hm
   |true=>exact⟨hc,hT,rfl⟩
  ·rw[if_neg hT] at hm;exact absurd hm hT
 ·rw[if_neg hc] at hm;exact absurd hm hc
theorem one_yes{l:aq} {U:List Nat}(h:Nm l U){R:List aO}(hF:Few R){s:ah}(z:Sz s)(hm:mayO l U R s=0){r:Pn⊕(ah×Int)}(hb:cU.B l ⟨R⟩ s=some r):df.f l ⟨R⟩ s=some ((finD s r).1,(finD s r).2,0):=by
 obtain⟨hc,hT,hr⟩:=ge hm
 unfold df.f cU.f
 rw[fU h,bsome,if_pos hc,kE hF,bsome,if_pos hT,j4 h hc z,bsome,hr,if_neg (by decide),hb,bsome,bsome]
structure Stays(n:Int)(s t:ah)(q:Int):Prop where
 right:rightS n t=true
 code:t.Code=s.Code
 mem:t.Mem.length=s.Mem.length
 out:t.Out=s.Out\/∃x,t.Out=s.Out++[x]
 st:t.Stack.length<=s.Stack.length+1
 q:q=0\/(q=1\/q=2\/q=3)/\t=s
theorem stays{n:Int} {s:ah}(hr:rightS n s=true){r:Pn⊕(ah×Int)}(w:Went n s r):Stays n s (finD s r).1 (finD s r).2:=by
 cases r with
 |inl p=>
  rcases w with rfl|rfl|rfl
  ·exact⟨hr,rfl,rfl,.inl rfl,Nat.le_succ _,.inr ⟨.inl rfl,rfl⟩⟩
  ·exact⟨hr,rfl,rfl,.inl rfl,Nat.le_succ _,.inr ⟨.inr (.inl rfl),rfl⟩⟩
  ·exact⟨hr,rfl,rfl,.inl rfl,Nat.le_succ _,.inr ⟨.inr (.inr rfl),rfl⟩⟩
 |inr p=>
  obtain⟨t,q⟩:=p
  obtain⟨h0,h1,h2,h3,h4,h5⟩:=w
  exact⟨h1,h2,h3,h5,h4,.inl h0⟩
end Go.Proofs.YtmjcpkmongafnaaGreatDoor.Ss
namespace Go.Proofs.YtmjcpkmongafnaaGreatDoor.Ss
open Go Go.Proofs.YtmjcpkmongafnaaGreatDoor.Ab Go.Proofs.YtmjcpkmongafnaaGreatDoor.TT
theorem gt{n:Nat} {a:Int}(h:labB (n:Int) a=true):inn n a=true:=by
 have:=of_decide_eq_true h
 unfold inn
 rw[decide_eq_true this.1,decide_eq_true this.2];rfl
structure Labs(n:Int)(s:ah):Prop where
 pc:labB n s.Pc.L=true
 st:∀x∈s.Stack,labB n x.L=true
 me:∀x∈s.Mem,labB n x.L=true
theorem labs_of{n:Int} {s:ah}(h:rightS n s=true):Labs n s:=by
 unfold rightS at h
 simp only[Bool.and_eq_true] at h
 obtain⟨⟨⟨⟨⟨⟨h1,h2⟩,h3⟩,⟨h4,h5⟩,h6⟩,h7⟩,h8⟩,h9⟩:=h
 refine⟨h3,fun x hx=>?_,fun x hx=>?_⟩
 ·have:=List.all_eq_true.1 h8 x hx
  unfold okS at this
  rw[Bool.and_eq_true] at this
  exact this.1
 ·have:=List.all_eq_true.1 h7 x hx
  unfold okA at this
  rw[Bool.and_eq_true] at this
  exact this.2
theorem ins_l{n:Int} {x:aE}(h:insB n x=true)(h1:x.Op=1):labB n x.L=true:=by
 unfold insB at h
 rw[if_pos h1] at h
 have:=of_decide_eq_true h
 unfold labB
 exact decide_eq_true ⟨this.2.2.1,this.2.2.2⟩
end Go.Proofs.YtmjcpkmongafnaaGreatDoor.Ss
namespace Go.Proofs.YtmjcpkmongafnaaGreatDoor.Ss
open Go Go.Proofs.YtmjcpkmongafnaaGreatDoor.Ab Go.Proofs.YtmjcpkmongafnaaGreatDoor.TT
structure StepOk(l:aq)(R:List aO)(st:ah->ah×Int)(G:ah->Prop):Prop where
 one:∀s,G s->df.f l ⟨R⟩ s=some ((st s).1,(st s).2,0)
 next:∀s,G s->G (st s).1
 sz:∀s,G s->Sz s
theorem j5{l:aq} {U:List Nat}(h:Nm l U){R:List aO}(hF:Few R)(hc:chk l U=0)(hT:(chT R).2=0):∃st,StepOk l R st (fun s=>rightS (l.Up.length:Int) s=true):=by
 refine⟨fun s=>match df.f l ⟨R⟩ s with|some (t,q,_)=>(t,q)|none=>(s,3),?_⟩
 have key:∀s,rightS (l.Up.length:Int) s=true->∃t q,df.f l ⟨R⟩ s=some (t,q,0)/\rightS (l.Up.length:Int) t=true:=by
  intro s hr
  have zr:=rs_of hr
  have hm:mayO l U R s=0:=by unfold mayO;rw[if_pos hc,if_pos hT,if_pos hr]
  obtain⟨r,hb,w⟩:=B_m h hc zr hF (chT_zero hT).1
  exact⟨_,_,one_yes h hF zr.sz hm hb,(stays hr w).right⟩
 refine⟨fun s hs=>?_,fun s hs=>?_,fun s hs=>(rs_of hs).sz⟩
 ·obtain⟨t,q,e,_⟩:=key s hs
  simp only[e]
 ·obtain⟨t,q,e,w⟩:=key s hs
  simp only[e];exact w
def runL(st:ah->ah×Int):Nat->ah->List ah×Int
 |0,s=>([s],0)
 |k+1,s=>if (st s).2=0 then (s::(runL st k (st s).1).1,(runL st k (st s).1).2) else ([s],(st s).2)
section
variable{st:ah->ah×Int}
theorem runL_len:∀(k:Nat) (s:ah),1<=(runL st k s).1.length/\(runL st k s).1.length<=k+1
 |0,s=>⟨Nat.le_refl _,Nat.le_refl _⟩
 |k+1,s=>by
  have:=runL_len k (st s).1
  unfold runL
  split
  ·simp only[List.length_cons];omega
  ·simp only[List.length_singleton];omega
theorem runL_all{G:ah->Prop}(hn:∀s,G s->G (st s).1):∀(k:Nat) (s:ah),G s->∀x∈(runL st k s).1,G x
 |0,s,h,x,hx=>by
  obtain rfl:=List.mem_singleton.1 hx
  exact h
 |k+1,s,h,x,hx=>by
  unfold runL at hx
  split at hx
  ·rcases List.mem_cons.1 hx with rfl|hx
   ·exact h
   ·exact runL_all hn k _ (hn s h) x hx
  ·obtain rfl:=List.mem_singleton.1 hx
   exact h
end
theorem lD{w:Int} {acc:List ah}(h:acc.length<=1000)(x:ah)(q:Int):yOf bR.y0 ((w,acc),0) x q=some (true,((q,acc++[x]),0)):=by
 have hB:200000<=big:=by decide
 show bR.y0 (w,acc) x q=_
 unfold bR.y0
 rw[if_pos (by simp;omega)]
section
variable{l:aq} {R:List aO} {st:ah->ah×Int} {G:ah->Prop}(K:StepOk l R st G)
include K
theorem kG{k:Nat}(hk:k<=900):∀(d i:Nat) (s:ah) (w:Int) (acc:List ah),G s->k=i+d->acc.length<=i->
  (bq.l0 (yOf bR.y0) (k:Int) l ⟨R⟩ s ((w,acc),0) (i:Int)>>=fun o=>match o with|.inl r=>some r|.inr (x22,x23)=>yOf bR.y0 x23 x22 0>>=fun y43=>some y43.2)=some (((runL st d s).2,acc++(runL st d s).1),0)
 |0,i,s,w,acc,hs,e,ha=>by
  rw[bq.l0,if_neg (by omega),bsome]
  show (yOf bR.y0 ((w,acc),0) s 0>>=_)=_
  rw[lD (by omega),bsome];rfl
 |d+1,i,s,w,acc,hs,e,ha=>by
  rw[bq.l0,if_pos (by omega)]
  show ((df.f l ⟨R⟩ s>>=_)>>=_)=_
  rw[K.one s hs,bsome]
  show (((yOf bR.y0 ((w,acc),0) s (st s).2>>=_)>>=_)>>=_)=_
  rw[lD (by omega),bsome]
  show (((if (!true)=true then _ else _)>>=_)>>=_)=_
  rw[if_neg (show ¬(!true)=true by decide),bsome]
  by_cases q:(st s).2=0
  ·have hq:runL st (d+1) s=(s::(runL st d (st s).1).1,(runL st d (st s).1).2):=by
    show (if (st s).2=0 then _ else _)=_
    rw[if_pos q]
   show ((if (!decide ((st s).2=0))=true then _ else bq.l0 (yOf bR.y0) (k:Int) l ⟨R⟩ (st s).1 (((st s).2,acc++[s]),0) (IntKind.i64.wrap ((i:Int)+1)))>>=_)=_
   rw[decide_eq_true q,if_neg (by decide),wS (by omega),kG hk d (i+1) (st s).1 _ _ (K.next s hs) (by omega) (by simp;omega),hq]
   simp
  ·have hq:runL st (d+1) s=([s],(st s).2):=by
    show (if (st s).2=0 then _ else _)=_
    rw[if_neg q]
   show ((if (!decide ((st s).2=0))=true then some (Sum.inl (((st s).2,acc++[s]),0)) else _)>>=_)=_
   rw[decide_eq_false q,if_pos (by decide),bsome,hq]
theorem run_eq{s:ah}(hs:G s){k:Nat}(hk:k<=40):bR.f l ⟨R⟩ s (k:Int)=some ((runL st k s).1,(runL st k s).2,0):=by
 unfold bR.f ee.f
 rw[K.one s hs,bsome,if_pos rfl,if_neg (by omega),bsome,decide_eq_false (show ¬(k:Int)>40 by omega),if_neg (by decide),bsome,if_pos rfl]
 unfold dY.f
 rw[bsome]
 show (bq.f (yOf bR.y0) ((0,[]),0) (k:Int) l ⟨R⟩ s>>=_)=_
 have h:=kG K (k:=k) (by omega) k 0 s 0 [] hs (by omega) (Nat.le_refl _)
 rw[show ((0:Nat):Int)=0 from rfl] at h
 have h2:bq.f (yOf bR.y0) ((0,[]),0) (k:Int) l ⟨R⟩ s=some (((runL st k s).2,[]++(runL st k s).1),0):=by
  refine Eq.trans ?_ h
  unfold bq.f
  refine congrArg (fun F=>bq.l0 (yOf bR.y0) (k:Int) l ⟨R⟩ s ((0,[]),0) 0>>=F) (funext fun o=>?_)
  rcases o with r|⟨x22,x23⟩<;>rfl
 rw[h2,bsome,if_pos rfl];rfl
end
abbrev LastT:=ah×Int×Int×Int×(List aE)×(List az)×(List av)×(List az)
def lastT(s:ah)(q:Int):LastT:=(s,q,s.Pc.V,s.Pc.L,s.Code,s.Mem,s.Stack,s.Out)
theorem yieldL{a:LastT}(x:ah)(q:Int):yOf cd.y0 (a,0) x q=some (true,(lastT x q,0)):=rfl
def lastS(st:ah->ah×Int):Nat->ah->ah
 |0,s=>s
 |k+1,s=>if (st s).2=0 then lastS st k (st s).1 else s
theorem lastS_at{st:ah->ah×Int}:∀(k:Nat) (s:ah),∃pre,(runL st k s).1=pre++[lastS st k s]
 |0,s=>⟨[],rfl⟩
 |k+1,s=>by
  unfold runL lastS
  by_cases q:(st s).2=0
  ·rw[if_pos q,if_pos q]
   obtain⟨pre,e⟩:=lastS_at k (st s).1
   exact⟨s::pre,by rw[e];rfl⟩
  ·rw[if_neg q,if_neg q]
   exact⟨[],rfl⟩
section
variable{l:aq} {R:List aO} {st:ah->ah×Int} {G:ah->Prop}(K:StepOk l R st G)
include K
theorem last_l0{k:Nat}(hk:k<=900):∀(d i:Nat) (s:ah) (a:LastT),G s->k=i+d->
  (bq.l0 (yOf cd.y0) (k:Int) l ⟨R⟩ s (a,0) (i:Int)>>=fun o=>match o with|.inl r=>some r|.inr (x22,x23)=>yOf cd.y0 x23 x22 0>>=fun y43=>some y43.2)=some (lastT (lastS st d s) (runL st d s).2,0)
 |0,i,s,a,hs,e=>by
  rw[bq.l0,if_neg (by omega),bsome]
  show (yOf cd.y0 (a,0) s 0>>=_)=_
  rw[yieldL,bsome];rfl
 |d+1,i,s,a,hs,e=>by
  rw[bq.l0,if_pos (by omega)]
  show ((df.f l ⟨R⟩ s>>=_)>>=_)=_
  rw[K.one s hs,bsome]
  show (((yOf cd.y0 (a,0) s (st s).2>>=_)>>=_)>>=_)=_
  rw[yieldL,bsome]
  show (((if (!true)=true then _ else _)>>=_)>>=_)=_
  rw[if_neg (show ¬(!true)=true by decide),bsome]
  by_cases q:(st s).2=0
  ·have hq:runL st (d+1) s=(s::(runL st d (st s).1).1,(runL st d (st s).1).2):=by
    show (if (st s).2=0 then _ else _)=_
    rw[if_pos q]
   have hl:lastS st (d+1) s=lastS st d (st s).1:=by
    show (if (st s).2=0 then _ else _)=_
    rw[if_pos q]
   show ((if (!decide ((st s).2=0))=true then _ else bq.l0 (yOf cd.y0) (k:Int) l ⟨R⟩ (st s).1 (lastT s (st s).2,0) (IntKind.i64.wrap ((i:Int)+1)))>>=_)=_
   rw[decide_eq_true q,if_neg (by decide),wS (by omega),last_l0 hk d (i+1) (st s).1 _ (K.next s hs) (by omega),hq,hl]
  ·have hq:runL st (d+1) s=([s],(st s).2):=by
    show (if (st s).2=0 then _ else _)=_
    rw[if_neg q]
   have hl:lastS st (d+1) s=s:=by
    show (if (st s).2=0 then _ else _)=_
    rw[if_neg q]
   show ((if (!decide ((st s).2=0))=true then some (Sum.inl (lastT s (st s).2,0)) else _)>>=_)=_
   rw[decide_eq_false q,if_pos (by decide),bsome,hq,hl]
theorem hZ{s:ah}(hs:G s){k:Nat}(hk:k<=40):cd.f l ⟨R⟩ s (k:Int)=some (lastS st k s,(runL st k s).2,0):=by
 unfold cd.f ee.f
 rw[K.one s hs,bsome,if_pos rfl,if_neg (by omega),bsome,decide_eq_false (show ¬(k:Int)>40 by omega),if_neg (by decide),bsome,if_pos rfl]
 unfold dY.f
 rw[bsome]
 show (bq.f (yOf cd.y0) (lastT s 0,0) (k:Int) l ⟨R⟩ s>>=_)=_
 have h:=last_l0 K (k:=k) (by omega) k 0 s (lastT s 0) hs (by omega)
 rw[show ((0:Nat):Int)=0 from rfl] at h
 have h2:bq.f (yOf cd.y0) (lastT s 0,0) (k:Int) l ⟨R⟩ s=some (lastT (lastS st k s) (runL st k s).2,0):=by
  refine Eq.trans ?_ h
  unfold bq.f
  refine congrArg (fun F=>bq.l0 (yOf cd.y0) (k:Int) l ⟨R⟩ s (lastT s 0,0) 0>>=F) (funext fun o=>?_)
  rcases o with r|⟨x22,x23⟩<;>rfl
 rw[h2,bsome,if_pos rfl];rfl
theorem run_far{s:ah}(hs:G s){f:Int}(hf:f<0\/f>40):bR.f l ⟨R⟩ s f=some ([],0,1)/\cd.f l ⟨R⟩ s f=some (nilS,0,1):=by
 have e:((if f<0 then (some true) else (some (decide (f>40))):Option Bool))=some true:=by
  by_cases q:f<0
  ·rw[if_pos q]
  ·rw[if_neg q,decide_eq_true (by omega)]
 unfold bR.f cd.f ee.f
 rw[K.one s hs,bsome,if_pos rfl,e,bsome,if_pos rfl,bsome]
 exact⟨rfl,rfl⟩
end
theorem last_no{l:aq} {U:List Nat}(h:Nm l U){R:List aO}(hF:Few R){s:ah}(z:Sz s)(hm:mayO l U R s≠0)(k:Int):cd.f l ⟨R⟩ s k=some (nilS,0,mayO l U R s):=by
 unfold cd.f ee.f
 rw[one_no h hF z hm,bsome]
 show ((if mayO l U R s=0 then _ else some (mayO l U R s))>>=_)=_
 rw[if_neg hm,bsome,if_neg hm];rfl
end Go.Proofs.YtmjcpkmongafnaaGreatDoor.Ss
namespace Go.Proofs.YtmjcpkmongafnaaGreatDoor.Ss
open Go Go.Proofs.YtmjcpkmongafnaaGreatDoor.Ab Go.Proofs.YtmjcpkmongafnaaGreatDoor.TT
theorem dP{α:Type} {xs:List α} {i:Nat}(h:i<xs.length):xs.drop i=xs[i]::xs.drop (i+1):=List.drop_eq_getElem_cons h
def eqB{α:Type}(f:α->α->Bool):List α->List α->Bool
 |[],[]=>true
 |x::xs,y::ys=>f x y&&eqB f xs ys
 |_,_=>false
section
variable{α β:Type} {f g:α->α->Bool}
theorem eqB_len:∀{xs ys:List α},eqB f xs ys=true->xs.length=ys.length
 |[],[],_=>rfl
 |x::xs,y::ys,h=>by
  unfold eqB at h
  rw[Bool.and_eq_true] at h
  simp[eqB_len h.2]
theorem eqB_ne{xs ys:List α}(h:xs.length≠ys.length):eqB f xs ys=false:=by
 cases q:eqB f xs ys with
 |false=>rfl
 |true=>exact absurd (eqB_len q) h
theorem eqB_refl:∀{xs:List α},(∀x∈xs,f x x=true)->eqB f xs xs=true
 |[],_=>rfl
 |x::xs,h=>by
  unfold eqB
  rw[h x (by simp),eqB_refl fun a ha=>h a (by simp[ha])];rfl
theorem eqB_comm:∀{xs ys:List α},(∀x∈xs,∀y∈ys,f x y=f y x)->eqB f xs ys=eqB f ys xs
 |[],[],_=>rfl
 |[],_::_,_=>rfl
 |_::_,[],_=>rfl
 |x::xs,y::ys,h=>by
  unfold eqB
  rw[h x (by simp) y (by simp),eqB_comm fun a ha b hb=>h a (by simp[ha]) b (by simp[hb])]
theorem loopE{L:Int->Option (Bool⊕Unit)} {xs ys:List α}(hl:xs.length=ys.length)(hn:L (xs.length:Int)=some (.inr ()))
  (hs:∀i (h:i<xs.length) (h':i<ys.length),L (i:Int)=if f xs[i] ys[i]=true then L ((i+1:Nat):Int) else some (.inl false)):L 0=some (if eqB f xs ys=true then .inr () else .inl false):=by
 have key:∀d i,xs.length=i+d->L (i:Int)=some (if eqB f (xs.drop i) (ys.drop i)=true then .inr () else .inl false):=by
  intro d
  induction d with
  |zero=>
   intro i e
   rw[List.drop_eq_nil_of_le (by omega),List.drop_eq_nil_of_le (by omega),show i=xs.length by omega,hn];rfl
  |succ d ih=>
   intro i e
   rw[hs i (by omega) (by omega),dP (show i<xs.length by omega),dP (show i<ys.length by omega)]
   unfold eqB
   cases q:f xs[i] ys[i] with
   |true=>rw[if_pos rfl,ih (i+1) (by omega),Bool.true_and]
   |false=>rw[if_neg (by decide),Bool.false_and,if_neg (by decide)]
 exact key xs.length 0 (by omega)
theorem loopM{L:List β->Int->Option (List β)} {g:α->β} {xs:List α} {M:Nat}(hn:∀acc,L acc (xs.length:Int)=some acc)
  (hs:∀acc i (h:i<xs.length),acc.length<=M+i->L acc (i:Int)=L (acc++[g xs[i]]) ((i+1:Nat):Int)) {acc:List β} (ha:acc.length<=M):L acc 0=some (acc++xs.map g):=by
 have key:∀d i acc,xs.length=i+d->acc.length<=M+i->L acc (i:Int)=some (acc++(xs.drop i).map g):=by
  intro d
  induction d with
  |zero=>
   intro i acc e ha
   rw[List.drop_eq_nil_of_le (by omega),show i=xs.length by omega,hn];simp
  |succ d ih=>
   intro i acc e ha
   rw[hs acc i (by omega) ha,dP (show i<xs.length by omega),ih (i+1) _ (by omega) (by simp;omega),List.map_cons,List.append_assoc];rfl
 exact key xs.length 0 acc (by omega) (by omega)
theorem idxG{L:Int->Option (Int⊕Unit)} {p:α->Bool} {xs:List α}(hn:L (xs.length:Int)=some (.inr ()))
  (hs:∀i (h:i<xs.length),L (i:Int)=if p xs[i]=true then some (.inl (i:Int)) else L ((i+1:Nat):Int)):
  (xs.filter (fun x=> !p x)=xs/\L 0=some (.inr ()))\/∃k,k<xs.length/\L 0=some (.inl (k:Int))/\xs.filter (fun x=> !p x)=xs.take k++(xs.drop (k+1)).filter (fun x=> !p x):=by
 have key:∀d i,xs.length=i+d->((xs.drop i).filter (fun x=> !p x)=xs.drop i/\L (i:Int)=some (.inr ()))\/
   ∃k,i<=k/\k<xs.length/\L (i:Int)=some (.inl (k:Int))/\(xs.drop i).filter (fun x=> !p x)=(xs.drop i).take (k-i)++(xs.drop (k+1)).filter (fun x=> !p x):=by
  intro d
  induction d with
  |zero=>
   intro i e
   refine .inl ⟨?_,?_⟩
   ·rw[List.drop_eq_nil_of_le (by omega)];rfl
   ·rw[show i=xs.length by omega,hn]
  |succ d ih=>
   intro i e
   have hi:i<xs.length:=by omega
   rw[hs i hi,dP hi]
   cases q:p xs[i] with
   |true=>
    refine .inr ⟨i,Nat.le_refl _,hi,?_,?_⟩
    ·rw[if_pos rfl]
    ·rw[Nat.sub_self,List.filter_cons_of_neg (by simp[q])];rfl
   |false=>
    rw[if_neg (by decide)]
    rcases ih (i+1) (by omega) with ⟨h1,h2⟩|⟨k,k1,k2,k3,k4⟩
    ·refine .inl ⟨?_,h2⟩
     rw[List.filter_cons_of_pos (by simp[q]),h1]
    ·refine .inr ⟨k,by omega,k2,k3,?_⟩
     rw[List.filter_cons_of_pos (by simp[q]),k4,show k-i=(k-(i+1))+1 by omega];rfl
 rcases key xs.length 0 (by omega) with h|⟨k,_,k2,k3,k4⟩
 ·exact .inl h
 ·exact .inr ⟨k,k2,k3,k4⟩
end
end Go.Proofs.YtmjcpkmongafnaaGreatDoor.Ss
namespace Go.Proofs.YtmjcpkmongafnaaGreatDoor.Ss
open Go Go.Proofs.YtmjcpkmongafnaaGreatDoor.Ab Go.Proofs.YtmjcpkmongafnaaGreatDoor.TT
def seeB(U:List Nat)(o a:Int):Bool:=le U a.toNat o.toNat
section
variable{l:aq} {U:List Nat}(h:Nm l U)(hc:chk l U=0)
include h hc
theorem lE{a o:Int}(ha:inn U.length a=true)(ho:inn U.length o=true):cP.f l a o=some (seeB U o a,0):=by
 obtain⟨i,rfl,hi⟩:=iX ha
 obtain⟨j,rfl,hj⟩:=iX ho
 exact(yes2 h hc hi hj).1
theorem fu{a o:Int}(ha:inn U.length a=true)(ho:inn U.length o=true):bj.f ⟨l,o⟩ a=some (seeB U o a):=by
 unfold bj.f
 rw[lE h hc ha ho,bsome]
end
def atomE(U:List Nat)(o:Int)(x y:az):Bool:=decide (x.L=y.L)&&(!seeB U o x.L||decide (x.V=y.V))
def slotE(U:List Nat)(o:Int)(x y:av):Bool:=decide (x.Ret=y.Ret)&&(decide (x.L=y.L)&&(!seeB U o x.L||decide (x.V=y.V)))
def instrE(U:List Nat)(o:Int)(x y:aE):Bool:=(decide (x.Op=y.Op)&&(decide (x.Op=1)||decide (x.N=y.N)))&&(decide (x.L=y.L)&&(!seeB U o x.L||decide (x.N=y.N)))
theorem ef_instr{xs ys:List aE} {g:aE->aE->Option Bool} {f:aE->aE->Bool}(hx:xs.length<=1000)(hg:∀x∈xs,∀y∈ys,g x y=some (f x y)):aB.f xs ys g=some (eqB f xs ys):=by
 unfold aB.f
 by_cases hl:xs.length=ys.length
 ·rw[if_pos (by omega),loopE (f:=f) (L:=aB.l0 xs ys g) hl (by rw[aB.l0,if_neg (by omega)]) (fun i h h'=>by
   rw[aB.l0,if_pos (by omega),br h,bsome,br h',bsome,hg _ (List.getElem_mem h) _ (List.getElem_mem h'),bsome,wS (by omega)]
   cases f xs[i] ys[i]<;>rfl),bsome]
  cases eqB f xs ys<;>rfl
 ·rw[if_neg (by omega),eqB_ne hl]
section
variable{l:aq} {U:List Nat}(h:Nm l U)(hc:chk l U=0){o:Int}(ho:inn U.length o=true)
include h hc ho
theorem one_instr{x y:aE}(ha:inn U.length x.L=true):bX.f x y ⟨some cL.f,some dc.f,some dl.f⟩ ⟨l,o⟩=some (instrE U o x y):=by
 have e:=fu h hc ha ho
 unfold bX.f instrE
 have e1:cL.f x y=some (decide (x.Op=y.Op)&&(decide (x.Op=1)||decide (x.N=y.N))):=by
  unfold cL.f
  by_cases p:x.Op=y.Op
  ·rw[if_pos p,decide_eq_true p]
   by_cases r:x.Op=1
   ·rw[if_pos r,decide_eq_true r];rfl
   ·rw[if_neg r,decide_eq_false r];rfl
  ·rw[if_neg p,decide_eq_false p];rfl
 show ((cL.f x y>>=fun y17=>if y17=true then (some x.L>>=fun y20=>some y.L>>=fun y22=>if y20=y22 then (some x.L>>=fun y25=>bj.f ⟨l,o⟩ y25>>=fun y26=>if (!y26)=true then (some true) else (some (decide (x.N=y.N))>>=fun y29=>some y29)) else (some false)) else (some false):Option Bool)>>=fun x15=>some x15)=_
 rw[e1,bsome]
 cases (decide (x.Op=y.Op)&&(decide (x.Op=1)||decide (x.N=y.N))) with
 |true=>
  rw[if_pos rfl,bsome,bsome]
  by_cases q:x.L=y.L
  ·rw[if_pos q,bsome,e,bsome,decide_eq_true q]
   cases seeB U o x.L<;>rfl
  ·rw[if_neg q,decide_eq_false q];rfl
 |false=>rfl
theorem lZ{xs ys:List aE}(hx:xs.length<=1000)(ha:∀x∈xs,inn U.length x.L=true){k:cf}(hk:cy.f=some k):bZ.f ⟨l,o⟩ k xs ys=some (eqB (instrE U o) xs ys):=by
 obtain rfl:=Option.some.inj hk
 unfold bZ.f
 rw[ef_instr (f:=instrE U o) hx (fun x hxm y _=>one_instr h hc ho (ha x hxm)),bsome]
end
theorem ef_atom{xs ys:List az} {g:az->az->Option Bool} {f:az->az->Bool}(hx:xs.length<=1000)(hg:∀x∈xs,∀y∈ys,g x y=some (f x y)):aC.f xs ys g=some (eqB f xs ys):=by
 unfold aC.f
 by_cases hl:xs.length=ys.length
 ·rw[if_pos (by omega),loopE (f:=f) (L:=aC.l0 xs ys g) hl (by rw[aC.l0,if_neg (by omega)]) (fun i h h'=>by
   rw[aC.l0,if_pos (by omega),br h,bsome,br h',bsome,hg _ (List.getElem_mem h) _ (List.getElem_mem h'),bsome,wS (by omega)]
   cases f xs[i] ys[i]<;>rfl),bsome]
  cases eqB f xs ys<;>rfl
 ·rw[if_neg (by omega),eqB_ne hl]
section
variable{l:aq} {U:List Nat}(h:Nm l U)(hc:chk l U=0){o:Int}(ho:inn U.length o=true)
include h hc ho
theorem one_atom{x y:az}(ha:inn U.length x.L=true):ck.f x y ⟨some eh.f,some dS.f,some er.f⟩ ⟨l,o⟩=some (atomE U o x y):=by
 have e:=fu h hc ha ho
 unfold ck.f atomE
 show ((some x.L>>=fun y20=>some y.L>>=fun y22=>if y20=y22 then (some x.L>>=fun y25=>bj.f ⟨l,o⟩ y25>>=fun y26=>if (!y26)=true then (some true) else (some (decide (x.V=y.V))>>=fun y29=>some y29)) else (some false):Option Bool)>>=fun x15=>some x15)=_
 rw[bsome,bsome]
 by_cases q:x.L=y.L
 ·rw[if_pos q,bsome,e,bsome,decide_eq_true q]
  cases seeB U o x.L<;>rfl
 ·rw[if_neg q,decide_eq_false q];rfl
theorem mw{xs ys:List az}(hx:xs.length<=1000)(ha:∀x∈xs,inn U.length x.L=true){k:ci}(hk:dI.f=some k):cM.f ⟨l,o⟩ k xs ys=some (eqB (atomE U o) xs ys):=by
 obtain rfl:=Option.some.inj hk
 unfold cM.f
 rw[ef_atom (f:=atomE U o) hx (fun x hxm y _=>one_atom h hc ho (ha x hxm)),bsome]
end
theorem ef_slot{xs ys:List av} {g:av->av->Option Bool} {f:av->av->Bool}(hx:xs.length<=1000)(hg:∀x∈xs,∀y∈ys,g x y=some (f x y)):aD.f xs ys g=some (eqB f xs ys):=by
 unfold aD.f
 by_cases hl:xs.length=ys.length
 ·rw[if_pos (by omega),loopE (f:=f) (L:=aD.l0 xs ys g) hl (by rw[aD.l0,if_neg (by omega)]) (fun i h h'=>by
   rw[aD.l0,if_pos (by omega),br h,bsome,br h',bsome,hg _ (List.getElem_mem h) _ (List.getElem_mem h'),bsome,wS (by omega)]
   cases f xs[i] ys[i]<;>rfl),bsome]
  cases eqB f xs ys<;>rfl
 ·rw[if_neg (by omega),eqB_ne hl]
section
variable{l:aq} {U:List Nat}(h:Nm l U)(hc:chk l U=0){o:Int}(ho:inn U.length o=true)
include h hc ho
theorem one_slot{x y:av}(ha:inn U.length x.L=true):cq.f x y ⟨some et.f,some dU.f,some eu.f⟩ ⟨l,o⟩=some (slotE U o x y):=by
 have e:=fu h hc ha ho
 unfold cq.f slotE
 show ((some (decide (x.Ret=y.Ret))>>=fun y17=>if y17=true then (some x.L>>=fun y20=>some y.L>>=fun y22=>if y20=y22 then (some x.L>>=fun y25=>bj.f ⟨l,o⟩ y25>>=fun y26=>if (!y26)=true then (some true) else (some (decide (x.V=y.V))>>=fun y29=>some y29)) else (some false)) else (some false):Option Bool)>>=fun x15=>some x15)=_
 rw[bsome]
 by_cases r:x.Ret=y.Ret
 ·rw[decide_eq_true r,if_pos rfl,bsome,bsome]
  by_cases q:x.L=y.L
  ·rw[if_pos q,bsome,e,bsome,decide_eq_true q]
   cases seeB U o x.L<;>rfl
  ·rw[if_neg q,decide_eq_false q];rfl
 ·rw[decide_eq_false r];rfl
theorem jM{xs ys:List av}(hx:xs.length<=1000)(ha:∀x∈xs,inn U.length x.L=true){k:cj}(hk:dE.f=some k):ct.f ⟨l,o⟩ k xs ys=some (eqB (slotE U o) xs ys):=by
 obtain rfl:=Option.some.inj hk
 unfold ct.f
 rw[ef_slot (f:=slotE U o) hx (fun x hxm y _=>one_slot h hc ho (ha x hxm)),bsome]
end
theorem gA{g:ah->Option Bool} {p:ah->Bool}(ys:List ah)(hg:∀x∈ys,g x=some (p x)):∀(d i w:Nat) (v:List ah),v.length=i+d->w<i->v.length<=1000->(∀x∈v.drop i,x∈ys)->
  ∃v' w':_,aG.l0 g v (w:Int) (i:Int)=some (v',((w':Nat):Int))/\v'.length=v.length/\w'<=v.length/\v'.take w'=v.take w++(v.drop i).filter (fun x=> !p x)
 |0,i,w,v,e,hw,hl,hm=>by
  refine⟨v,w,?_,rfl,by omega,?_⟩
  ·rw[aG.l0,if_neg (by omega)]
  ·rw[List.drop_eq_nil_of_le (by omega)];simp
 |d+1,i,w,v,e,hw,hn,hm=>by
  have hi:i<v.length:=by omega
  have hx:v[i]∈ys:=hm _ (by rw[dP hi];exact List.mem_cons_self)
  have ht:∀x∈v.drop (i+1),x∈ys:=fun x h=>hm x (by rw[dP hi];exact List.mem_cons_of_mem _ h)
  cases q:p v[i] with
  |true=>
   obtain⟨v',w',a1,a2,a3,a4⟩:=gA ys hg d (i+1) w v (by omega) (by omega) hn ht
   refine⟨v',w',?_,a2,a3,?_⟩
   ·rw[aG.l0,if_pos (by omega),br hi,bsome,hg _ hx,bsome,q,if_neg (by decide),bsome]
    show aG.l0 g v (w:Int) (IntKind.i64.wrap ((i:Int)+1))=_
    rw[wS (by omega),a1]
   ·rw[a4,dP hi,List.filter_cons_of_neg (by simp[q])]
  |false=>
   have hd:(v.set w v[i]).drop (i+1)=v.drop (i+1):=by rw[List.drop_set_of_lt (by omega)]
   obtain⟨v',w',a1,a2,a3,a4⟩:=gA ys hg d (i+1) (w+1) (v.set w v[i]) (by rw[List.length_set];omega) (by omega) (by rw[List.length_set];omega) (by rw[hd];exact ht)
   rw[List.length_set] at a2 a3
   refine⟨v',w',?_,a2,a3,?_⟩
   ·rw[aG.l0,if_pos (by omega),br hi,bsome,hg _ hx,bsome,q,if_pos (by decide),br (show w<v.length by omega),bsome,bsome]
    show aG.l0 g (v.set (w:Int).toNat v[i]) (IntKind.i64.wrap ((w:Int)+1)) (IntKind.i64.wrap ((i:Int)+1))=_
    rw[wS (by omega),wS (by omega),Int.toNat_natCast,a1]
   ·rw[a4,hd,dP hi,List.filter_cons_of_pos (by simp[q]),List.take_succ_eq_append_getElem (by rw[List.length_set];omega),List.getElem_set_self,List.take_set_of_le (Nat.le_refl _)];simp
theorem del_state{xs:List ah} {g:ah->Option Bool} {p:ah->Bool}(hx:xs.length<=1000)(hg:∀x∈xs,g x=some (p x)):aG.f xs g=some (xs.filter (fun x=> !p x)):=by
 unfold aG.f aM.f
 rcases idxG (xs:=xs) (L:=aM.l0 xs g) (p:=p) (by rw[aM.l0,if_neg (by omega)]) (fun i hi=>by
  rw[aM.l0,if_pos (by omega),br hi,bsome,hg _ (List.getElem_mem hi),bsome,wS (by omega)]) with ⟨h1,h2⟩|⟨k,k2,k3,k4⟩
 ·rw[h2,bsome]
  show ((some (-1):Option Int)>>=_)=_
  rw[bsome,if_pos rfl,h1]
 ·rw[k3,bsome]
  show ((some (k:Int):Option Int)>>=_)=_
  rw[bsome,if_neg (by omega),wS (by omega)]
  obtain⟨v',w',a1,a2,a3,a4⟩:=gA (p:=p) xs hg (xs.length-(k+1)) (k+1) k xs (by omega) (by omega) hx (fun x h=>List.mem_of_mem_drop h)
  rw[a1,bsome]
  show (if (0:Int)<=(w':Int)/\(w':Int)<=(v'.length:Int) then _ else none)=_
  rw[if_pos (by omega),Int.toNat_natCast]
  have hl:(v'.take w'++List.replicate (v'.length-w') (⟨⟨0,0⟩,[],[],[],[]⟩:ah)).length=v'.length:=by simp;omega
  rw[if_pos (by rw[hl];omega),List.take_append_of_le_length (by simp;omega),List.take_of_length_le (by simp;omega),a4,k4]
theorem gV{g:az->Option Bool} {p:az->Bool}(ys:List az)(hg:∀x∈ys,g x=some (p x)):∀(d i w:Nat) (v:List az),v.length=i+d->w<i->v.length<=1000->(∀x∈v.drop i,x∈ys)->
  ∃v' w':_,aF.l0 g v (w:Int) (i:Int)=some (v',((w':Nat):Int))/\v'.length=v.length/\w'<=v.length/\v'.take w'=v.take w++(v.drop i).filter (fun x=> !p x)
 |0,i,w,v,e,hw,hl,hm=>by
  refine⟨v,w,?_,rfl,by omega,?_⟩
  ·rw[aF.l0,if_neg (by omega)]
  ·rw[List.drop_eq_nil_of_le (by omega)];simp
 |d+1,i,w,v,e,hw,hn,hm=>by
  have hi:i<v.length:=by omega
  have hx:v[i]∈ys:=hm _ (by rw[dP hi];exact List.mem_cons_self)
  have ht:∀x∈v.drop (i+1),x∈ys:=fun x h=>hm x (by rw[dP hi];exact List.mem_cons_of_mem _ h)
  cases q:p v[i] with
  |true=>
   obtain⟨v',w',a1,a2,a3,a4⟩:=gV ys hg d (i+1) w v (by omega) (by omega) hn ht
   refine⟨v',w',?_,a2,a3,?_⟩
   ·rw[aF.l0,if_pos (by omega),br hi,bsome,hg _ hx,bsome,q,if_neg (by decide),bsome]
    show aF.l0 g v (w:Int) (IntKind.i64.wrap ((i:Int)+1))=_
    rw[wS (by omega),a1]
   ·rw[a4,dP hi,List.filter_cons_of_neg (by simp[q])]
  |false=>
   have hd:(v.set w v[i]).drop (i+1)=v.drop (i+1):=by rw[List.drop_set_of_lt (by omega)]
   obtain⟨v',w',a1,a2,a3,a4⟩:=gV ys hg d (i+1) (w+1) (v.set w v[i]) (by rw[List.length_set];omega) (by omega) (by rw[List.length_set];omega) (by rw[hd];exact ht)
   rw[List.length_set] at a2 a3
   refine⟨v',w',?_,a2,a3,?_⟩
   ·rw[aF.l0,if_pos (by omega),br hi,bsome,hg _ hx,bsome,q,if_pos (by decide),br (show w<v.length by omega),bsome,bsome]
    show aF.l0 g (v.set (w:Int).toNat v[i]) (IntKind.i64.wrap ((w:Int)+1)) (IntKind.i64.wrap ((i:Int)+1))=_
    rw[wS (by omega),wS (by omega),Int.toNat_natCast,a1]
   ·rw[a4,hd,dP hi,List.filter_cons_of_pos (by simp[q]),List.take_succ_eq_append_getElem (by rw[List.length_set];omega),List.getElem_set_self,List.take_set_of_le (Nat.le_refl _)];simp
theorem lF{xs:List az} {g:az->Option Bool} {p:az->Bool}(hx:xs.length<=1000)(hg:∀x∈xs,g x=some (p x)):aF.f xs g=some (xs.filter (fun x=> !p x)):=by
 unfold aF.f aK.f
 rcases idxG (xs:=xs) (L:=aK.l0 xs g) (p:=p) (by rw[aK.l0,if_neg (by omega)]) (fun i hi=>by
  rw[aK.l0,if_pos (by omega),br hi,bsome,hg _ (List.getElem_mem hi),bsome,wS (by omega)]) with ⟨h1,h2⟩|⟨k,k2,k3,k4⟩
 ·rw[h2,bsome]
  show ((some (-1):Option Int)>>=_)=_
  rw[bsome,if_pos rfl,h1]
 ·rw[k3,bsome]
  show ((some (k:Int):Option Int)>>=_)=_
  rw[bsome,if_neg (by omega),wS (by omega)]
  obtain⟨v',w',a1,a2,a3,a4⟩:=gV (p:=p) xs hg (xs.length-(k+1)) (k+1) k xs (by omega) (by omega) hx (fun x h=>List.mem_of_mem_drop h)
  rw[a1,bsome]
  show (if (0:Int)<=(w':Int)/\(w':Int)<=(v'.length:Int) then _ else none)=_
  rw[if_pos (by omega),Int.toNat_natCast]
  have hl:(v'.take w'++List.replicate (v'.length-w') (⟨0,0⟩:az)).length=v'.length:=by simp;omega
  rw[if_pos (by rw[hl];omega),List.take_append_of_le_length (by simp;omega),List.take_of_length_le (by simp;omega),a4,k4]
theorem l4{xs ys:List az}(hx:xs.length<=1000):aY.f xs ys=some (eqB (fun x y=>decide (x=y)) xs ys):=by
 unfold aY.f
 by_cases hl:xs.length=ys.length
 ·rw[if_pos (by omega),loopE (f:=fun x y=>decide (x=y)) (L:=aY.l0 xs ys) hl (by rw[aY.l0,if_neg (by omega)]) (fun i h h'=>by
   rw[aY.l0,if_pos (by omega),br h,bsome,br h',bsome,wS (by omega)]
   by_cases q:xs[i]=ys[i]
   ·rw[if_pos q,decide_eq_true q,if_pos rfl]
   ·rw[if_neg q,decide_eq_false q,if_neg (by decide)]),bsome]
  cases eqB (fun x y=>decide (x=y)) xs ys<;>rfl
 ·rw[if_neg (by omega),eqB_ne hl]
end Go.Proofs.YtmjcpkmongafnaaGreatDoor.Ss
namespace Go.Proofs.YtmjcpkmongafnaaGreatDoor.Ss
open Go Go.Proofs.YtmjcpkmongafnaaGreatDoor.Ab Go.Proofs.YtmjcpkmongafnaaGreatDoor.TT
theorem w01:IntKind.i64.wrap (0+1)=1:=by decide
theorem w12:IntKind.i64.wrap (1+1)=2:=by decide
theorem w23:IntKind.i64.wrap (2+1)=3:=by decide
theorem w34:IntKind.i64.wrap (3+1)=4:=by decide
theorem jN{xs:List aE} {acc:List Int}(hx:xs.length<=1000)(ha:acc.length<=10000){k:cf}(hk:cy.f=some k):aS.l3 k xs acc 0=some (acc++xs.map (·.L)):=by
 obtain rfl:=Option.some.inj hk
 have hB:200000<=big:=by decide
 exact loopM (M:=10000) (L:=fun a i=>aS.l3 _ xs a i) (g:=fun x:aE=>x.L) (fun a=>by
  show aS.l3 _ xs a _=_
  rw[aS.l3,if_neg (by omega)]) (fun a i h q=>by
  show aS.l3 _ xs a _=aS.l3 _ xs (a++[xs[i].L]) _
  rw[aS.l3,if_pos (by omega),br h,bsome]
  show ((some dc.f:Option (aE->Option Int))>>=_)=_
  rw[bsome]
  show ((some xs[i].L:Option Int)>>=_)=_
  rw[bsome,if_pos (by simp;omega),wS (by omega)]) ha
theorem lab_instr{a b:List aE}(ha:a.length<=1000)(hb:b.length<=1000){k:cf}(hk:cy.f=some k):aS.f k [a,b]=some (a.map (·.L)++b.map (·.L)):=by
 unfold aS.f
 rw[aS.l2,if_pos (by simp),show lAt [a,b] 0=some a from rfl,bsome,jN ha (by simp) hk,bsome,w01,aS.l2,if_pos (by simp),show lAt [a,b] 1=some b from rfl,bsome,jN hb (by simp;omega) hk,bsome,w12,aS.l2,if_neg (by simp)];rfl
theorem gO{xs:List az} {acc:List Int}(hx:xs.length<=1000)(ha:acc.length<=10000){k:ci}(hk:dI.f=some k):aQ.l3 k xs acc 0=some (acc++xs.map (·.L)):=by
 obtain rfl:=Option.some.inj hk
 have hB:200000<=big:=by decide
 exact loopM (M:=10000) (L:=fun a i=>aQ.l3 _ xs a i) (g:=fun x:az=>x.L) (fun a=>by
  show aQ.l3 _ xs a _=_
  rw[aQ.l3,if_neg (by omega)]) (fun a i h q=>by
  show aQ.l3 _ xs a _=aQ.l3 _ xs (a++[xs[i].L]) _
  rw[aQ.l3,if_pos (by omega),br h,bsome]
  show ((some dS.f:Option (az->Option Int))>>=_)=_
  rw[bsome]
  show ((some xs[i].L:Option Int)>>=_)=_
  rw[bsome,if_pos (by simp;omega),wS (by omega)]) ha
theorem kH{xs:List av} {acc:List Int}(hx:xs.length<=1000)(ha:acc.length<=10000){k:cj}(hk:dE.f=some k):aT.l3 k xs acc 0=some (acc++xs.map (·.L)):=by
 obtain rfl:=Option.some.inj hk
 have hB:200000<=big:=by decide
 exact loopM (M:=10000) (L:=fun a i=>aT.l3 _ xs a i) (g:=fun x:av=>x.L) (fun a=>by
  show aT.l3 _ xs a _=_
  rw[aT.l3,if_neg (by omega)]) (fun a i h q=>by
  show aT.l3 _ xs a _=aT.l3 _ xs (a++[xs[i].L]) _
  rw[aT.l3,if_pos (by omega),br h,bsome]
  show ((some dU.f:Option (av->Option Int))>>=_)=_
  rw[bsome]
  show ((some xs[i].L:Option Int)>>=_)=_
  rw[bsome,if_pos (by simp;omega),wS (by omega)]) ha
theorem lab_slot{a b:List av}(ha:a.length<=1000)(hb:b.length<=1000){k:cj}(hk:dE.f=some k):aT.f k [a,b]=some (a.map (·.L)++b.map (·.L)):=by
 unfold aT.f
 rw[aT.l2,if_pos (by simp),show lAt [a,b] 0=some a from rfl,bsome,kH ha (by simp) hk,bsome,w01,aT.l2,if_pos (by simp),show lAt [a,b] 1=some b from rfl,bsome,kH hb (by simp;omega) hk,bsome,w12,aT.l2,if_neg (by simp)];rfl
theorem lab4_atom{a b c d:List az}(ha:a.length<=1000)(hb:b.length<=1000)(hc:c.length<=1000)(hd:d.length<=1000){k:ci}(hk:dI.f=some k):aQ.f k [a,b,c,d]=some (a.map (·.L)++b.map (·.L)++c.map (·.L)++d.map (·.L)):=by
 unfold aQ.f
 rw[aQ.l2,if_pos (by simp),show lAt [a,b,c,d] 0=some a from rfl,bsome,gO ha (by simp) hk,bsome,w01,aQ.l2,if_pos (by simp),show lAt [a,b,c,d] 1=some b from rfl,bsome,gO hb (by simp;omega) hk,bsome,w12,aQ.l2,if_pos (by simp),show lAt [a,b,c,d] 2=some c from rfl,bsome,gO hc (by simp;omega) hk,bsome,w23,aQ.l2,if_pos (by simp),show lAt [a,b,c,d] 3=some d from rfl,bsome,gO hd (by simp;omega) hk,bsome,w34,aQ.l2,if_neg (by simp)];rfl
theorem lG{xss:List (List Int)}(h:∀x∈xss,x.length<=1000):xss.flatten.length<=xss.length*1000:=by
 induction xss with
 |nil=>simp
 |cons a r ih=>
  have ha:=h a (by simp)
  have:=ih (fun x hx=>h x (by simp[hx]))
  simp only[List.flatten_cons,List.length_append,List.length_cons,Nat.succ_mul]
  omega
theorem jO{xss:List (List Int)}(hn:xss.length<=100)(h:∀x∈xss,x.length<=1000):∀(d k:Nat) (v:Nat),xss.length=k+d->v<=k*1000->aV.l0 xss (k:Int) (v:Int)=some ((v+(xss.drop k).flatten.length:Nat):Int)
 |0,k,v,e,hv=>by
  rw[aV.l0,if_neg (by omega),List.drop_of_length_le (by omega)];simp
 |d+1,k,v,e,hv=>by
  have hk:k<xss.length:=by omega
  have hx:=h xss[k] (List.getElem_mem hk)
  have ih:=jO hn h d (k+1) (v+xss[k].length) (by omega) (by rw[Nat.succ_mul];omega)
  have hw:IntKind.i64.wrap ((v:Int)+(xss[k].length:Int))=((v+xss[k].length:Nat):Int):=by rw[wrapZ (by omega) (by omega)];omega
  rw[aV.l0,if_pos (by omega),br hk,bsome,hw,if_neg (by omega),bsome,wS (by omega),ih,List.drop_eq_getElem_cons hk]
  simp only[List.flatten_cons,List.length_append]
  rw[Nat.add_assoc]
theorem jP{xss:List (List Int)}(hn:xss.length<=100)(h:∀x∈xss,x.length<=1000):∀(d k:Nat) (v:List Int),xss.length=k+d->v.length<=k*1000->aV.l1 xss v (k:Int)=some (v++(xss.drop k).flatten)
 |0,k,v,e,hv=>by
  rw[aV.l1,if_neg (by omega),List.drop_of_length_le (by omega)];simp
 |d+1,k,v,e,hv=>by
  have hk:k<xss.length:=by omega
  have hx:=h xss[k] (List.getElem_mem hk)
  have hB:10000000<=big:=by decide
  have ih:=jP hn h d (k+1) (v++xss[k]) (by omega) (by rw[Nat.succ_mul];simp;omega)
  rw[aV.l1,if_pos (by omega),br hk,bsome,if_pos (by omega),wS (by omega),ih,List.drop_eq_getElem_cons hk]
  simp only[List.flatten_cons,List.append_assoc]
theorem grow_eqI{n:Nat}(h:n<=100000):di.f (n:Int)=some []:=by
 unfold di.f
 have h1:IntKind.i64.wrap (0-(([]:List Int).length:Int))=0:=by decide
 have h2:IntKind.i64.wrap ((n:Int)-0)=(n:Int):=by rw[wrapZ (by omega) (by omega)];omega
 have hB:10000000<=big:=by decide
 rw[if_neg (by omega),h1,h2]
 by_cases h0:(n:Int)>0
 ·rw[if_pos h0,if_pos ⟨h0,by simp;omega⟩,if_pos ⟨by simp,by simp⟩];rfl
 ·rw[if_neg h0]
theorem mx{xss:List (List Int)}(hn:xss.length<=100)(h:∀x∈xss,x.length<=1000):aV.f xss=some xss.flatten:=by
 unfold aV.f
 have h1:=jO hn h xss.length 0 0 (by omega) (by omega)
 have h2:=jP hn h xss.length 0 [] (by omega) (by simp)
 have h3:=lG h
 have h4:xss.length*1000<=100*1000:=Nat.mul_le_mul_right _ hn
 rw[show ((0:Nat):Int)=0 from rfl,List.drop_zero,Nat.zero_add] at h1
 rw[show ((0:Nat):Int)=0 from rfl,List.drop_zero,List.nil_append] at h2
 rw[h1,bsome,grow_eqI (by omega),bsome,h2,bsome]
def keepN(p:Nat->Bool):Nat->Nat
 |0=>0
 |k+1=>if p k=true then k+1 else keepN p k
def retB(U:List Nat)(o:Int)(S:List av)(i:Nat):Bool:=(S.getD i ⟨false,0,0⟩).Ret&&seeB U o (S.getD i ⟨false,0,0⟩).L
def cropL(U:List Nat)(o:Int)(S:List av):List av:=S.take (keepN (retB U o S) S.length)
section
variable{l:aq} {U:List Nat}(h0:Nm l U)(hc:chk l U=0){o:Int}(ho:inn U.length o=true)
include h0 hc ho
theorem crop_l0{S:List av}(hx:S.length<=1000)(ha:∀x∈S,inn U.length x.L=true):∀k,k<=S.length->cO.l0 ⟨l,o⟩ S ((k:Int)-1)=some (if 0<keepN (retB U o S) k then .inl (S.take (keepN (retB U o S) k)) else .inr ())
 |0,_=>by
  rw[cO.l0,if_neg (by omega)];rfl
 |k+1,hk=>by
  have hi:k<S.length:=by omega
  have eg:S.getD k ⟨false,0,0⟩=S[k]:=by simp[hi]
  have e1:((if S[k].Ret=true then (lAt S (k:Int)>>=fun y34=>bj.f ⟨l,o⟩ y34.L>>=fun y35=>some y35) else (some false):Option Bool))=some (retB U o S k):=by
   unfold retB
   rw[eg,br hi,bsome,fu h0 hc (ha _ (List.getElem_mem hi)) ho,bsome]
   cases S[k].Ret<;>rfl
  rw[cO.l0,if_pos (by omega),show (((k+1:Nat):Int)-1)=(k:Int) by omega,br hi,bsome,<-br hi]
  show ((if S[k].Ret=true then (lAt S (k:Int)>>=fun y34=>bj.f ⟨l,o⟩ y34.L>>=fun y35=>some y35) else (some false):Option Bool)>>=_)=_
  rw[e1,bsome]
  cases q:retB U o S k with
  |true=>
   rw[if_pos rfl,wS (by omega),if_pos (by omega),show keepN (retB U o S) (k+1)=k+1 from if_pos q,if_pos (by omega),lCut0]
  |false=>
   rw[if_neg ff,show keepN (retB U o S) (k+1)=keepN (retB U o S) k from if_neg (by rw[q];decide),wrapZ (by omega) (by omega)]
   exact crop_l0 hx ha k (by omega)
theorem crop_p{S:List av}(hx:S.length<=1000)(ha:∀x∈S,inn U.length x.L=true):cO.f ⟨l,o⟩ S=some (cropL U o S):=by
 unfold cO.f cropL
 rw[wrapZ (by omega) (by omega),crop_l0 h0 hc ho hx ha S.length (Nat.le_refl _),bsome]
 by_cases q:0<keepN (retB U o S) S.length
 ·rw[if_pos q]
 ·rw[if_neg q,show keepN (retB U o S) S.length=0 by omega];rfl
end
end Go.Proofs.YtmjcpkmongafnaaGreatDoor.Ss
namespace Go.Proofs.YtmjcpkmongafnaaGreatDoor.Ss
open Go Go.Proofs.YtmjcpkmongafnaaGreatDoor.Ab Go.Proofs.YtmjcpkmongafnaaGreatDoor.TT
structure LabsA(U:List Nat)(s:ah):Prop where
 code:∀x∈s.Code,inn U.length x.L=true
 mem:∀x∈s.Mem,inn U.length x.L=true
 out:∀x∈s.Out,inn U.length x.L=true
 stack:∀x∈s.Stack,inn U.length x.L=true
 pc:inn U.length s.Pc.L=true
theorem okA_l{n:Nat} {xs:List az}(h:xs.all (okA (n:Int))=true):∀x∈xs,inn n x.L=true:=fun x hx=>by
 have:=List.all_eq_true.1 h x hx
 unfold okA at this
 rw[Bool.and_eq_true] at this
 exact gt this.2
theorem labsA{l:aq} {U:List Nat}(h:Nm l U)(hc:chk l U=0){s:ah}(hr:rightS (l.Up.length:Int) s=true):LabsA U s:=by
 have hp:=(eY hc).1.pos
 have L:=labs_of hr
 have z:=rs_of hr
 have ho:=hr
 unfold rightS at ho
 rw[Bool.and_eq_true] at ho
 have ho:=ho.2
 rw[h.n] at hr ho L z
 refine⟨fun x hx=>?_,fun x hx=>gt (L.me x hx),okA_l ho,fun x hx=>gt (L.st x hx),gt L.pc⟩
 have hi:=z.ins x hx
 by_cases q:x.Op=1
 ·exact gt (ins_l hi q)
 ·unfold insB at hi
  rw[if_neg q] at hi
  have:=(of_decide_eq_true hi).2.2.1
  rw[this]
  exact gf (k:=0) (by omega)
def outL(U:List Nat)(o:Int)(xs:List az):List az:=xs.filter fun x=>seeB U o x.L
def stB(U:List Nat)(o:Int)(a b:ah):Bool:=
 eqB (instrE U o) a.Code b.Code&&(eqB (atomE U o) a.Mem b.Mem&&(eqB (fun x y=>decide (x=y)) (outL U o a.Out) (outL U o b.Out)&&
  (if seeB U o a.Pc.L=true then (if seeB U o b.Pc.L=true then decide (a.Pc=b.Pc)&&eqB (slotE U o) a.Stack b.Stack else false)
  else (if seeB U o b.Pc.L=true then false else eqB (slotE U o) (cropL U o a.Stack) (cropL U o b.Stack)))))
theorem crop_mem{U:List Nat} {o:Int} {S:List av} {x:av}(h:x∈cropL U o S):x∈S:=List.mem_of_mem_take h
theorem crop_len{U:List Nat} {o:Int} {S:List av}:(cropL U o S).length<=S.length:=by unfold cropL;simp;omega
section
variable{l:aq} {U:List Nat}(h:Nm l U)(hc:chk l U=0){o:Int}
include h hc
theorem may_p{xs:List Int}(hx:xs.length<=1000):eH.f l xs=some (if xs.any (fun a=> !inn U.length a)=true then 9 else 0):=by
 unfold eH.f
 rw[fU h,bsome,if_pos hc,gB (p:=fun a=> !inn U.length a) (fun x=>by
  unfold eQ.f inn
  rw[h.n]
  by_cases q:x<0
  ·rw[if_pos q,bsome,decide_eq_false (show ¬0<=x by omega)];rfl
  ·rw[if_neg q,bsome,decide_eq_true (show 0<=x by omega)]
   by_cases r:x<(U.length:Int)
   ·rw[decide_eq_true r,decide_eq_false (by omega)];rfl
   ·rw[decide_eq_false r,decide_eq_true (by omega)];rfl) hx,bsome]
 cases xs.any (fun a=> !inn U.length a)<;>rfl
theorem outs_p(ho:inn U.length o=true){xs ys:List az}(hx:xs.length<=1000)(hy:ys.length<=1000)(ax:∀x∈xs,inn U.length x.L=true)(ay:∀x∈ys,inn U.length x.L=true):
  eE.f ⟨l,o⟩ xs ys=some (eqB (fun x y=>decide (x=y)) (outL U o xs) (outL U o ys)):=by
 have g:∀{zs:List az},(∀x∈zs,inn U.length x.L=true)->∀x∈zs,(fun z0=>dt.f z0 (⟨l,o⟩:bp)) x=some (!seeB U o x.L):=fun hz x hx=>by
  show dt.f x _=_
  unfold dt.f
  rw[fu h hc (hz x hx) ho,bsome]
 have e:∀zs:List az,zs.filter (fun x=> !(!seeB U o x.L))=outL U o zs:=fun zs=>by simp only[Bool.not_not,outL]
 have lx:(outL U o xs).length<=xs.length:=List.length_filter_le _ _
 unfold eE.f
 rw[iW hx,bsome,lF (p:=fun x=> !seeB U o x.L) hx (g ax),bsome,iW hy,bsome,lF (p:=fun x=> !seeB U o x.L) hy (g ay),bsome,e,e,l4 (by omega),bsome]
theorem labs_any{a b:ah}(A:LabsA U a)(B:LabsA U b):
  ([[o,a.Pc.L,b.Pc.L],a.Code.map (·.L)++b.Code.map (·.L),a.Mem.map (·.L)++b.Mem.map (·.L)++a.Out.map (·.L)++b.Out.map (·.L),a.Stack.map (·.L)++b.Stack.map (·.L)]:List (List Int)).flatten.any (fun x=> !inn U.length x)= !inn U.length o:=by
 cases ho:inn U.length o with
 |false=>
  refine List.any_eq_true.2 ⟨o,?_,?_⟩
  ·simp
  ·rw[ho];rfl
 |true=>
  refine List.any_eq_false.2 fun x hx=>?_
  have key:inn U.length x=true:=by
   simp only[List.flatten_cons,List.flatten_nil,List.mem_append,List.mem_cons,List.mem_map,List.not_mem_nil,or_false] at hx
   rcases hx with (rfl|rfl|rfl)|(⟨y,hy,rfl⟩|⟨y,hy,rfl⟩)|(((⟨y,hy,rfl⟩|⟨y,hy,rfl⟩)|⟨y,hy,rfl⟩)|⟨y,hy,rfl⟩)|(⟨y,hy,rfl⟩|⟨y,hy,rfl⟩)
   ·exact ho
   ·exact A.pc
   ·exact B.pc
   ·exact A.code y hy
   ·exact B.code y hy
   ·exact A.mem y hy
   ·exact B.mem y hy
   ·exact A.out y hy
   ·exact B.out y hy
   ·exact A.stack y hy
   ·exact B.stack y hy
  rw[key];decide
theorem lH{a b:ah}(ra:rightS (l.Up.length:Int) a=true)(rb:rightS (l.Up.length:Int) b=true):dz.f l o a b=some (if inn U.length o=true then (stB U o a b,0) else (false,9)):=by
 have A:=labsA h hc ra
 have B:=labsA h hc rb
 have za:=rs_of ra
 have zb:=rs_of rb
 have a1:=za.code
 have a2:=za.mem
 have a3:=za.stack
 have a4:=za.out
 have b1:=zb.code
 have b2:=zb.mem
 have b3:=zb.stack
 have b4:=zb.out
 obtain⟨kI,hI⟩:∃k,cy.f=some k:=⟨_,rfl⟩
 obtain⟨kA,hA⟩:∃k,dI.f=some k:=⟨_,rfl⟩
 obtain⟨kS,hS⟩:∃k,dE.f=some k:=⟨_,rfl⟩
 unfold dz.f
 rw[hI,bsome,lab_instr (by omega) (by omega) hI,bsome,hA,bsome,lab4_atom (by omega) (by omega) (by omega) (by omega) hA,bsome,hS,bsome,lab_slot (by omega) (by omega) hS,bsome]
 rw[mx (by simp) (fun x hx=>by
  simp only[List.mem_cons,List.not_mem_nil,or_false] at hx
  rcases hx with rfl|rfl|rfl|rfl<;>simp<;>omega),bsome,may_p h hc (by simp;omega),labs_any h hc A B]
 cases ho:inn U.length o with
 |false=>rfl
 |true=>
  rw[if_neg (show ¬(!true)=true by decide),bsome,if_pos rfl,if_pos rfl,bsome,lZ h hc ho (by omega) A.code hI,bsome]
  unfold stB
  cases eqB (instrE U o) a.Code b.Code with
  |false=>rfl
  |true=>
   rw[if_neg (show ¬(!true)=true by decide),bsome,mw h hc ho (by omega) A.mem hA,bsome,Bool.true_and]
   cases eqB (atomE U o) a.Mem b.Mem with
   |false=>rfl
   |true=>
    rw[if_neg (show ¬(!true)=true by decide),outs_p h hc ho (by omega) (by omega) A.out B.out,bsome,Bool.true_and]
    cases eqB (fun x y=>decide (x=y)) (outL U o a.Out) (outL U o b.Out) with
    |false=>rfl
    |true=>
     have la:(cropL U o a.Stack).length<=a.Stack.length:=crop_len
     rw[bsome,if_neg (show ¬(!true)=true by decide),fu h hc A.pc ho,bsome,fu h hc B.pc ho,bsome,Bool.true_and]
     cases seeB U o a.Pc.L with
     |true=>
      cases seeB U o b.Pc.L with
      |true=>
       rw[if_pos rfl,if_pos rfl,if_pos rfl,if_pos rfl,bsome,jM h hc ho (by omega) A.stack hS,bsome]
       by_cases q:a.Pc=b.Pc
       ·rw[if_pos q,decide_eq_true q];rfl
       ·rw[if_neg q,decide_eq_false q];rfl
      |false=>rfl
     |false=>
      cases seeB U o b.Pc.L with
      |true=>rfl
      |false=>
       rw[if_pos rfl,if_neg ff,if_neg ff,if_neg ff,bsome,crop_p h hc ho (by omega) A.stack,bsome,crop_p h hc ho (by omega) B.stack,bsome,jM h hc ho (by omega) (fun x hx=>A.stack x (crop_mem hx)) hS,bsome]
end
end Go.Proofs.YtmjcpkmongafnaaGreatDoor.Ss
namespace Go.Proofs.YtmjcpkmongafnaaGreatDoor.Ss
open Go Go.Proofs.YtmjcpkmongafnaaGreatDoor.Ab Go.Proofs.YtmjcpkmongafnaaGreatDoor.TT
theorem alive20:reticentlaw20_alive.f=some true:=(it (k:=60)).h _ (by kernel_rfl)
abbrev Rt(l:aq)(s:ah):Prop:=rightS (l.Up.length:Int) s=true
def seenL(U:List Nat)(o:Int)(xs:List ah):List ah:=xs.filter fun x=>seeB U o x.Pc.L
def toldV(U:List Nat)(o:Int)(a b:ah):Int:=if stB U o a b=true then 0 else 1
def endV(U:List Nat)(o:Int)(st:ah->ah×Int)(k:Nat)(a b:ah):Int:=
 if (runL st k a).2=1 then (if (runL st k b).2=1 then (if seeB U o (lastS st k a).Pc.L=true then (if seeB U o (lastS st k b).Pc.L=true then toldV U o (lastS st k a) (lastS st k b) else 2) else 2) else 2) else 2
def lockB{α:Type}(f:α->α->Bool):List α->List α->Bool
 |x::xs,y::ys=>f x y&&lockB f xs ys
 |_,_=>true
theorem kJ{α:Type} {f:α->α->Bool}:∀{xs:List α},lockB f xs []=true
 |[]=>rfl
 |_::_=>rfl
theorem loopK{α:Type} {L:Int->Option (Int⊕Unit)} {f:α->α->Bool} {xs ys:List α}(hn:L (xs.length:Int)=some (.inr ()))(hy:∀i,i<xs.length->ys.length<=i->L (i:Int)=some (.inr ())\/L (i:Int)=L ((i+1:Nat):Int))
  (hs:∀i (h:i<xs.length) (h':i<ys.length),L (i:Int)=if f xs[i] ys[i]=true then L ((i+1:Nat):Int) else some (.inl 1)):L 0=some (if lockB f xs ys=true then .inr () else .inl 1):=by
 have key:∀d i,xs.length=i+d->L (i:Int)=some (if lockB f (xs.drop i) (ys.drop i)=true then .inr () else .inl 1):=by
  intro d
  induction d with
  |zero=>
   intro i e
   rw[List.drop_eq_nil_of_le (show xs.length<=i by omega),show i=xs.length by omega,hn];rfl
  |succ d ih=>
   intro i e
   by_cases q:i<ys.length
   ·rw[hs i (by omega) q,dP (show i<xs.length by omega),dP q]
    unfold lockB
    cases f xs[i] ys[i] with
    |true=>rw[if_pos rfl,ih (i+1) (by omega),Bool.true_and]
    |false=>rw[if_neg (by decide),Bool.false_and,if_neg (by decide)]
   ·have e1:ys.drop i=[]:=List.drop_eq_nil_of_le (by omega)
    have e2:ys.drop (i+1)=[]:=List.drop_eq_nil_of_le (by omega)
    rw[e1,kJ,if_pos rfl]
    rcases hy i (by omega) (by omega) with h|h
    ·exact h
    ·rw[h,ih (i+1) (by omega),e2,kJ,if_pos rfl]
 exact key xs.length 0 (by omega)
def lockV(U:List Nat)(o:Int)(st:ah->ah×Int)(k:Nat)(a b:ah):Int:=
 if lockB (stB U o) (seenL U o (runL st k a).1) (seenL U o (runL st k b).1)=true then 0 else 1
def stepV(U:List Nat)(o:Int)(st:ah->ah×Int)(a b:ah):Int:=
 if (st a).2=0 then (if seeB U o a.Pc.L=true then (if (st b).2=0 then toldV U o (st a).1 (st b).1 else 2) else (if seeB U o (st a).1.Pc.L=true then (if (st b).2=0 then (if seeB U o (st b).1.Pc.L=true then toldV U o (st a).1 (st b).1 else 2) else 2) else toldV U o a (st a).1)) else 2
def valV(U:List Nat)(o:Int)(st:ah->ah×Int)(k:Nat)(p:Int)(a b:ah):Int:=
 if p=0 then endV U o st k a b else if p=1 then lockV U o st k a b else stepV U o st a b
theorem pc_inn{l:aq} {U:List Nat}(h:Nm l U){s:ah}(hs:Rt l s):inn U.length s.Pc.L=true:=by
 rw[<-h.n]
 exact gt (labs_of hs).pc
section
variable{l:aq} {U:List Nat}(h:Nm l U)(hc:chk l U=0){o:Int}(ho:inn U.length o=true)
include h hc ho
theorem fc{t:bw} {f:Int} {a b s:ah}(hs:Rt l s):bz.f ⟨l,t,o,f,a,b⟩ s=some (seeB U o s.Pc.L):=by
 unfold bz.f
 rw[lE h hc (pc_inn h hs) ho,bsome]
theorem fZ{t:bw} {f:Int} {a b x y:ah}(hx:Rt l x)(hy:Rt l y):b8.f ⟨l,t,o,f,a,b⟩ x y=some (toldV U o x y):=by
 unfold b8.f toldV
 rw[lH h hc hx hy,if_pos ho,bsome]
 cases stB U o x y<;>rfl
section
variable{R:List aO} {st:ah->ah×Int}(K:StepOk l R st (Rt l))
include K
theorem jQ{k:Nat} {s:ah}(hs:Rt l s):Rt l (lastS st k s):=by
 obtain⟨pre,e⟩:=lastS_at (st:=st) k s
 exact runL_all K.next k s hs _ (by rw[e];simp)
theorem jf{a b s:ah}(hs:Rt l s){k:Nat}(hk:k<=40):cJ.f ⟨l,⟨R⟩,o,(k:Int),a,b⟩ s=some (seenL U o (runL st k s).1):=by
 have L:=runL_len (st:=st) k s
 unfold cJ.f
 rw[run_eq K hs hk,bsome,del_state (p:=fun x=> !seeB U o x.Pc.L) (show (runL st k s).1.length<=1000 by omega) (fun x hx=>by
  show cW.f x _=_
  unfold cW.f
  rw[fc h hc ho (runL_all K.next k s hs x hx),bsome]),bsome]
 simp only[Bool.not_not,seenL]
theorem end_p{a b:ah}(ha:Rt l a)(hb:Rt l b){k:Nat}(hk:k<=40):cT.f ⟨l,⟨R⟩,o,(k:Int),a,b⟩=some (endV U o st k a b):=by
 unfold cT.f endV
 rw[hZ K ha hk,bsome,hZ K hb hk,bsome]
 by_cases q1:(runL st k a).2=1
 ·by_cases q2:(runL st k b).2=1
  ·rw[if_pos q1,if_pos q2,if_pos q1,if_pos q2,fc h hc ho (jQ h hc ho K ha),bsome,fc h hc ho (jQ h hc ho K hb),bsome]
   cases seeB U o (lastS st k a).Pc.L with
   |false=>rfl
   |true=>
    cases seeB U o (lastS st k b).Pc.L with
    |false=>rfl
    |true=>
     rw[if_neg (show ¬(!true)=true by decide),bsome,if_neg (show ¬(!true)=true by decide),fZ h hc ho (jQ h hc ho K ha) (jQ h hc ho K hb),bsome];rfl
  ·rw[if_pos q1,if_neg q2,if_pos q1,if_neg q2];rfl
 ·rw[if_neg q1,if_neg q1];rfl
theorem seen_G{k:Nat} {s:ah}(hs:Rt l s):∀x∈seenL U o (runL st k s).1,Rt l x:=fun x hx=>runL_all K.next k s hs x (List.mem_filter.1 hx).1
theorem lock_p{a b:ah}(ha:Rt l a)(hb:Rt l b){k:Nat}(hk:k<=40):bv.f ⟨l,⟨R⟩,o,(k:Int),a,b⟩=some (lockV U o st k a b):=by
 have L:=runL_len (st:=st) k a
 have L1:(seenL U o (runL st k a).1).length<=(runL st k a).1.length:=List.length_filter_le _ _
 have Ga:=seen_G h hc ho K (k:=k) ha
 have Gb:=seen_G h hc ho K (k:=k) hb
 unfold bv.f lockV
 show (cJ.f _ b>>=fun y1=>cJ.f _ a>>=_)=_
 rw[jf h hc ho K hb hk,bsome,jf h hc ho K ha hk,bsome]
 generalize seenL U o (runL st k a).1=xs at L1 Ga
 generalize seenL U o (runL st k b).1=ys at Gb
 rw[loopK (xs:=xs) (ys:=ys) (f:=stB U o) (L:=bv.l0 ⟨l,⟨R⟩,o,(k:Int),a,b⟩ ys xs) (by rw[bv.l0,if_neg (by omega)]) (fun i hi hy=>.inr (by
   rw[bv.l0,if_pos (by omega),br hi,bsome,if_neg (by omega),bsome,if_neg ff,wS (by omega)])) (fun i hi hy=>by
   rw[bv.l0,if_pos (by omega),br hi,bsome,if_pos (by omega),br hy,bsome,fZ h hc ho (Ga _ (List.getElem_mem hi)) (Gb _ (List.getElem_mem hy)),bsome,bsome,wS (by omega)]
   unfold toldV
   cases stB U o xs[i] ys[i]<;>rfl),bsome]
 cases lockB (stB U o) xs ys<;>rfl
theorem step_p{a b:ah}(ha:Rt l a)(hb:Rt l b){f:Int}:cK.f ⟨l,⟨R⟩,o,f,a,b⟩=some (stepV U o st a b):=by
 have na:=K.next a ha
 have nb:=K.next b hb
 unfold cK.f stepV
 rw[K.one a ha,bsome,K.one b hb,bsome]
 by_cases q:(st a).2=0
 ·rw[if_pos q,if_pos q,fc h hc ho ha,bsome,fc h hc ho na,bsome,fc h hc ho nb,bsome,fZ h hc ho ha na,bsome,fZ h hc ho na nb,bsome]
  by_cases r:(st b).2=0
  ·simp only[if_pos r]
   cases seeB U o a.Pc.L<;>cases seeB U o (st a).1.Pc.L<;>cases seeB U o (st b).1.Pc.L<;>rfl
  ·simp only[if_neg r]
   cases seeB U o a.Pc.L<;>cases seeB U o (st a).1.Pc.L<;>rfl
 ·rw[if_neg q,if_neg q]
end
end
noncomputable def fuelO(l:aq)(U:List Nat)(R:List aO)(s:ah)(f:Int):Int:=if mayO l U R s=0 then (if f<0\/f>40 then 1 else 0) else mayO l U R s
theorem iA{l:aq} {U:List Nat} {R:List aO} {s:ah} {f:Int}(h:fuelO l U R s f=0):mayO l U R s=0/\f=((f.toNat:Nat):Int)/\f.toNat<=40:=by
 unfold fuelO at h
 by_cases q:mayO l U R s=0
 ·rw[if_pos q] at h
  by_cases r:f<0\/f>40
  ·rw[if_pos r] at h;exact absurd h (by decide)
  ·exact⟨q,by omega,by omega⟩
 ·rw[if_neg q] at h;exact absurd h q
theorem pget(p:Int):((mGet ([(0,(some cT.f)),(1,(some bv.f)),(2,(some cK.f))]:List (Int×(Option (bP->Option Int)))) none p))=
  if p=0 then (some cT.f,true) else if p=1 then (some bv.f,true) else if p=2 then (some cK.f,true) else (none,false):=by
 unfold mGet mFind mFind mFind mFind
 by_cases q0:p=0
 ·rw[if_pos q0,if_pos q0]
 ·rw[if_neg q0,if_neg q0]
  by_cases q1:p=1
  ·rw[if_pos q1,if_pos q1]
  ·rw[if_neg q1,if_neg q1]
   by_cases q2:p=2
   ·rw[if_pos q2,if_pos q2]
   ·rw[if_neg q2,if_neg q2]
section
variable{l:aq} {U:List Nat}(h:Nm l U){R:List aO}(hF:Few R)
include h hF
theorem lJ{s:ah}(z:Sz s){f:Int}(hq:fuelO l U R s f≠0):∃x q,cd.f l ⟨R⟩ s f=some (x,q,fuelO l U R s f):=by
 unfold fuelO at hq⊢
 by_cases hm:mayO l U R s=0
 ·obtain⟨hc,hT,hr⟩:=ge hm
  obtain⟨st,K⟩:=j5 h hF hc hT
  rw[if_pos hm] at hq⊢
  by_cases hf:f<0\/f>40
  ·rw[if_pos hf]
   exact⟨_,_,(run_far K hr hf).2⟩
  ·rw[if_neg hf] at hq;exact absurd rfl hq
 ·rw[if_neg hm]
  exact⟨_,_,last_no h hF z hm f⟩
theorem fV{a b:ah}(za:Sz a)(zb:Sz b){p o f:Int}(hq:fuelO l U R a f≠0\/fuelO l U R b f≠0):bL.f l ⟨R⟩ p o f a b=some (0,if fuelO l U R a f=0 then fuelO l U R b f else fuelO l U R a f):=by
 unfold bL.f
 rw[bL.l0,if_pos (show (0:Int)<(([a,b]:List ah).length:Int) from by simp),show lAt [a,b] 0=some a from rfl,bsome]
 by_cases q:fuelO l U R a f=0
 ·have hb:=hq.resolve_left (fun n=>n q)
  obtain⟨hm,en,hk⟩:=iA q
  obtain⟨hc,hT,hr⟩:=ge hm
  obtain⟨st,K⟩:=j5 h hF hc hT
  obtain⟨x,y,e⟩:=lJ h hF zb hb
  rw[if_pos q]
  rw[en] at e⊢
  rw[hZ K hr hk,bsome,if_pos rfl,show IntKind.i64.wrap (0+1)=1 by decide,bL.l0,if_pos (show (1:Int)<(([a,b]:List ah).length:Int) from by simp),show lAt [a,b] 1=some b from rfl,bsome,e,bsome]
  rw[en] at hb
  show ((if fuelO l U R b ((f.toNat:Nat):Int)=0 then _ else some (Sum.inl (0,fuelO l U R b ((f.toNat:Nat):Int))))>>=_)=_
  rw[if_neg hb];rfl
 ·obtain⟨x,y,e⟩:=lJ h hF za q
  rw[e,bsome,if_neg q,if_neg q];rfl
end
theorem test_p{l:aq} {U:List Nat}(h:Nm l U)(hc:chk l U=0){R:List aO} {st:ah->ah×Int}(K:StepOk l R st (Rt l)){a b:ah}(ha:Rt l a)(hb:Rt l b){k:Nat}(hk:k<=40){p o:Int}:
  bL.f l ⟨R⟩ p o (k:Int) a b=some (if 0<=p/\p<=2 then (if inn U.length o=true then (if stB U o a b=true then (valV U o st k p a b,0) else (0,9)) else (0,9)) else (0,1)):=by
 unfold bL.f
 rw[bL.l0,if_pos (show (0:Int)<(([a,b]:List ah).length:Int) from by simp),show lAt [a,b] 0=some a from rfl,bsome,hZ K ha hk,bsome,if_pos rfl,show IntKind.i64.wrap (0+1)=1 by decide,
  bL.l0,if_pos (show (1:Int)<(([a,b]:List ah).length:Int) from by simp),show lAt [a,b] 1=some b from rfl,bsome,hZ K hb hk,bsome,if_pos rfl,show IntKind.i64.wrap (1+1)=2 by decide,bL.l0,if_neg (show ¬(2:Int)<(([a,b]:List ah).length:Int) from by simp),bsome]
 unfold eT.f
 rw[bsome,pget]
 by_cases hp:0<=p/\p<=2
 ·rw[if_pos hp]
  have e:(if p=0 then (some cT.f,true) else if p=1 then (some bv.f,true) else if p=2 then (some cK.f,true) else (none,false))=((some (if p=0 then cT.f else if p=1 then bv.f else cK.f),true):Option (bP->Option Int)×Bool):=by
   by_cases q0:p=0
   ·rw[if_pos q0,if_pos q0]
   ·rw[if_neg q0,if_neg q0]
    by_cases q1:p=1
    ·rw[if_pos q1,if_pos q1]
    ·rw[if_neg q1,if_neg q1,if_pos (by omega)]
  rw[e,if_neg (show ¬(!true)=true by decide),lH h hc ha hb,bsome]
  cases ho:inn U.length o with
  |false=>rfl
  |true=>
   rw[if_pos rfl,if_pos rfl,if_pos rfl]
   show ((some (!stB U o a b):Option Bool)>>=_)=_
   rw[bsome]
   cases hs:stB U o a b with
   |false=>rfl
   |true=>
    rw[if_neg (show ¬(!true)=true by decide),if_pos rfl,bsome]
    unfold valV
    by_cases q0:p=0
    ·rw[if_pos q0,if_pos q0,end_p h hc ho K ha hb hk,bsome]
    ·rw[if_neg q0,if_neg q0]
     by_cases q1:p=1
     ·rw[if_pos q1,if_pos q1,lock_p h hc ho K ha hb hk,bsome]
     ·rw[if_neg q1,if_neg q1,step_p h hc ho K ha hb,bsome]
 ·rw[if_neg hp,if_neg (show ¬p=0 by omega),if_neg (show ¬p=1 by omega),if_neg (show ¬p=2 by omega)];rfl
end Go.Proofs.YtmjcpkmongafnaaGreatDoor.Ss
namespace Go.Proofs.YtmjcpkmongafnaaGreatDoor.Ss
open Go Go.Proofs.YtmjcpkmongafnaaGreatDoor.Ab Go.Proofs.YtmjcpkmongafnaaGreatDoor.TT
section
variable{U:List Nat} {o:Int}
theorem stB_refl{a:ah}:stB U o a a=true:=by
 unfold stB
 rw[eqB_refl (fun x _=>by unfold instrE;simp),eqB_refl (fun x _=>by unfold atomE;simp),eqB_refl (fun x _=>by simp),decide_eq_true rfl,eqB_refl (fun x _=>by unfold slotE;simp),eqB_refl (fun x _=>by unfold slotE;simp)]
 cases seeB U o a.Pc.L<;>rfl
theorem fv{α:Type}[DecidableEq α]{x y:α}:decide (x=y)=decide (y=x):=decide_eq_decide.2 eq_comm
theorem jt{x y:Int} {c d:Bool}(h:c=d):(decide (x=y)&&(!seeB U o x||c))=(decide (y=x)&&(!seeB U o y||d)):=by
 subst h
 by_cases q:x=y
 ·subst q;rfl
 ·rw[decide_eq_false q,decide_eq_false (Ne.symm q)];rfl
theorem l5{x y:aE}:instrE U o x y=instrE U o y x:=by
 unfold instrE
 rw[jt (x:=x.L) (y:=y.L) (fv (x:=x.N) (y:=y.N))]
 congr 1
 by_cases q:x.Op=y.Op
 ·rw[fv (x:=x.N),q]
 ·rw[decide_eq_false q,decide_eq_false (Ne.symm q)];rfl
theorem my{x y:az}:atomE U o x y=atomE U o y x:=by
 unfold atomE
 exact jt fv
theorem jR{x y:av}:slotE U o x y=slotE U o y x:=by
 unfold slotE
 rw[fv (x:=x.Ret),jt (x:=x.L) (fv (x:=x.V))]
theorem stB_comm{a b:ah}:stB U o a b=stB U o b a:=by
 unfold stB
 rw[eqB_comm (f:=instrE U o) (xs:=a.Code) (fun x _ y _=>l5),eqB_comm (f:=atomE U o) (xs:=a.Mem) (fun x _ y _=>my),eqB_comm (f:=fun x y:az=>decide (x=y)) (xs:=outL U o a.Out) (fun x _ y _=>fv),
  eqB_comm (f:=slotE U o) (xs:=a.Stack) (fun x _ y _=>jR),eqB_comm (f:=slotE U o) (xs:=cropL U o a.Stack) (fun x _ y _=>jR),fv (x:=a.Pc)]
 cases seeB U o a.Pc.L<;>cases seeB U o b.Pc.L<;>rfl
theorem kK{a:ah}:toldV U o a a=0:=by unfold toldV;rw[stB_refl,if_pos rfl]
theorem told_comm{a b:ah}:toldV U o a b=toldV U o b a:=by unfold toldV;rw[stB_comm]
theorem jS{α:Type} {f:α->α->Bool}(h:∀x,f x x=true):∀{xs:List α},lockB f xs xs=true
 |[]=>rfl
 |x::xs=>by unfold lockB;rw[h x,jS h];rfl
theorem jT{α:Type} {f:α->α->Bool}(h:∀x y,f x y=f y x):∀{xs ys:List α},lockB f xs ys=lockB f ys xs
 |[],[]=>rfl
 |[],_::_=>rfl
 |_::_,[]=>rfl
 |x::xs,y::ys=>by unfold lockB;rw[h x y,jT h]
section
variable{st:ah->ah×Int} {k:Nat}
theorem end_refl{a:ah}:endV U o st k a a≠1:=by
 unfold endV
 rw[kK]
 by_cases p:(runL st k a).2=1
 ·rw[if_pos p,if_pos p]
  cases seeB U o (lastS st k a).Pc.L<;>decide
 ·rw[if_neg p];decide
theorem end_comm{a b:ah}:endV U o st k a b=endV U o st k b a:=by
 unfold endV
 rw[told_comm (a:=lastS st k a)]
 by_cases p:(runL st k a).2=1<;>by_cases q:(runL st k b).2=1<;>simp only[p,q,if_true,if_false]
 cases seeB U o (lastS st k a).Pc.L<;>cases seeB U o (lastS st k b).Pc.L<;>rfl
theorem lock_refl{a:ah}:lockV U o st k a a≠1:=by
 unfold lockV
 rw[jS (fun x=>stB_refl),if_pos rfl];decide
theorem lock_comm{a b:ah}:lockV U o st k a b=lockV U o st k b a:=by
 unfold lockV
 rw[jT (fun x y=>stB_comm)]
theorem step_refl{a:ah}(h:seeB U o a.Pc.L=true):stepV U o st a a≠1:=by
 unfold stepV
 rw[h,if_pos rfl,kK]
 by_cases q:(st a).2=0
 ·rw[if_pos q,if_pos q];decide
 ·rw[if_neg q];decide
theorem val_refl{p:Int}(hp:0<=p/\p<=2){a:ah}(h:p=2->seeB U o a.Pc.L=true):valV U o st k p a a≠1:=by
 unfold valV
 by_cases q0:p=0
 ·rw[if_pos q0];exact end_refl
 ·rw[if_neg q0]
  by_cases q1:p=1
  ·rw[if_pos q1];exact lock_refl
  ·rw[if_neg q1];exact step_refl (h (by omega))
theorem val_comm{p:Int}(hp:0<=p/\p<=2)(h2:p≠2){a b:ah}:valV U o st k p a b=valV U o st k p b a:=by
 unfold valV
 by_cases q0:p=0
 ·rw[if_pos q0,if_pos q0];exact end_comm
 ·rw[if_neg q0,if_neg q0,if_pos (by omega),if_pos (by omega)];exact lock_comm
end
end
theorem mod3(p:Int):0<=(IntKind.i64.wrap ((p.tmod 3)+3)).tmod 3/\(IntKind.i64.wrap ((p.tmod 3)+3)).tmod 3<=2:=by
 have h: -3<p.tmod 3/\p.tmod 3<3:=⟨by have:=Int.lt_tmod_of_pos p (show (0:Int)<3 by decide);omega,Int.tmod_lt_of_pos p (by decide)⟩
 rw[wrapZ (by omega) (by omega)]
 have h1:0<=p.tmod 3+3:=by omega
 have h2:=Int.tmod_lt_of_pos (p.tmod 3+3) (show (0:Int)<3 by decide)
 have h3:=Int.tmod_nonneg 3 h1
 omega
theorem iB{p:Int} {y7 y14 y15 y16:Int×Int} {T14 T15 T16:Option (Int×Int)}(h7:¬(y7.2=0/\y7.1=1))(e14:p≠2->T14=some y14)(e15:p≠2->T15=some y15)(e16:p≠2->T16=some y16)(h14:p≠2->¬(y14.2=0/\y14.1=1))(hg:p≠2->(y15.2=0↔y16.2=0))(hv:p≠2->y15.1=y16.1):
  (((if y7.2=0 then (some (decide (y7.1=1))) else (some false):Option Bool)>>=fun x9=>if x9=true then (some false) else (if p=2 then (reticentlaw20_alive.f>>=fun y13=>some y13) else (T14>>=fun y14=>T15>>=fun y15=>T16>>=fun y16=>((reticentlaw20_alive.f>>=fun y24=>if y24=true then (if y14.2=0 then (if y14.1=1 then (some false) else (if (decide (y15.2=0))=(decide (y16.2=0)) then (some (decide (y15.1=y16.1))) else (some false))) else (if (decide (y15.2=0))=(decide (y16.2=0)) then (some (decide (y15.1=y16.1))) else (some false))) else (some false):Option Bool)>>=fun x23=>some x23)))))=some true:=by
 have e7:((if y7.2=0 then (some (decide (y7.1=1))) else (some false):Option Bool))=some false:=by
  by_cases q:y7.2=0
  ·rw[if_pos q,decide_eq_false (fun r=>h7 ⟨q,r⟩)]
  ·rw[if_neg q]
 rw[e7,bsome,if_neg ff,alive20]
 by_cases q2:p=2
 ·rw[if_pos q2];rfl
 ·rw[if_neg q2,e14 q2,bsome,e15 q2,bsome,e16 q2,bsome,bsome,if_pos rfl,decide_eq_decide.2 (hg q2),if_pos rfl,decide_eq_true (hv q2)]
  by_cases q:y14.2=0
  ·rw[if_pos q,if_neg (fun r=>h14 q2 ⟨q,r⟩)];rfl
  ·rw[if_neg q];rfl
theorem selfs{l:aq} {t:bw} {p o f:Int} {a b:ah}(hl:∃H cs,(kR aA).reps H cs l):dm.f l t p o f a b=some true:=by
 obtain⟨l',U,e,h⟩:=few_eq hl
 obtain⟨A,ea,za⟩:=cut_eq a
 obtain⟨B,eb,zb⟩:=cut_eq b
 obtain⟨R0⟩:=t
 have hF:=tfew_ok (R:=R0)
 have hp:=mod3 p
 unfold dm.f
 generalize (IntKind.i64.wrap ((p.tmod 3)+3)).tmod 3=p at hp
 rw[e,bsome,tfew_eq,bsome,ea,bsome,eb,bsome]
 generalize fewR R0=R at hF
 by_cases hc:chk l' U=0
 ·obtain⟨y,⟨hy,ht⟩,hT⟩:=lK h hc
  rw[hT,bsome,if_pos rfl]
  have hyi:inn U.length (y:Int)=true:=gf hy
  by_cases qa:fuelO l' U R A f=0
  ·obtain⟨ma,en,hk⟩:=iA qa
   obtain⟨_,hTT,ra⟩:=ge ma
   obtain⟨st,K⟩:=j5 h hF hc hTT
   have hs:seeB U (y:Int) A.Pc.L=true:=by
    obtain⟨i,ei,hi⟩:=iX (pc_inn h ra)
    unfold seeB
    rw[ei,Int.toNat_natCast,Int.toNat_natCast]
    exact ht i hi
   have h7:∀o:Int,(p=2->seeB U o A.Pc.L=true)->∃y7,bL.f l' ⟨R⟩ p o f A A=some y7/\¬(y7.2=0/\y7.1=1):=fun o q=>by
    rw[en,test_p h hc K ra ra hk,if_pos hp]
    refine⟨_,rfl,?_⟩
    cases inn U.length o with
    |false=>rw[if_neg ff];exact fun z=>absurd z.1 (by decide)
    |true=>
     rw[stB_refl,if_pos rfl,if_pos rfl]
     exact fun z=>val_refl hp q z.2
   obtain⟨y7,e7,n7⟩:=h7 y (fun _=>hs)
   rw[e7,bsome]
   by_cases q2:p=2
   ·exact iB (y14:=(0,0)) (y15:=(0,0)) (y16:=(0,0)) n7 (fun n=>absurd q2 n) (fun n=>absurd q2 n) (fun n=>absurd q2 n) (fun n=>absurd q2 n) (fun n=>absurd q2 n) (fun n=>absurd q2 n)
   ·obtain⟨y14,e14,n14⟩:=h7 o (fun n=>absurd n q2)
    by_cases qb:fuelO l' U R B f=0
    ·obtain⟨mb,_,_⟩:=iA qb
     obtain⟨_,_,rb⟩:=ge mb
     have e15:=test_p h hc K ra rb hk (p:=p) (o:=o)
     have e16:=test_p h hc K rb ra hk (p:=p) (o:=o)
     rw[<-en] at e15 e16
     refine iB n7 (fun _=>e14) (fun _=>e15) (fun _=>e16) (fun _=>n14) (fun _=>?_) (fun _=>?_)
     ·rw[if_pos hp,if_pos hp,stB_comm (a:=B)]
      cases inn U.length o<;>cases stB U o A B<;>exact Iff.rfl
     ·rw[if_pos hp,if_pos hp,stB_comm (a:=B),val_comm (a:=B) hp q2]
    ·have e15:=fV h hF za zb (p:=p) (o:=o) (.inr qb)
     have e16:=fV h hF zb za (p:=p) (o:=o) (.inl qb)
     rw[if_pos qa] at e15
     rw[if_neg qb] at e16
     exact iB n7 (fun _=>e14) (fun _=>e15) (fun _=>e16) (fun _=>n14) (fun _=>Iff.rfl) (fun _=>rfl)
  ·have e7:=fV h hF za za (p:=p) (o:=(y:Int)) (.inl qa)
   have e14:=fV h hF za za (p:=p) (o:=o) (.inl qa)
   have e15:=fV h hF za zb (p:=p) (o:=o) (.inl qa)
   have e16:=fV h hF zb za (p:=p) (o:=o) (.inr qa)
   rw[if_neg qa] at e7 e14 e15
   rw[e7,bsome]
   refine iB (fun z=>qa z.1) (fun _=>e14) (fun _=>e15) (fun _=>e16) (fun _ z=>qa z.1) (fun _=>?_) (fun _=>rfl)
   by_cases qb:fuelO l' U R B f=0
   ·rw[if_pos qb]
   ·rw[if_neg qb]
    exact⟨fun z=>absurd z qa,fun z=>absurd z qb⟩
 ·rw[(ends_no h hc).2,bsome]
  show (if chk l' U=0 then _ else _)=_
  rw[if_neg hc,alive20,bsome]
end Go.Proofs.YtmjcpkmongafnaaGreatDoor.Ss
