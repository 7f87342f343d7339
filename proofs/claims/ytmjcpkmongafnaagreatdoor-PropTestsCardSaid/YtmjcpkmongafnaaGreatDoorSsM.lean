import Derived.Test.YtmjcpkmongafnaaGreatDoorSsb1
import Derived.Test.YtmjcpkmongafnaaGreatDoorGTT
set_option linter.unusedVariables false
set_option linter.unusedSimpArgs false
set_option linter.unusedSectionVars false
namespace Go.Proofs.YtmjcpkmongafnaaGreatDoor.Ss
open Go Go.Proofs.YtmjcpkmongafnaaGreatDoor.Ab Go.Proofs.YtmjcpkmongafnaaGreatDoor.TT
theorem gQ(b:Bool):cc.f b=some (if b=true then .inr () else .inl 3):=by
 unfold cc.f
 cases b<;>rfl
def sl(S:List aF)(d:Nat):aF:=S.getD (S.length-1-d) ⟨true,0,0⟩
def okT(S:List aF)(d:Nat):Bool:=decide (d<S.length)&& !(sl S d).Ret
theorem sl_at{S:List aF} {d:Nat}(h:d<S.length):sl S d=S[S.length-1-d]:=by
 unfold sl
 rw[List.getD_eq_getElem?_getD,List.getElem?_eq_getElem (by omega)];rfl
theorem atom_m{m:aE}(hn:m.s_.Stack.length<=1000){d:Nat}(hd:d<=1000):cz.f m (d:Int)=some (if okT m.s_.Stack d=true then .inr (m,sl m.s_.Stack d) else .inl 3):=by
 unfold cz.f okT
 have e1:IntKind.i64.wrap ((m.s_.Stack.length:Int)-1)=(m.s_.Stack.length:Int)-1:=wrapZ (by omega) (by omega)
 have e2:IntKind.i64.wrap ((m.s_.Stack.length:Int)-1-(d:Int))=(m.s_.Stack.length:Int)-1-(d:Int):=wrapZ (by omega) (by omega)
 rw[e1,e2]
 by_cases h:d<m.s_.Stack.length
 ·have e3:(m.s_.Stack.length:Int)-1-(d:Int)=((m.s_.Stack.length-1-d:Nat):Int):=by omega
  rw[if_pos (by omega),e3,bo (by omega),bsome,gQ,bsome,sl_at h,decide_eq_true h]
  cases hr:m.s_.Stack[m.s_.Stack.length-1-d].Ret<;>rfl
 ·rw[if_neg (by omega),gQ,bsome,decide_eq_false h]
  rfl
def firstM(m:aE):aE:=⟨m.l_,m.s_,m.x_,sl m.s_.Stack 0,m.b_,m.r_,(m.s_.Stack.length:Int)-1,⟨(sl m.s_.Stack 0).L,m.one_.x1_,m.one_.x2_⟩⟩
theorem gZ{m:aE}(hn:m.s_.Stack.length<=1000):bE.f m=some (if okT m.s_.Stack 0=true then .inr (firstM m) else .inl 3):=by
 unfold bE.f
 have h:=atom_m hn (d:=0) (by omega)
 rw[show ((0:Nat):Int)=0 from rfl] at h
 rw[h,bsome]
 have e1:IntKind.i64.wrap ((m.s_.Stack.length:Int)-1)=(m.s_.Stack.length:Int)-1:=wrapZ (by omega) (by omega)
 cases okT m.s_.Stack 0 with
 |false=>rfl
 |true=>
  show some (Sum.inr (⟨m.l_,m.s_,m.x_,sl m.s_.Stack 0,m.b_,m.r_,IntKind.i64.wrap ((m.s_.Stack.length:Int)-1),⟨(sl m.s_.Stack 0).L,m.one_.x1_,m.one_.x2_⟩⟩:aE))=_
  rw[e1];rfl
def bothM(m:aE):aE:=⟨m.l_,m.s_,m.x_,sl m.s_.Stack 0,sl m.s_.Stack 1,m.r_,(m.s_.Stack.length:Int)-2,⟨(sl m.s_.Stack 0).L,(sl m.s_.Stack 1).L,m.one_.x2_⟩⟩
theorem kE{m:aE}(hn:m.s_.Stack.length<=1000):cF.f m=some (if okT m.s_.Stack 0=true/\okT m.s_.Stack 1=true then .inr (bothM m) else .inl 3):=by
 unfold cF.f
 rw[gZ hn,bsome]
 cases h0:okT m.s_.Stack 0 with
 |false=>rfl
 |true=>
  have h:=atom_m (m:=firstM m) hn (d:=1) (by omega)
  rw[show ((1:Nat):Int)=1 from rfl] at h
  show (cz.f (firstM m) 1>>=_)=_
  rw[h,bsome]
  show (match (if okT m.s_.Stack 1=true then Sum.inr (firstM m,sl m.s_.Stack 1) else Sum.inl 3:Pn⊕(aE×aF)) with|.inl p5=>_|.inr y6=>_)=_
  cases h1:okT m.s_.Stack 1 with
  |false=>rfl
  |true=>
   show some (Sum.inr (⟨m.l_,m.s_,m.x_,sl m.s_.Stack 0,sl m.s_.Stack 1,m.r_,IntKind.i64.wrap ((m.s_.Stack.length:Int)-1-1),⟨(sl m.s_.Stack 0).L,(sl m.s_.Stack 1).L,m.one_.x2_⟩⟩:aE))=_
   rw[wrapZ (by omega) (by omega),show (m.s_.Stack.length:Int)-1-1=(m.s_.Stack.length:Int)-2 by omega];rfl
end Go.Proofs.YtmjcpkmongafnaaGreatDoor.Ss
namespace Go.Proofs.YtmjcpkmongafnaaGreatDoor.Ss
open Go Go.Proofs.YtmjcpkmongafnaaGreatDoor.Ab Go.Proofs.YtmjcpkmongafnaaGreatDoor.TT
def okC(m:aE):Bool:=decide (0<=m.a_.V/\m.a_.V<(m.s_.Mem.length:Int))
theorem cell_m{m:aE}:cP.f m=some (if okC m=true then .inr (m,m.a_.V) else .inl 3):=by
 unfold cP.f okC
 by_cases h:0<=m.a_.V
 ·rw[if_pos h,gQ,bsome]
  by_cases q:m.a_.V<(m.s_.Mem.length:Int)
  ·rw[decide_eq_true q,decide_eq_true (show 0<=m.a_.V/\m.a_.V<(m.s_.Mem.length:Int) from ⟨h,q⟩)];rfl
  ·rw[decide_eq_false q,decide_eq_false (show ¬(0<=m.a_.V/\m.a_.V<(m.s_.Mem.length:Int)) from fun w=>q w.2)];rfl
 ·rw[if_neg (show ¬m.a_.V>=0 by omega),gQ,bsome,decide_eq_false (show ¬(0<=m.a_.V/\m.a_.V<(m.s_.Mem.length:Int)) from fun w=>h w.1)];rfl
def mm(s:al)(v:Int):aG:=s.Mem.getD v.toNat ⟨0,0⟩
theorem mm_at{s:al} {v:Int}(h0:0<=v)(h1:v<(s.Mem.length:Int)):lAt s.Mem v=some (mm s v):=by
 have e:v=((v.toNat:Nat):Int):=by omega
 have hlt:v.toNat<s.Mem.length:=by omega
 unfold mm
 rw[List.getD_eq_getElem?_getD,List.getElem?_eq_getElem hlt]
 conv=>lhs;rw[e]
 rw[bo hlt];rfl
def loadM(m:aE):aE:=⟨m.l_,m.s_,m.x_,sl m.s_.Stack 0,m.b_,m.r_,(m.s_.Stack.length:Int)-1,⟨(sl m.s_.Stack 0).L,(mm m.s_ (sl m.s_.Stack 0).V).L,m.one_.x2_⟩⟩
theorem loads_m{m:aE}(hn:m.s_.Stack.length<=1000):dG.f m=some (if okT m.s_.Stack 0=true/\okC (firstM m)=true then .inr (loadM m) else .inl 3):=by
 unfold dG.f
 rw[gZ hn,bsome]
 cases h0:okT m.s_.Stack 0 with
 |false=>rfl
 |true=>
  show (cP.f (firstM m)>>=_)=_
  rw[cell_m,bsome]
  cases h1:okC (firstM m) with
  |false=>rfl
  |true=>
   unfold okC at h1
   obtain⟨a,b⟩:=of_decide_eq_true h1
   show (lAt m.s_.Mem (sl m.s_.Stack 0).V>>=_)=_
   rw[show lAt m.s_.Mem (sl m.s_.Stack 0).V=some (mm m.s_ (sl m.s_.Stack 0).V) from mm_at a b,bsome];rfl
def storeM(m:aE):aE:=⟨m.l_,m.s_,m.x_,sl m.s_.Stack 0,sl m.s_.Stack 1,m.r_,(m.s_.Stack.length:Int)-2,⟨(sl m.s_.Stack 0).L,(sl m.s_.Stack 1).L,(mm m.s_ (sl m.s_.Stack 0).V).L⟩⟩
theorem nG{m:aE}(hn:m.s_.Stack.length<=1000):dt.f m=some (if (okT m.s_.Stack 0=true/\okT m.s_.Stack 1=true)/\okC (firstM m)=true then .inr (storeM m) else .inl 3):=by
 unfold dt.f
 rw[kE hn,bsome]
 by_cases h:okT m.s_.Stack 0=true/\okT m.s_.Stack 1=true
 ·rw[if_pos h]
  show (cP.f (bothM m)>>=_)=_
  rw[cell_m,bsome]
  have e:okC (bothM m)=okC (firstM m):=rfl
  rw[e]
  cases h1:okC (firstM m) with
  |false=>rw[if_neg (show ¬((okT m.s_.Stack 0=true/\okT m.s_.Stack 1=true)/\false=true) from fun w=>by cases w.2)];rfl
  |true=>
   rw[if_pos (show ((okT m.s_.Stack 0=true/\okT m.s_.Stack 1=true)/\true=true) from ⟨h,rfl⟩)]
   unfold okC at h1
   obtain⟨a,b⟩:=of_decide_eq_true h1
   show (lAt m.s_.Mem (sl m.s_.Stack 0).V>>=_)=_
   rw[show lAt m.s_.Mem (sl m.s_.Stack 0).V=some (mm m.s_ (sl m.s_.Stack 0).V) from mm_at a b,bsome];rfl
 ·rw[if_neg h,if_neg (show ¬((okT m.s_.Stack 0=true/\okT m.s_.Stack 1=true)/\okC (firstM m)=true) from fun w=>h w.1)]
theorem goes_m{m:aE}(hn:m.s_.Stack.length<=1000):df.f m=some (if okT m.s_.Stack 0=true/\plaB (sl m.s_.Stack 0).V=true then .inr (firstM m) else .inl 3):=by
 unfold df.f
 rw[gZ hn,bsome]
 cases h0:okT m.s_.Stack 0 with
 |false=>rfl
 |true=>
  show (((if (sl m.s_.Stack 0).V>=0 then (cc.f (decide ((sl m.s_.Stack 0).V<=12))>>=_) else (cc.f false>>=_)):Option ((Pn⊕aE)⊕Unit))>>=_)=_
  unfold plaB
  by_cases h:(sl m.s_.Stack 0).V>=0
  ·rw[if_pos h,gQ,bsome]
   by_cases q:(sl m.s_.Stack 0).V<=12
   ·rw[decide_eq_true q,decide_eq_true (show (sl m.s_.Stack 0).V>=0/\(sl m.s_.Stack 0).V<=12 from ⟨h,q⟩)];rfl
   ·rw[decide_eq_false q,decide_eq_false (show ¬((sl m.s_.Stack 0).V>=0/\(sl m.s_.Stack 0).V<=12) from fun w=>q w.2)];rfl
  ·rw[if_neg h,gQ,bsome,decide_eq_false (show ¬((sl m.s_.Stack 0).V>=0/\(sl m.s_.Stack 0).V<=12) from fun w=>h w.1)];rfl
def frU(S:List aF):Nat->Nat
 |0=>0
 |k+1=>if (S.getD k ⟨true,0,0⟩).Ret=true then k+1 else frU S k
theorem frU_le(S:List aF):∀k,frU S k<=k
 |0=>Nat.le_refl _
 |k+1=>by
  unfold frU
  split
  ·exact Nat.le_refl _
  ·exact Nat.le_succ_of_le (frU_le S k)
theorem ret_l{m:aE}(hn:m.s_.Stack.length<=1000):∀k,k<=m.s_.Stack.length->aY.l0 m (k:Int)=some (frU m.s_.Stack k:Int)/\aY.l1 m (k:Int)=some (frU m.s_.Stack k:Int)
 |0,_=>by
  constructor
  ·rw[aY.l0,if_neg (by omega),bsome,if_neg (by decide)];rfl
  ·rw[aY.l1,if_neg (by omega),bsome,if_neg (by decide)];rfl
 |k+1,h=>by
  obtain⟨i0,i1⟩:=ret_l hn k (by omega)
  have e:IntKind.i64.wrap (((k+1:Nat):Int)-1)=(k:Int):=by rw[wrapZ (by omega) (by omega)];omega
  have g:m.s_.Stack.getD k ⟨true,0,0⟩=m.s_.Stack[k]:=by simp[show k<m.s_.Stack.length by omega]
  constructor
  ·rw[aY.l0,if_pos (by omega),e,bo (by omega),bsome,bsome]
   unfold frU
   rw[g]
   cases hr:m.s_.Stack[k].Ret with
   |true=>rw[if_neg (show ¬(!true)=true by decide),if_pos (show true=true from rfl)]
   |false=>rw[if_pos (show (!false)=true from rfl),if_neg (show ¬false=true by decide)];exact i0
  ·rw[aY.l1,if_pos (by omega),e,bo (by omega),bsome,bsome]
   unfold frU
   rw[g]
   cases hr:m.s_.Stack[k].Ret with
   |true=>rw[if_neg (show ¬(!true)=true by decide),if_pos (show true=true from rfl)]
   |false=>rw[if_pos (show (!false)=true from rfl),if_neg (show ¬false=true by decide)];exact i1
end Go.Proofs.YtmjcpkmongafnaaGreatDoor.Ss
namespace Go.Proofs.YtmjcpkmongafnaaGreatDoor.Ss
open Go Go.Proofs.YtmjcpkmongafnaaGreatDoor.Ab Go.Proofs.YtmjcpkmongafnaaGreatDoor.TT
def callB(S:List aF):Nat->Nat->Bool
 |_,0=>true
 |i,k+1=>okT S (1+i)&&callB S (i+1) k
theorem mO{S:List aF}:∀{k i:Nat},callB S i (k+1)=true->1+i+k<S.length
 |0,i,h=>by
  unfold callB okT at h
  rw[Bool.and_eq_true,Bool.and_eq_true,decide_eq_true_eq] at h
  exact h.1.1
 |k+1,i,h=>by
  unfold callB at h
  rw[Bool.and_eq_true] at h
  have:=mO h.2
  omega
theorem call_l{y m:aE}(hn:m.s_.Stack.length<=1000):∀k i:Nat,y.x_.N=((i+k:Nat):Int)->i+k<=900->
  bK.l0 y m (i:Int)=some (if callB m.s_.Stack i k=true then .inr m else .inl (.inl 3))
 |0,i,h,hb=>by
  rw[bK.l0,if_neg (by omega)];rfl
 |k+1,i,h,hb=>by
  rw[bK.l0,if_pos (by omega)]
  have e1:IntKind.i64.wrap (1+(i:Int))=((1+i:Nat):Int):=by rw[wrapZ (by omega) (by omega)];omega
  have e2:IntKind.i64.wrap ((i:Int)+1)=((i+1:Nat):Int):=by rw[wrapZ (by omega) (by omega)];omega
  rw[e1,atom_m hn (by omega),bsome]
  unfold callB
  cases h0:okT m.s_.Stack (1+i) with
  |false=>rfl
  |true=>
   rw[Bool.true_and]
   show bK.l0 y m (IntKind.i64.wrap ((i:Int)+1))=_
   rw[e2]
   exact call_l hn k (i+1) (by omega) (by omega)
theorem calls_m{m:aE}(hn:m.s_.Stack.length<=1000){k:Nat}(hk:m.x_.N=(k:Int))(hb:k<=900):
  bK.f m=some (if (okT m.s_.Stack 0=true/\plaB (sl m.s_.Stack 0).V=true)/\callB m.s_.Stack 0 k=true then .inr (firstM m) else .inl 3):=by
 unfold bK.f
 rw[goes_m hn,bsome]
 by_cases h:okT m.s_.Stack 0=true/\plaB (sl m.s_.Stack 0).V=true
 ·rw[if_pos h]
  show (bK.l0 (firstM m) (firstM m) 0>>=_)=_
  have q:=call_l (y:=firstM m) (m:=firstM m) hn k 0 (by rw[Nat.zero_add];exact hk) (by omega)
  rw[show ((0:Nat):Int)=0 from rfl] at q
  rw[q,bsome]
  show (match (if callB m.s_.Stack 0 k=true then .inr (firstM m) else .inl (.inl 3):(Pn⊕aE)⊕aE) with|.inl r=>some r|.inr x14=>some (.inr x14))=_
  cases h1:callB m.s_.Stack 0 k with
  |false=>rw[if_neg (show ¬((okT m.s_.Stack 0=true/\plaB (sl m.s_.Stack 0).V=true)/\false=true) from fun w=>by cases w.2)];rfl
  |true=>rw[if_pos (show ((okT m.s_.Stack 0=true/\plaB (sl m.s_.Stack 0).V=true)/\true=true) from ⟨h,rfl⟩)];rfl
 ·rw[if_neg h,if_neg (show ¬((okT m.s_.Stack 0=true/\plaB (sl m.s_.Stack 0).V=true)/\callB m.s_.Stack 0 k=true) from fun w=>h w.1)]
def retM(m:aE)(k:Nat):aE:=⟨m.l_,m.s_,m.x_,m.a_,m.b_,m.s_.Stack.getD (k-1) ⟨true,0,0⟩,(k:Int)-1,⟨m.one_.x0_,(m.s_.Stack.getD (k-1) ⟨true,0,0⟩).L,m.one_.x2_⟩⟩
theorem getD_is{S:List aF} {k:Nat}(h:k<S.length):S.getD k ⟨true,0,0⟩=S[k]:=by simp[h]
theorem ret_end{m:aE}(hn:m.s_.Stack.length<=1000){k:Nat}(hk:k<=m.s_.Stack.length):
  (cc.f (decide ((k:Int)>0))>>=fun z25=>match z25 with|.inl p26=>(some (.inl p26):Option (Pn⊕aE))|.inr y27=>lAt m.s_.Stack (IntKind.i64.wrap ((k:Int)-1))>>=fun y28=>some (.inr (⟨m.l_,m.s_,m.x_,m.a_,m.b_,y28,IntKind.i64.wrap ((k:Int)-1),⟨m.one_.x0_,y28.L,m.one_.x2_⟩⟩:aE)))=some (if 0<k then .inr (retM m k) else .inl 3):=by
 rw[gQ,bsome]
 by_cases h:0<k
 ·rw[decide_eq_true (show (k:Int)>0 by omega),if_pos h]
  have e:IntKind.i64.wrap ((k:Int)-1)=((k-1:Nat):Int):=by rw[wrapZ (by omega) (by omega)];omega
  have e':(k:Int)-1=((k-1:Nat):Int):=by omega
  show (lAt m.s_.Stack (IntKind.i64.wrap ((k:Int)-1))>>=_)=_
  rw[e,bo (by omega),bsome]
  unfold retM
  rw[getD_is (by omega),e']
 ·rw[decide_eq_false (show ¬(k:Int)>0 by omega),if_neg h];rfl
theorem mP{m:aE}(hn:m.s_.Stack.length<=1000):
  aY.f m=some (if m.x_.N=1 then (if okT m.s_.Stack 0=true/\0<frU m.s_.Stack (m.s_.Stack.length-1) then .inr (retM (firstM m) (frU m.s_.Stack (m.s_.Stack.length-1))) else .inl 3) else (if 0<frU m.s_.Stack m.s_.Stack.length then .inr (retM m (frU m.s_.Stack m.s_.Stack.length)) else .inl 3)):=by
 unfold aY.f
 by_cases h:m.x_.N=1
 ·rw[if_pos h,if_pos h]
  have q:=gZ (m:=⟨m.l_,m.s_,m.x_,m.a_,m.b_,m.r_,(m.s_.Stack.length:Int),m.one_⟩) hn
  rw[q,bsome]
  show (match (if okT m.s_.Stack 0=true then .inr (firstM m) else .inl 3:Pn⊕aE) with|.inl p3=>_|.inr y4=>_)=_
  cases h0:okT m.s_.Stack 0 with
  |false=>rw[if_neg (show ¬(false=true/\0<frU m.s_.Stack (m.s_.Stack.length-1)) from fun w=>by cases w.1)];rfl
  |true=>
   have hp:0<m.s_.Stack.length:=by
    unfold okT at h0
    rw[Bool.and_eq_true,decide_eq_true_eq] at h0
    exact h0.1
   have e:(m.s_.Stack.length:Int)-1=((m.s_.Stack.length-1:Nat):Int):=by omega
   have hf:=frU_le m.s_.Stack (m.s_.Stack.length-1)
   show (aY.l0 (firstM m) ((m.s_.Stack.length:Int)-1)>>=_)=_
   rw[e,(ret_l (m:=firstM m) hn (m.s_.Stack.length-1) (show m.s_.Stack.length-1<=m.s_.Stack.length by omega)).1,bsome]
   have q:=ret_end (m:=firstM m) hn (k:=frU m.s_.Stack (m.s_.Stack.length-1)) (show _<=m.s_.Stack.length by omega)
   refine Eq.trans q ?_
   simp only[true_and]
 ·rw[if_neg h,if_neg h,(ret_l hn m.s_.Stack.length (Nat.le_refl _)).2,bsome]
  exact ret_end hn (frU_le _ _)
end Go.Proofs.YtmjcpkmongafnaaGreatDoor.Ss
namespace Go.Proofs.YtmjcpkmongafnaaGreatDoor.Ss
open Go Go.Proofs.YtmjcpkmongafnaaGreatDoor.Ab Go.Proofs.YtmjcpkmongafnaaGreatDoor.TT
structure Fine(P:Int->Prop)(a m:aE):Prop where
 l:m.l_=a.l_
 s:m.s_=a.s_
 x:m.x_=a.x_
 lo:0<=m.below_
 hi:m.below_<=(a.s_.Stack.length:Int)
 o0:P m.one_.x0_
 o1:P m.one_.x1_
 o2:P m.one_.x2_
 c:a.x_.Op=5\/a.x_.Op=6->okC m=true
 g:a.x_.Op=9->a.x_.N<=m.below_
structure Start(P:Int->Prop)(a:aE):Prop where
 n:a.s_.Stack.length<=1000
 o0:P a.one_.x0_
 o1:P a.one_.x1_
 o2:P a.one_.x2_
 st:∀x∈a.s_.Stack,P x.L
 me:∀x∈a.s_.Mem,P x.L
 op:0<=a.x_.Op/\a.x_.Op<=12
 im:a.x_.Op=1->P a.x_.L
 cn:a.x_.Op=9->0<=a.x_.N/\a.x_.N<=3
theorem sl_P{P:Int->Prop} {S:List aF}(h:∀x∈S,P x.L){d:Nat}(k:okT S d=true):P (sl S d).L:=by
 unfold okT at k
 rw[Bool.and_eq_true,decide_eq_true_eq] at k
 rw[sl_at k.1]
 exact h _ (List.getElem_mem _)
theorem okT_lt{S:List aF} {d:Nat}(k:okT S d=true):d<S.length:=by
 unfold okT at k
 rw[Bool.and_eq_true,decide_eq_true_eq] at k
 exact k.1
theorem mm_P{P:Int->Prop} {m:aE}(h:∀x∈m.s_.Mem,P x.L)(k:okC m=true):P (mm m.s_ m.a_.V).L:=by
 unfold okC at k
 have k:=of_decide_eq_true k
 have hlt:m.a_.V.toNat<m.s_.Mem.length:=by omega
 unfold mm
 rw[List.getD_eq_getElem?_getD,List.getElem?_eq_getElem hlt]
 exact h _ (List.getElem_mem _)
theorem getD_P{P:Int->Prop} {S:List aF}(h:∀x∈S,P x.L){k:Nat}(hk:k<S.length):P (S.getD k ⟨true,0,0⟩).L:=by
 rw[getD_is hk]
 exact h _ (List.getElem_mem _)
theorem iQ{P:Int->Prop} {a m:aE}(z:Start P a)(hm:m.l_=a.l_/\m.s_=a.s_/\m.x_=a.x_/\m.one_=a.one_)(k:okT a.s_.Stack 0=true)(n5:¬(a.x_.Op=5\/a.x_.Op=6))(n9:a.x_.Op=9->a.x_.N<=(a.s_.Stack.length:Int)-1):Fine P a (firstM m):=by
 obtain⟨h1,h2,h3,h4⟩:=hm
 have hp:=okT_lt k
 refine⟨h1,h2,h3,?_,?_,?_,?_,?_,fun w=>absurd w n5,?_⟩
 ·show 0<=(m.s_.Stack.length:Int)-1
  rw[h2];omega
 ·show (m.s_.Stack.length:Int)-1<=_
  rw[h2];omega
 ·show P (sl m.s_.Stack 0).L
  rw[h2];exact sl_P z.st k
 ·show P m.one_.x1_
  rw[h4];exact z.o1
 ·show P m.one_.x2_
  rw[h4];exact z.o2
 ·intro w
  show a.x_.N<=(m.s_.Stack.length:Int)-1
  rw[h2];exact n9 w
theorem mQ{P:Int->Prop} {a m:aE}(z:Start P a)(hm:m.l_=a.l_/\m.s_=a.s_/\m.x_=a.x_/\m.one_=a.one_)(k:okT a.s_.Stack 0=true)(k1:okT a.s_.Stack 1=true)(n5:¬(a.x_.Op=5\/a.x_.Op=6))(n9:a.x_.Op≠9):Fine P a (bothM m):=by
 obtain⟨h1,h2,h3,h4⟩:=hm
 have hp:=okT_lt k1
 refine⟨h1,h2,h3,?_,?_,?_,?_,?_,fun w=>absurd w n5,fun w=>absurd w n9⟩
 ·show 0<=(m.s_.Stack.length:Int)-2
  rw[h2];omega
 ·show (m.s_.Stack.length:Int)-2<=_
  rw[h2];omega
 ·show P (sl m.s_.Stack 0).L
  rw[h2];exact sl_P z.st k
 ·show P (sl m.s_.Stack 1).L
  rw[h2];exact sl_P z.st k1
 ·show P m.one_.x2_
  rw[h4];exact z.o2
end Go.Proofs.YtmjcpkmongafnaaGreatDoor.Ss
namespace Go.Proofs.YtmjcpkmongafnaaGreatDoor.Ss
open Go Go.Proofs.YtmjcpkmongafnaaGreatDoor.Ab Go.Proofs.YtmjcpkmongafnaaGreatDoor.TT
def Ans(P:Int->Prop)(a:aE)(e:Option (Pn⊕aE)):Prop:=
 ∃r,e=some r/\(match r with|.inl p=>p=3|.inr m=>Fine P a m)
theorem ij{P:Int->Prop} {a m:aE} {c:Prop}[Decidable c]{e:Option (Pn⊕aE)}(h:e=some (if c then .inr m else .inl 3))(k:c->Fine P a m):Ans P a (e>>=fun z=>match z with|.inl p=>some (.inl p)|.inr y=>some (.inr y)):=by
 rw[h,bsome]
 by_cases q:c
 ·rw[if_pos q];exact⟨_,rfl,k q⟩
 ·rw[if_neg q];exact⟨_,rfl,rfl⟩
def topM(a:aE):aE:=⟨a.l_,a.s_,a.x_,a.a_,a.b_,a.r_,(a.s_.Stack.length:Int),a.one_⟩
theorem nH{P:Int->Prop} {a m:aE}(z:Start P a)(hm:m.l_=a.l_/\m.s_=a.s_/\m.x_=a.x_)(o0:P m.one_.x0_)(o2:P m.one_.x2_){k:Nat}(h0:0<k)(hk:k<=a.s_.Stack.length)(n5:¬(a.x_.Op=5\/a.x_.Op=6))(n9:a.x_.Op≠9):Fine P a (retM m k):=by
 obtain⟨h1,h2,h3⟩:=hm
 refine⟨h1,h2,h3,?_,?_,o0,?_,o2,fun w=>absurd w n5,fun w=>absurd w n9⟩
 ·show 0<=(k:Int)-1
  omega
 ·show (k:Int)-1<=_
  omega
 ·show P (m.s_.Stack.getD (k-1) ⟨true,0,0⟩).L
  rw[h2]
  exact getD_P z.st (by omega)
theorem needs_a{P:Int->Prop} {a:aE}(z:Start P a):Ans P a (b9.f a):=by
 have hn:(topM a).s_.Stack.length<=1000:=z.n
 have hop:=z.op
 have same:(topM a).l_=a.l_/\(topM a).s_=a.s_/\(topM a).x_=a.x_/\(topM a).one_=a.one_:=⟨rfl,rfl,rfl,rfl⟩
 unfold b9.f
 by_cases c0:a.x_.Op=0
 ·rw[if_pos c0]
  exact⟨_,rfl,⟨rfl,rfl,rfl,Int.natCast_nonneg _,Int.le_refl _,z.o0,z.o1,z.o2,fun w=>by omega,fun w=>by omega⟩⟩
 rw[if_neg c0]
 by_cases c12:a.x_.Op=12
 ·rw[if_pos c12]
  exact⟨_,rfl,⟨rfl,rfl,rfl,Int.natCast_nonneg _,Int.le_refl _,z.o0,z.o1,z.o2,fun w=>by omega,fun w=>by omega⟩⟩
 rw[if_neg c12]
 by_cases c1:a.x_.Op=1
 ·rw[if_pos c1]
  exact⟨_,rfl,⟨rfl,rfl,rfl,Int.natCast_nonneg _,Int.le_refl _,z.im c1,z.o1,z.o2,fun w=>by omega,fun w=>by omega⟩⟩
 rw[if_neg c1]
 by_cases c2:a.x_.Op=2
 ·rw[if_pos c2]
  exact ij (gZ (m:=topM a) hn) (fun q=>iQ z same q (by omega) (by omega))
 rw[if_neg c2]
 by_cases c11:a.x_.Op=11
 ·rw[if_pos c11]
  exact ij (gZ (m:=topM a) hn) (fun q=>iQ z same q (by omega) (by omega))
 rw[if_neg c11]
 by_cases c3:a.x_.Op=3
 ·rw[if_pos c3]
  exact ij (kE (m:=topM a) hn) (fun q=>mQ z same q.1 q.2 (by omega) (by omega))
 rw[if_neg c3]
 by_cases c4:a.x_.Op=4
 ·rw[if_pos c4]
  exact ij (kE (m:=topM a) hn) (fun q=>mQ z same q.1 q.2 (by omega) (by omega))
 rw[if_neg c4]
 by_cases c5:a.x_.Op=5
 ·rw[if_pos c5]
  refine ij (loads_m (m:=topM a) hn) (fun q=>?_)
  have hp:=okT_lt q.1
  refine⟨rfl,rfl,rfl,?_,?_,sl_P z.st q.1,mm_P (m:=firstM (topM a)) z.me q.2,z.o2,fun _=>q.2,fun w=>by omega⟩
  ·show 0<=(a.s_.Stack.length:Int)-1
   have:0<a.s_.Stack.length:=hp
   omega
  ·show (a.s_.Stack.length:Int)-1<=_
   omega
 rw[if_neg c5]
 by_cases c6:a.x_.Op=6
 ·rw[if_pos c6]
  refine ij (nG (m:=topM a) hn) (fun q=>?_)
  have hp:=okT_lt q.1.2
  refine⟨rfl,rfl,rfl,?_,?_,sl_P z.st q.1.1,sl_P z.st q.1.2,mm_P (m:=firstM (topM a)) z.me q.2,fun _=>q.2,fun w=>by omega⟩
  ·show 0<=(a.s_.Stack.length:Int)-2
   have:1<a.s_.Stack.length:=hp
   omega
  ·show (a.s_.Stack.length:Int)-2<=_
   omega
 rw[if_neg c6]
 by_cases c7:a.x_.Op=7
 ·rw[if_pos c7]
  exact ij (goes_m (m:=topM a) hn) (fun q=>iQ z same q.1 (by omega) (by omega))
 rw[if_neg c7]
 by_cases c8:a.x_.Op=8
 ·rw[if_pos c8]
  exact ij (gZ (m:=topM a) hn) (fun q=>iQ z same q (by omega) (by omega))
 rw[if_neg c8]
 by_cases c9:a.x_.Op=9
 ·rw[if_pos c9]
  obtain⟨q0,q3⟩:=z.cn c9
  have e:(topM a).x_.N=((a.x_.N.toNat:Nat):Int):=by show a.x_.N=_;omega
  refine ij (calls_m (m:=topM a) hn e (by omega)) (fun q=>iQ z same q.1.1 (by omega) (fun _=>?_))
  have hp:0<a.s_.Stack.length:=okT_lt q.1.1
  cases hN:a.x_.N.toNat with
  |zero=>omega
  |succ k=>
   have q2:=q.2
   rw[hN] at q2
   have:1+0+k<a.s_.Stack.length:=mO q2
   omega
 rw[if_neg c9]
 have c10:a.x_.Op=10:=by omega
 rw[if_pos c10]
 have r:=mP (m:=topM a) hn
 by_cases cN:(topM a).x_.N=1
 ·rw[if_pos cN] at r
  refine ij r (fun q=>?_)
  have hf:=frU_le a.s_.Stack (a.s_.Stack.length-1)
  exact nH (m:=firstM (topM a)) z ⟨rfl,rfl,rfl⟩ (sl_P z.st q.1) z.o2 q.2 (Nat.le_trans hf (Nat.sub_le _ _)) (by omega) (by omega)
 ·rw[if_neg cN] at r
  refine ij r (fun q=>?_)
  exact nH (m:=topM a) z ⟨rfl,rfl,rfl⟩ z.o0 z.o2 q (frU_le _ _) (by omega) (by omega)
end Go.Proofs.YtmjcpkmongafnaaGreatDoor.Ss
namespace Go.Proofs.YtmjcpkmongafnaaGreatDoor.Ss
open Go Go.Proofs.YtmjcpkmongafnaaGreatDoor.Ab Go.Proofs.YtmjcpkmongafnaaGreatDoor.TT
theorem clone_s{S:List aF}(h:S.length<=1000):bW.f S=some S:=by
 have hB:100000<=big:=by decide
 unfold bW.f
 rw[if_pos (show (([]:List aF).length+S.length)*24<=big by simp;omega)];rfl
theorem jo{S:List aG}(h:S.length<=1000):br.f S=some S:=by
 have hB:100000<=big:=by decide
 unfold br.f
 rw[if_pos (show (([]:List aG).length+S.length)*16<=big by simp;omega)];rfl
theorem put_m{m:aE}(h:m.s_.Stack.length<=1000)(v l:Int):cA.f m v l=some ⟨m.l_,⟨m.s_.Pc,m.s_.Code,m.s_.Mem,m.s_.Stack++[⟨false,v,l⟩],m.s_.Out⟩,m.x_,m.a_,m.b_,m.r_,m.below_,m.one_⟩:=by
 have hB:100000<=big:=by decide
 unfold cA.f
 rw[if_pos (show (m.s_.Stack.length+([(⟨false,v,l⟩:aF)]:List aF).length)*24<=big by simp;omega)]
theorem oA{xss:List (List aF)}(h:∀x∈xss,x.length<=1000):xss.flatten.length<=xss.length*1000:=by
 induction xss with
 |nil=>simp
 |cons a r ih=>
  have ha:=h a (by simp)
  have:=ih (fun x hx=>h x (by simp[hx]))
  simp only[List.flatten_cons,List.length_append,List.length_cons,Nat.succ_mul]
  omega
theorem mR{xss:List (List aF)}(hn:xss.length<=100)(h:∀x∈xss,x.length<=1000):∀(d k:Nat) (v:Nat),xss.length=k+d->v<=k*1000->aT.l0 xss (k:Int) (v:Int)=some ((v+(xss.drop k).flatten.length:Nat):Int)
 |0,k,v,e,hv=>by
  rw[aT.l0,if_neg (by omega),List.drop_of_length_le (by omega)];simp
 |d+1,k,v,e,hv=>by
  have hk:k<xss.length:=by omega
  have hx:=h xss[k] (List.getElem_mem hk)
  have ih:=mR hn h d (k+1) (v+xss[k].length) (by omega) (by rw[Nat.succ_mul];omega)
  have hw:IntKind.i64.wrap ((v:Int)+(xss[k].length:Int))=((v+xss[k].length:Nat):Int):=by rw[wrapZ (by omega) (by omega)];omega
  rw[aT.l0,if_pos (by omega),bo hk,bsome,hw,if_neg (by omega),bsome,wS (by omega),ih,List.drop_eq_getElem_cons hk]
  simp only[List.flatten_cons,List.length_append]
  rw[Nat.add_assoc]
theorem mS{xss:List (List aF)}(hn:xss.length<=100)(h:∀x∈xss,x.length<=1000):∀(d k:Nat) (v:List aF),xss.length=k+d->v.length<=k*1000->aT.l1 xss v (k:Int)=some (v++(xss.drop k).flatten)
 |0,k,v,e,hv=>by
  rw[aT.l1,if_neg (by omega),List.drop_of_length_le (by omega)];simp
 |d+1,k,v,e,hv=>by
  have hk:k<xss.length:=by omega
  have hx:=h xss[k] (List.getElem_mem hk)
  have hB:10000000<=big:=by decide
  have ih:=mS hn h d (k+1) (v++xss[k]) (by omega) (by rw[Nat.succ_mul];simp;omega)
  rw[aT.l1,if_pos (by omega),bo hk,bsome,if_pos (by omega),wS (by omega),ih,List.drop_eq_getElem_cons hk]
  simp only[List.flatten_cons,List.append_assoc]
theorem grow_eq{n:Nat}(h:n<=100000):dK.f (n:Int)=some []:=by
 unfold dK.f
 have h1:IntKind.i64.wrap (0-(([]:List aF).length:Int))=0:=by decide
 have h2:IntKind.i64.wrap ((n:Int)-0)=(n:Int):=by rw[wrapZ (by omega) (by omega)];omega
 have hB:10000000<=big:=by decide
 rw[if_neg (by omega),h1,h2]
 by_cases h0:(n:Int)>0
 ·rw[if_pos h0,if_pos ⟨h0,by simp;omega⟩,if_pos ⟨by simp,by simp⟩];rfl
 ·rw[if_neg h0]
theorem mT{xss:List (List aF)}(hn:xss.length<=100)(h:∀x∈xss,x.length<=1000):aT.f xss=some xss.flatten:=by
 unfold aT.f
 have h1:=mR hn h xss.length 0 0 (by omega) (by omega)
 have h2:=mS hn h xss.length 0 [] (by omega) (by simp)
 have h3:=oA h
 have h4:xss.length*1000<=100*1000:=Nat.mul_le_mul_right _ hn
 rw[show ((0:Nat):Int)=0 from rfl,List.drop_zero,Nat.zero_add] at h1
 rw[show ((0:Nat):Int)=0 from rfl,List.drop_zero,List.nil_append] at h2
 rw[h1,bsome,grow_eq (by omega),bsome,h2,bsome]
end Go.Proofs.YtmjcpkmongafnaaGreatDoor.Ss
namespace Go.Proofs.YtmjcpkmongafnaaGreatDoor.Ss
open Go Go.Proofs.YtmjcpkmongafnaaGreatDoor.Ab Go.Proofs.YtmjcpkmongafnaaGreatDoor.TT
structure Kept(a m:aE):Prop where
 code:m.s_.Code=a.s_.Code
 mem:m.s_.Mem.length=a.s_.Mem.length
 st:m.s_.Stack.length<=a.s_.Stack.length+1
 out:m.s_.Out=a.s_.Out\/∃x,m.s_.Out=a.s_.Out++[x]
theorem kept_bind{a:aE} {e:Option (aE×Int)}(h:∃m p,e=some (m,p)/\Kept a m):∃m,(e>>=fun o=>match o with|(x28,x29)=>some (⟨x28.l_,⟨⟨x29,x28.s_.Pc.L⟩,x28.s_.Code,x28.s_.Mem,x28.s_.Stack,x28.s_.Out⟩,x28.x_,x28.a_,x28.b_,x28.r_,x28.below_,x28.one_⟩:aE))=some m/\Kept a m:=by
 obtain⟨m,p,h1,h2⟩:=h
 rw[h1,bsome]
 exact⟨_,rfl,⟨h2.code,h2.mem,h2.st,h2.out⟩⟩
theorem ka{α:Type} {xs:List α} {b:Int}:(lCut xs 0 b).length<=xs.length:=by
 simp[lCut];omega
theorem does_m{m:aE}(hn:m.s_.Stack.length<=900)(hm:m.s_.Mem.length<=900)(ho:m.s_.Out.length<=900)(lo:0<=m.below_)(hi:m.below_<=(m.s_.Stack.length:Int))(c:m.x_.Op=5\/m.x_.Op=6->okC m=true)(g:m.x_.Op=9->0<=m.x_.N/\m.x_.N<=m.below_)(v:Int):
  ∃r,eC.f m v=some r/\Kept m r:=by
 have hc:=ka (xs:=m.s_.Stack) (b:=m.below_)
 have hB:100000<=big:=by decide
 unfold eC.f
 rw[if_pos ⟨lo,hi⟩,clone_s (by omega),bsome]
 refine kept_bind ?_
 have hput:∀(x:Int),cA.f (⟨m.l_,⟨m.s_.Pc,m.s_.Code,m.s_.Mem,lCut m.s_.Stack 0 m.below_,m.s_.Out⟩,m.x_,m.a_,m.b_,m.r_,m.below_,m.one_⟩:aE) x v=some ⟨m.l_,⟨m.s_.Pc,m.s_.Code,m.s_.Mem,lCut m.s_.Stack 0 m.below_++[⟨false,x,v⟩],m.s_.Out⟩,m.x_,m.a_,m.b_,m.r_,m.below_,m.one_⟩:=fun x=>put_m (show (lCut m.s_.Stack 0 m.below_).length<=1000 by omega) x v
 have hst:∀x:Int,(lCut m.s_.Stack 0 m.below_++[(⟨false,x,v⟩:aF)]).length<=m.s_.Stack.length+1:=fun x=>by simp only[List.length_append,List.length_singleton];omega
 by_cases c1:m.x_.Op=1
 ·rw[if_pos c1,hput,bsome];exact⟨_,_,rfl,⟨rfl,rfl,hst _,.inl rfl⟩⟩
 rw[if_neg c1]
 by_cases c3:m.x_.Op=3
 ·rw[if_pos c3,hput,bsome];exact⟨_,_,rfl,⟨rfl,rfl,hst _,.inl rfl⟩⟩
 rw[if_neg c3]
 by_cases c4:m.x_.Op=4
 ·rw[if_pos c4,hput,bsome];exact⟨_,_,rfl,⟨rfl,rfl,hst _,.inl rfl⟩⟩
 rw[if_neg c4]
 by_cases c5:m.x_.Op=5
 ·have k:=of_decide_eq_true (c (.inl c5))
  rw[if_pos c5,mm_at k.1 k.2,bsome,hput,bsome];exact⟨_,_,rfl,⟨rfl,rfl,hst _,.inl rfl⟩⟩
 rw[if_neg c5]
 by_cases c6:m.x_.Op=6
 ·have k:=of_decide_eq_true (c (.inr c6))
  rw[if_pos c6,jo (by omega),bsome,mm_at k.1 k.2,bsome]
  exact⟨_,_,rfl,⟨rfl,List.length_set,Nat.le_succ_of_le hc,.inl rfl⟩⟩
 rw[if_neg c6]
 by_cases c11:m.x_.Op=11
 ·rw[if_pos c11,jo (by omega),bsome,if_pos (show (m.s_.Out.length+([(⟨m.a_.V,v⟩:aG)]:List aG).length)*16<=big by simp;omega)]
  exact⟨_,_,rfl,⟨rfl,rfl,Nat.le_succ_of_le hc,.inr ⟨_,rfl⟩⟩⟩
 rw[if_neg c11]
 by_cases c7:m.x_.Op=7
 ·rw[if_pos c7];exact⟨_,_,rfl,⟨rfl,rfl,Nat.le_succ_of_le hc,.inl rfl⟩⟩
 rw[if_neg c7]
 by_cases c8:m.x_.Op=8
 ·rw[if_pos c8]
  split<;>exact⟨_,_,rfl,⟨rfl,rfl,Nat.le_succ_of_le hc,.inl rfl⟩⟩
 rw[if_neg c8]
 by_cases c9:m.x_.Op=9
 ·obtain⟨g0,g1⟩:=g c9
  have e:IntKind.i64.wrap (m.below_-m.x_.N)=m.below_-m.x_.N:=wrapZ (by omega) (by omega)
  rw[if_pos c9,e,if_pos (by omega),if_pos (by omega),mT (by simp) (by
   intro x hx
   simp only[List.mem_cons,List.not_mem_nil,or_false] at hx
   rcases hx with rfl|rfl|rfl<;>simp[lCut]<;>omega),bsome]
  refine⟨_,_,rfl,⟨rfl,rfl,?_,.inl rfl⟩⟩
  simp[lCut];omega
 rw[if_neg c9]
 by_cases c10:m.x_.Op=10
 ·rw[if_pos c10]
  by_cases cn:m.x_.N=1
  ·rw[if_pos cn,hput,bsome];exact⟨_,_,rfl,⟨rfl,rfl,hst _,.inl rfl⟩⟩
  ·rw[if_neg cn];exact⟨_,_,rfl,⟨rfl,rfl,Nat.le_succ_of_le hc,.inl rfl⟩⟩
 rw[if_neg c10]
 exact⟨_,_,rfl,⟨rfl,rfl,Nat.le_succ_of_le hc,.inl rfl⟩⟩
end Go.Proofs.YtmjcpkmongafnaaGreatDoor.Ss
namespace Go.Proofs.YtmjcpkmongafnaaGreatDoor.Ss
open Go Go.Proofs.YtmjcpkmongafnaaGreatDoor.Ab Go.Proofs.YtmjcpkmongafnaaGreatDoor.TT
theorem cond_any{l:az} {U:List Nat}(h:Nm l U){r labels:List Int}(hr:r.length<=900)(hl:labels.length<=900):∃b q,fb.f l r labels=some (b,q):=by
 by_cases hm:mayS l U r labels false=0
 ·obtain⟨hc,hR,h4,ha⟩:=mU hm
  obtain⟨t,h1,h2,h3,_⟩:=lr hR
  obtain⟨E,_⟩:=je_of h hc h4 ha
  subst h3
  exact⟨_,_,cond_is h E h1 h2 hr hl hm⟩
 ·exact⟨_,_,cond_no h hr hl hm⟩
theorem mV{l:az} {U:List Nat}(h:Nm l U){r labels:List Int}(hr:r.length<=900)(hl:labels.length<=900):∃b q,dJ.f l r labels=some (b,q):=by
 by_cases hm:mayS l U r labels true=0
 ·obtain⟨hc,hR,h4,ha⟩:=mU hm
  obtain⟨t,h1,h2,h3,_⟩:=lr hR
  obtain⟨E,_⟩:=je_of h hc h4 ha
  subst h3
  exact⟨_,_,nI h E h1 h2 hr hl hm⟩
 ·exact⟨_,_,label_no h hr hl hm⟩
end Go.Proofs.YtmjcpkmongafnaaGreatDoor.Ss
namespace Go.Proofs.YtmjcpkmongafnaaGreatDoor.Ss
open Go Go.Proofs.YtmjcpkmongafnaaGreatDoor.Ab Go.Proofs.YtmjcpkmongafnaaGreatDoor.TT
theorem ins_of{n:Int} {x:aI}(h:insB n x=true):(0<=x.Op/\x.Op<=12)/\(x.Op=9->0<=x.N/\x.N<=3):=by
 unfold insB at h
 by_cases c1:x.Op=1
 ·exact⟨by omega,fun w=>by omega⟩
 ·rw[if_neg c1] at h
  obtain⟨a,b,_,d⟩:=of_decide_eq_true h
  refine⟨⟨a,b⟩,fun w=>?_⟩
  rw[if_neg (by omega),if_pos w] at d
  exact d
theorem plc_of{v:Int}(h:plaB v=true):0<=v/\v<=12:=by
 have:=of_decide_eq_true h
 exact⟨this.1,this.2⟩
structure RightS(n:Int)(s:al):Prop where
 code:s.Code.length<=12
 ins:∀x∈s.Code,insB n x=true
 pc:0<=s.Pc.V/\s.Pc.V<=12
 mem:s.Mem.length<=6
 stack:s.Stack.length<=12
 out:s.Out.length<=8
theorem rs_of{n:Int} {s:al}(h:rightS n s=true):RightS n s:=by
 unfold rightS at h
 simp only[Bool.and_eq_true] at h
 obtain⟨⟨⟨⟨⟨⟨h1,h2⟩,h3⟩,⟨h4,h5⟩,h6⟩,h7⟩,h8⟩,h9⟩:=h
 unfold rightB at h1
 rw[Bool.and_eq_true] at h1
 exact⟨of_decide_eq_true h1.1,List.all_eq_true.1 h1.2,plc_of h2,of_decide_eq_true h4,of_decide_eq_true h5,of_decide_eq_true h6⟩
theorem RightS.sz{n:Int} {s:al}(h:RightS n s):Sz s:=⟨by have:=h.code;omega,by have:=h.mem;omega,by have:=h.stack;omega,by have:=h.out;omega⟩
def K(l:az)(s:al)(m:aE)(row:aW):Option (Pn⊕(al×Int)):=
 fb.f l row.May ([s.Pc.L,m.one_.x0_,m.one_.x1_,m.one_.x2_]:List Int)>>=fun y11=>if (!y11.1)=true then (some (.inl 2)) else (dJ.f l row.Res ([s.Pc.L,m.one_.x0_,m.one_.x1_,m.one_.x2_]:List Int)>>=fun y13=>dJ.f l row.Pc ([s.Pc.L,m.one_.x0_,m.one_.x1_,m.one_.x2_]:List Int)>>=fun y14=>eC.f m y13.1>>=fun y15=>fe.f l (⟨⟨y15.s_.Pc.V,y14.1⟩,y15.s_.Code,y15.s_.Mem,y15.s_.Stack,y15.s_.Out⟩:al)>>=fun y16=>cc.f y16>>=fun z17=>match z17 with|.inl p18=>some (.inl p18)|.inr y19=>some (.inr ((⟨⟨y15.s_.Pc.V,y14.1⟩,y15.s_.Code,y15.s_.Mem,y15.s_.Stack,y15.s_.Out⟩:al),0)))
def mach(l:az)(s:al)(x:aI)(y:Int):aE:=⟨l,s,x,⟨false,0,0⟩,⟨false,0,0⟩,⟨false,0,0⟩,0,⟨y,y,y⟩⟩
theorem code_at{n:Int} {s:al}(h:RightS n s)(h0:s.Pc.V<(s.Code.length:Int)):∃x,lAt s.Code s.Pc.V=some x/\x∈s.Code:=by
 have p:=h.pc
 have hlt:s.Pc.V.toNat<s.Code.length:=by omega
 have e:s.Pc.V=((s.Pc.V.toNat:Nat):Int):=by omega
 refine⟨s.Code[s.Pc.V.toNat],?_,List.getElem_mem hlt⟩
 have:=bo (xs:=s.Code) hlt
 rwa [<-e] at this
inductive Way(l:az)(s:al):Prop where
 |off (h:¬s.Pc.V<(s.Code.length:Int)) (e:∀R,dO.B l ⟨R⟩ s=some (.inl 3)):Way l s
 |no (x:aI) (hx:lAt s.Code s.Pc.V=some x) (h:s.Pc.V<(s.Code.length:Int)) (e:∀R,dO.B l ⟨R⟩ s=some (.inl 3)):Way l s
 |halt (x:aI) (hx:lAt s.Code s.Pc.V=some x) (h:s.Pc.V<(s.Code.length:Int)) (e:∀R,dO.B l ⟨R⟩ s=some (.inl 1)):Way l s
 |go (x:aI) (m:aE) (y:Int) (hx:lAt s.Code s.Pc.V=some x) (h:s.Pc.V<(s.Code.length:Int)) (op:0<=x.Op/\x.Op<=12) (cn:x.Op=9->0<=x.N/\x.N<=3) (hm:Fine (fun _=>True) (mach l s x y) m) (e:∀R,dO.B l ⟨R⟩ s=(lAt R x.Op>>=fun r=>K l s m r)):Way l s
theorem way{l:az} {U:List Nat}(h:Nm l U)(hc:chk l U=0){n:Int} {s:al}(z:RightS n s):Way l s:=by
 obtain⟨y,_,hb⟩:=lu h hc
 have hS:=z.stack
 by_cases h0:s.Pc.V<(s.Code.length:Int)
 ·obtain⟨x,ea,hm⟩:=code_at z h0
  obtain⟨i0,i1⟩:=ins_of (z.ins x hm)
  obtain⟨r,hr,hq⟩:=needs_a (P:=fun _=>True) (a:=mach l s x y) ⟨by show s.Stack.length<=1000;omega,trivial,trivial,trivial,fun _ _=>trivial,fun _ _=>trivial,i0,fun _=>trivial,i1⟩
  have hB:∀R,dO.B l ⟨R⟩ s=(match r with|.inl p7=>some (.inl p7)|.inr y8=>if y8.x_.Op=12 then (some (.inl 1)) else (lAt R y8.x_.Op>>=fun y10=>K l s y8 y10):Option (Pn⊕(al×Int))):=by
   intro R
   unfold dO.B
   rw[gQ,bsome,decide_eq_true h0]
   show (dI.f l>>=_)=_
   rw[hb,bsome,ea,bsome]
   unfold mach at hr
   show (b9.f (⟨l,s,x,⟨false,0,0⟩,⟨false,0,0⟩,⟨false,0,0⟩,0,⟨(y:Int),(y:Int),(y:Int)⟩⟩:aE)>>=_)=_
   rw[hr,bsome]
   cases r<;>rfl
  cases r with
  |inl p=>
   have hp:p=3:=hq
   subst hp
   exact .no x ea h0 hB
  |inr m=>
   have hq:Fine (fun _=>True) (mach l s x y) m:=hq
   have hx:m.x_=x:=hq.x
   by_cases h12:x.Op=12
   ·refine .halt x ea h0 fun R=>?_
    rw[hB R]
    show (if m.x_.Op=12 then _ else _)=_
    rw[hx,if_pos h12]
   ·refine .go x m y ea h0 i0 i1 hq fun R=>?_
    rw[hB R]
    show (if m.x_.Op=12 then _ else _)=_
    rw[hx,if_neg h12]
 ·refine .off h0 fun R=>?_
  unfold dO.B
  rw[gQ,bsome,decide_eq_false h0];rfl
def Went(n:Int)(s:al):Pn⊕(al×Int)->Prop
 |.inl p=>p=1\/p=2\/p=3
 |.inr (t,q)=>q=0/\rightS n t=true/\t.Code=s.Code/\t.Mem.length=s.Mem.length/\t.Stack.length<=s.Stack.length+1/\(t.Out=s.Out\/∃x,t.Out=s.Out++[x])
theorem K_m{l:az} {U:List Nat}(h:Nm l U)(hc:chk l U=0){n:Int} {s:al}(z:RightS n s){x:aI} {m:aE} {y:Int}(op:0<=x.Op/\x.Op<=12)(cn:x.Op=9->0<=x.N/\x.N<=3)(hm:Fine (fun _=>True) (mach l s x y) m){row:aW}(h1:row.May.length<=900)(h2:row.Res.length<=900)(h3:row.Pc.length<=900):
  ∃r,K l s m row=some r/\Went (l.Up.length:Int) s r/\(∀p,r=.inl p->p=2\/p=3):=by
 have es:m.s_=s:=hm.s
 have ex:m.x_=x:=hm.x
 have zs:=z.stack
 have zm:=z.mem
 have zo:=z.out
 have zc:=z.code
 unfold K
 obtain⟨b,q,e1⟩:=cond_any h (r:=row.May) (labels:=[s.Pc.L,m.one_.x0_,m.one_.x1_,m.one_.x2_]) h1 (by simp)
 rw[e1,bsome]
 cases b with
 |false=>exact⟨_,rfl,.inr (.inl rfl),fun p hp=>by cases hp;exact .inl rfl⟩
 |true=>
  show∃r,(dJ.f l row.Res _>>=_)=some r/\_
  obtain⟨v,q2,e2⟩:=mV h (r:=row.Res) (labels:=[s.Pc.L,m.one_.x0_,m.one_.x1_,m.one_.x2_]) h2 (by simp)
  obtain⟨w,q3,e3⟩:=mV h (r:=row.Pc) (labels:=[s.Pc.L,m.one_.x0_,m.one_.x1_,m.one_.x2_]) h3 (by simp)
  obtain⟨r,e4,k⟩:=does_m (m:=m) (by rw[es];omega) (by rw[es];omega) (by rw[es];omega) hm.lo (by rw[es];exact hm.hi) (fun w=>by rw[ex] at w;exact hm.c w) (fun w=>by rw[ex] at w⊢;exact⟨(cn w).1,hm.g w⟩) v
  have k1:r.s_.Code=s.Code:=by rw[k.code,es]
  have k2:r.s_.Mem.length=s.Mem.length:=by rw[k.mem,es]
  have k3:r.s_.Stack.length<=s.Stack.length+1:=by have:=k.st;rw[es] at this;exact this
  have k4:r.s_.Out=s.Out\/∃x,r.s_.Out=s.Out++[x]:=by have:=k.out;rw[es] at this;exact this
  have k5:r.s_.Out.length<=1000:=by
   rcases k4 with e|⟨x,e⟩<;>rw[e]
   ·omega
   ·rw[List.length_append,List.length_singleton];omega
  rw[e2,bsome,e3,bsome,e4,bsome,kP h hc (s:=⟨⟨r.s_.Pc.V,w⟩,r.s_.Code,r.s_.Mem,r.s_.Stack,r.s_.Out⟩) ⟨by show r.s_.Code.length<=1000;rw[k1];omega,by show r.s_.Mem.length<=1000;omega,by show r.s_.Stack.length<=1000;omega,k5⟩,bsome,gQ,bsome]
  cases hR:rightS (l.Up.length:Int) (⟨⟨r.s_.Pc.V,w⟩,r.s_.Code,r.s_.Mem,r.s_.Stack,r.s_.Out⟩:al) with
  |false=>exact⟨_,rfl,.inr (.inr rfl),fun p hp=>by cases hp;exact .inr rfl⟩
  |true=>exact⟨_,rfl,⟨rfl,hR,k1,k2,k3,k4⟩,fun p hp=>by cases hp⟩
theorem B_m{l:az} {U:List Nat}(h:Nm l U)(hc:chk l U=0){n:Int} {s:al}(z:RightS n s){R:List aW}(hF:Few R)(h13:R.length=13):∃r,dO.B l ⟨R⟩ s=some r/\Went (l.Up.length:Int) s r:=by
 cases way h hc z with
 |off _ e=>exact⟨_,e R,.inr (.inr rfl)⟩
 |no x hx _ e=>exact⟨_,e R,.inr (.inr rfl)⟩
 |halt x hx _ e=>exact⟨_,e R,.inl rfl⟩
 |go x m y hx h0 op cn hm e=>
  have eo:x.Op=((x.Op.toNat:Nat):Int):=by omega
  have hlt:x.Op.toNat<R.length:=by omega
  have hmem:=List.getElem_mem hlt
  obtain⟨r,e1,e2,_⟩:=K_m h hc z op cn hm (row:=R[x.Op.toNat]) (by have:=hF.may _ hmem;omega) (by have:=hF.res _ hmem;omega) (by have:=hF.pc _ hmem;omega)
  refine⟨r,?_,e2⟩
  rw[e R,eo,bo hlt,bsome];exact e1
end Go.Proofs.YtmjcpkmongafnaaGreatDoor.Ss
namespace Go.Proofs.YtmjcpkmongafnaaGreatDoor.Ss
open Go Go.Proofs.YtmjcpkmongafnaaGreatDoor.Ab Go.Proofs.YtmjcpkmongafnaaGreatDoor.TT
noncomputable def mayO(l:az)(U:List Nat)(R:List aW)(s:al):Int:=if chk l U=0 then (if (chT R).2=0 then (if rightS (l.Up.length:Int) s=true then 0 else 1) else (chT R).2) else chk l U
def nilS:al:=⟨⟨0,0⟩,[],[],[],[]⟩
theorem one_no{l:az} {U:List Nat}(h:Nm l U){R:List aW}(hF:Few R){s:al}(z:Sz s)(hm:mayO l U R s≠0):eT.f l ⟨R⟩ s=some (nilS,0,mayO l U R s):=by
 unfold mayO at hm⊢
 unfold eT.f
 rw[iT h,bsome]
 by_cases hc:chk l U=0
 ·rw[if_pos hc,if_pos hc,mW hF,bsome]
  by_cases hT:(chT R).2=0
  ·rw[if_pos hT,if_pos hT,kP h hc z,bsome]
   rw[if_pos hc,if_pos hT] at hm
   cases hr:rightS (l.Up.length:Int) s with
   |false=>rfl
   |true=>rw[hr] at hm;exact absurd rfl hm
  ·rw[if_neg hT,if_neg hT];rfl
 ·rw[if_neg hc,if_neg hc];rfl
theorem ja{l:az} {U:List Nat} {R:List aW} {s:al}(hm:mayO l U R s=0):chk l U=0/\(chT R).2=0/\rightS (l.Up.length:Int) s=true:=by
 unfold mayO at hm
 by_cases hc:chk l U=0
 ·rw[if_pos hc] at hm
  by_cases hT:(chT R).2=0
  ·rw[if_pos hT] at hm
   cases hr:rightS (l.Up.length:Int) s with
   |false=>rw[hr] at hm;cases hm
   |true=>exact⟨hc,hT,rfl⟩
  ·rw[if_neg hT] at hm;exact absurd hm hT
 ·rw[if_neg hc] at hm;exact absurd hm hc
theorem one_yes{l:az} {U:List Nat}(h:Nm l U){R:List aW}(hF:Few R){s:al}(z:Sz s)(hm:mayO l U R s=0){r:Pn⊕(al×Int)}(hb:dO.B l ⟨R⟩ s=some r):eT.f l ⟨R⟩ s=some ((finD s r).1,(finD s r).2,0):=by
 obtain⟨hc,hT,hr⟩:=ja hm
 unfold eT.f dO.f
 rw[iT h,bsome,if_pos hc,mW hF,bsome,if_pos hT,kP h hc z,bsome,hr,if_neg (by decide),hb,bsome,bsome]
structure Stays(n:Int)(s t:al)(q:Int):Prop where
 right:rightS n t=true
 code:t.Code=s.Code
 mem:t.Mem.length=s.Mem.length
 out:t.Out=s.Out\/∃x,t.Out=s.Out++[x]
 st:t.Stack.length<=s.Stack.length+1
 q:q=0\/(q=1\/q=2\/q=3)/\t=s
theorem stays{n:Int} {s:al}(hr:rightS n s=true){r:Pn⊕(al×Int)}(w:Went n s r):Stays n s (finD s r).1 (finD s r).2:=by
 cases r with
 |inl p=>
  rcases w with rfl|rfl|rfl
  ·exact⟨hr,rfl,rfl,.inl rfl,Nat.le_succ _,.inr ⟨.inl rfl,rfl⟩⟩
  ·exact⟨hr,rfl,rfl,.inl rfl,Nat.le_succ _,.inr ⟨.inr (.inl rfl),rfl⟩⟩
  ·exact⟨hr,rfl,rfl,.inl rfl,Nat.le_succ _,.inr ⟨.inr (.inr rfl),rfl⟩⟩
 |inr p=>
  obtain⟨t,q⟩:=p
  obtain⟨h0,h1,h2,h3,h4,h5⟩:=w
  exact⟨h1,h2,h3,h5,h4,.inl h0⟩
end Go.Proofs.YtmjcpkmongafnaaGreatDoor.Ss
namespace Go.Proofs.YtmjcpkmongafnaaGreatDoor.Ss
open Go Go.Proofs.YtmjcpkmongafnaaGreatDoor.Ab Go.Proofs.YtmjcpkmongafnaaGreatDoor.TT
theorem hZ{n:Nat} {a:Int}(h:labB (n:Int) a=true):inn n a=true:=by
 have:=of_decide_eq_true h
 unfold inn
 rw[decide_eq_true this.1,decide_eq_true this.2];rfl
structure Labs(n:Int)(s:al):Prop where
 pc:labB n s.Pc.L=true
 st:∀x∈s.Stack,labB n x.L=true
 me:∀x∈s.Mem,labB n x.L=true
theorem mu{n:Int} {s:al}(h:rightS n s=true):Labs n s:=by
 unfold rightS at h
 simp only[Bool.and_eq_true] at h
 obtain⟨⟨⟨⟨⟨⟨h1,h2⟩,h3⟩,⟨h4,h5⟩,h6⟩,h7⟩,h8⟩,h9⟩:=h
 refine⟨h3,fun x hx=>?_,fun x hx=>?_⟩
 ·have:=List.all_eq_true.1 h8 x hx
  unfold okS at this
  rw[Bool.and_eq_true] at this
  exact this.1
 ·have:=List.all_eq_true.1 h7 x hx
  unfold okA at this
  rw[Bool.and_eq_true] at this
  exact this.2
theorem ins_l{n:Int} {x:aI}(h:insB n x=true)(h1:x.Op=1):labB n x.L=true:=by
 unfold insB at h
 rw[if_pos h1] at h
 have:=of_decide_eq_true h
 unfold labB
 exact decide_eq_true ⟨this.2.2.1,this.2.2.2⟩
end Go.Proofs.YtmjcpkmongafnaaGreatDoor.Ss
namespace Go.Proofs.YtmjcpkmongafnaaGreatDoor.Ss
open Go Go.Proofs.YtmjcpkmongafnaaGreatDoor.Ab Go.Proofs.YtmjcpkmongafnaaGreatDoor.TT
def N0:aM:=⟨false,⟨false,0,0⟩,⟨false,0,0⟩,⟨false,0,0⟩,0,0,0,0⟩
theorem ins_n{n:Int} {x:aI}(h:insB n x=true):(x.Op=7->x.N=0)/\(x.Op=10->0<=x.N/\x.N<=1):=by
 unfold insB at h
 by_cases c1:x.Op=1
 ·exact⟨fun w=>by omega,fun w=>by omega⟩
 ·rw[if_neg c1] at h
  obtain⟨a,b,_,d⟩:=of_decide_eq_true h
  refine⟨fun w=>?_,fun w=>?_⟩
  ·rw[if_neg (by omega),if_neg (by omega),if_neg (by omega)] at d
   exact d
  ·rw[if_neg (by omega),if_neg (by omega),if_pos w] at d
   exact d
theorem atom_r{s:al}(hn:s.Stack.length<=1000){d:Nat}(hd:d<=1000):fa.f s (d:Int)=some (okT s.Stack d):=by
 unfold fa.f okT
 have e1:IntKind.i64.wrap ((s.Stack.length:Int)-1)=(s.Stack.length:Int)-1:=wrapZ (by omega) (by omega)
 have e2:IntKind.i64.wrap ((s.Stack.length:Int)-1-(d:Int))=(s.Stack.length:Int)-1-(d:Int):=wrapZ (by omega) (by omega)
 rw[e1,e2]
 by_cases h:d<s.Stack.length
 ·have e3:(s.Stack.length:Int)-1-(d:Int)=((s.Stack.length-1-d:Nat):Int):=by omega
  rw[if_pos (by omega),e3,bo (by omega),bsome,bsome,sl_at h,decide_eq_true h]
  cases hr:s.Stack[s.Stack.length-1-d].Ret<;>rfl
 ·rw[if_neg (by omega),bsome,decide_eq_false h];rfl
def takeB(S:List aF):Nat->Nat->Bool
 |_,0=>true
 |i,k+1=>okT S i&&takeB S (i+1) k
theorem l0_r{s:al} {x:aI} {k:Nat}(ht:ci.f x=some (k:Int))(hn:s.Stack.length<=1000)(hk:k<=900):∀d i:Nat,k=i+d->bH.l0 s x (i:Int)=some (if takeB s.Stack i d=true then .inr () else .inl N0)
 |0,i,e=>by
  rw[bH.l0,ht,bsome,if_neg (by omega)];rfl
 |d+1,i,e=>by
  rw[bH.l0,ht,bsome,if_pos (by omega),atom_r hn (by omega),bsome]
  unfold takeB
  cases h0:okT s.Stack i with
  |false=>rfl
  |true=>
   rw[Bool.true_and]
   show bH.l0 s x (IntKind.i64.wrap ((i:Int)+1))=_
   rw[wS (by omega)]
   exact l0_r ht hn hk d (i+1) (by omega)
theorem l4_r{s:al} {x:aI}(hn:s.Stack.length<=1000):∀d i:Nat,x.N=((i+d:Nat):Int)->i+d<=900->bH.l4 s x (i:Int)=some (if callB s.Stack i d=true then .inr () else .inl N0)
 |0,i,e,hb=>by
  rw[bH.l4,if_neg (by omega)];rfl
 |d+1,i,e,hb=>by
  have e1:IntKind.i64.wrap (1+(i:Int))=((1+i:Nat):Int):=by rw[wrapZ (by omega) (by omega)];omega
  rw[bH.l4,if_pos (by omega),e1,atom_r hn (by omega),bsome]
  unfold callB
  cases h0:okT s.Stack (1+i) with
  |false=>rfl
  |true=>
   rw[Bool.true_and]
   show bH.l4 s x (IntKind.i64.wrap ((i:Int)+1))=_
   rw[wS (by omega)]
   exact l4_r hn d (i+1) (by omega) (by omega)
theorem nJ{s:al}(hn:s.Stack.length<=1000):∀k,k<=s.Stack.length->di.l0 s ((k:Int)-1)=some (if 0<frU s.Stack k then .inl ((frU s.Stack k:Int)-1) else .inr ())
 |0,_=>by
  rw[di.l0,if_neg (by omega)];rfl
 |k+1,h=>by
  have e:((k+1:Nat):Int)-1=(k:Int):=by omega
  rw[e,di.l0,if_pos (by omega),bo (by omega),bsome]
  unfold frU
  rw[getD_is (by omega)]
  cases hr:s.Stack[k].Ret with
  |true=>rw[if_pos rfl,if_pos rfl,if_pos (by omega),e]
  |false=>
   rw[if_neg ff,if_neg ff,wrapZ (by omega) (by omega)]
   exact nJ hn k (by omega)
theorem frame_r{s:al}(hn:s.Stack.length<=1000){k:Nat}(hk:k<=s.Stack.length):di.f s (k:Int)=some ((frU s.Stack k:Int)-1):=by
 unfold di.f
 rw[wrapZ (by omega) (by omega),nJ hn k hk,bsome]
 by_cases h:0<frU s.Stack k
 ·rw[if_pos h]
 ·rw[if_neg h]
  have:frU s.Stack k=0:=by omega
  rw[this];rfl
theorem top_at{S:List aF}(hn:S.length<=1000)(h:0<S.length):lAt S (IntKind.i64.wrap ((S.length:Int)-1))=some (sl S 0):=by
 have e:IntKind.i64.wrap ((S.length:Int)-1)=((S.length-1-0:Nat):Int):=by rw[wrapZ (by omega) (by omega)];omega
 rw[e,bo (by omega),sl_at h]
theorem snd_at{S:List aF}(hn:S.length<=1000)(h:1<S.length):lAt S (IntKind.i64.wrap ((S.length:Int)-2))=some (sl S 1):=by
 have e:IntKind.i64.wrap ((S.length:Int)-2)=((S.length-1-1:Nat):Int):=by rw[wrapZ (by omega) (by omega)];omega
 rw[e,bo (by omega),sl_at h]
def zS:aF:=⟨false,0,0⟩
def nX(S:List aF)(k:Nat)(y:Int):aM:=⟨false,if 0<k then sl S 0 else zS,if 1<k then sl S 1 else zS,zS,if 0<k then (sl S 0).L else y,if 1<k then (sl S 1).L else y,y,(S.length:Int)-(k:Int)⟩
def needsT(a1:al)(y1:aI)(x27:aM):Option aM:=
 ((((if y1.Op=1 then (some (.inr (⟨true,x27.A,x27.B,x27.R,y1.L,x27.Two,x27.Three,x27.Below⟩:aM))) else (((if y1.Op=5 then (some (decide (y1.Op=5))) else (some (decide (y1.Op=6))):Option Bool)>>=fun x138=>if x138=true then (((if x27.A.V<0 then (some true) else (some (decide (x27.A.V>=(a1.Mem.length:Int)))):Option Bool)>>=fun x142=>if x142=true then (some (.inl (⟨false,⟨false,0,0⟩,⟨false,0,0⟩,⟨false,0,0⟩,0,0,0,0⟩:aM))) else (if y1.Op=5 then (lAt a1.Mem x27.A.V>>=fun y146=>some (.inr (⟨true,x27.A,x27.B,x27.R,x27.One,y146.L,x27.Three,x27.Below⟩:aM))) else (lAt a1.Mem x27.A.V>>=fun y147=>some (.inr (⟨true,x27.A,x27.B,x27.R,x27.One,x27.Two,y147.L,x27.Below⟩:aM)))))) else (((if y1.Op=7 then (some (decide (y1.Op=7))) else (some (decide (y1.Op=9))):Option Bool)>>=fun x149=>if x149=true then (((if x27.A.V<0 then (some true) else (some (decide (x27.A.V>12))):Option Bool)>>=fun x153=>if x153=true then (some (.inl (⟨false,⟨false,0,0⟩,⟨false,0,0⟩,⟨false,0,0⟩,0,0,0,0⟩:aM))) else ((bH.l4 a1 y1 0>>=fun o=>match o with|.inl r=>some (.inl r)|.inr ()=>some (.inr (⟨true,x27.A,x27.B,x27.R,x27.One,x27.Two,x27.Three,x27.Below⟩:aM)))))) else (if y1.Op=10 then (di.f a1 x27.Below>>=fun y167=>if y167<0 then (some (.inl (⟨false,⟨false,0,0⟩,⟨false,0,0⟩,⟨false,0,0⟩,0,0,0,0⟩:aM))) else (lAt a1.Stack y167>>=fun y169=>some (.inr (⟨true,x27.A,x27.B,y169,x27.One,y169.L,x27.Three,y167⟩:aM)))) else (some (.inr (⟨true,x27.A,x27.B,x27.R,x27.One,x27.Two,x27.Three,x27.Below⟩:aM)))))))):Option (aM⊕aM))>>=fun o=>match o with|.inl r=>some (.inl r)|.inr x135=>some (.inr x135)):Option (aM⊕aM))>>=fun o=>match o with|.inl r=>some r|.inr x100=>some x100)
theorem lv{l:az} {s:al} {x:aI} {y:Int} {k:Nat}(hx:lAt s.Code s.Pc.V=some x)(hb:bU.f l=some y)(ht:ci.f x=some (k:Int))(hk:k<=2)(hn:s.Stack.length<=1000):
  bH.f l s=(if takeB s.Stack 0 k=true then needsT s x (nX s.Stack k y) else some N0):=by
 unfold bH.f
 have h0:=l0_r (s:=s) ht hn (by omega) k 0 (by omega)
 rw[show ((0:Nat):Int)=0 from rfl] at h0
 have ew:IntKind.i64.wrap ((s.Stack.length:Int)-(k:Int))=(s.Stack.length:Int)-(k:Int):=wrapZ (by omega) (by omega)
 rw[hx,bsome,hb,bsome,ht,bsome,h0,bsome,ew]
 cases hB:takeB s.Stack 0 k with
 |false=>rw[if_neg ff,if_neg ff]
 |true=>
  rw[if_pos rfl,if_pos rfl]
  match k,hk with
  |0,_=>rfl
  |1,_=>
   have h1:0<s.Stack.length:=by
    unfold takeB at hB
    rw[Bool.and_eq_true] at hB
    exact okT_lt hB.1
   rw[bsome,if_pos (show ((1:Nat):Int)>0 by decide),top_at hn h1];rfl
  |2,_=>
   have h1:1<s.Stack.length:=by
    unfold takeB at hB
    rw[Bool.and_eq_true] at hB
    have h2:=hB.2
    unfold takeB at h2
    rw[Bool.and_eq_true] at h2
    exact okT_lt h2.1
   rw[bsome,if_pos (show ((2:Nat):Int)>0 by decide),top_at hn (by omega),bsome,bsome,bsome,if_pos (show ((2:Nat):Int)>1 by decide),snd_at hn h1];rfl
end Go.Proofs.YtmjcpkmongafnaaGreatDoor.Ss
namespace Go.Proofs.YtmjcpkmongafnaaGreatDoor.Ss
open Go Go.Proofs.YtmjcpkmongafnaaGreatDoor.Ab Go.Proofs.YtmjcpkmongafnaaGreatDoor.TT
def mOf(l:az)(s:al)(x:aI)(n:aM):aE:=⟨l,s,x,n.A,n.B,n.R,n.Below,⟨n.One,n.Two,n.Three⟩⟩
def Two(l:az)(s:al)(x:aI)(p:Option (Pn⊕aE))(q:Option aM):Prop:=
 ∃n,q=some n/\p=some (if n.Is=true then .inr (mOf l s x n) else .inl 3)
theorem il{l:az} {s:al} {x:aI} {c:Prop}[Decidable c]{e:Option (Pn⊕aE)} {m:aE} {n:aM}(h:e=some (if c then .inr m else .inl 3))(hn:n.Is=true)(hm:mOf l s x n=m):Two l s x (e>>=fun z=>match z with|.inl p=>some (.inl p)|.inr y=>some (.inr y)) (if c then some n else some N0):=by
 rw[h,bsome]
 by_cases q:c
 ·rw[if_pos q,if_pos q]
  exact⟨n,rfl,by rw[if_pos hn,hm]⟩
 ·rw[if_neg q,if_neg q]
  exact⟨N0,rfl,rfl⟩
section
variable{l:az} {s:al} {x:aI} {y:Int}(hx:lAt s.Code s.Pc.V=some x)(hb:bU.f l=some y)(hn:s.Stack.length<=1000)
include hx hb hn
theorem tk0(h:ci.f x=some 0):bH.f l s=needsT s x (nX s.Stack 0 y):=by
 rw[lv hx hb (k:=0) h (by omega) hn];rfl
theorem tk1(h:ci.f x=some 1):bH.f l s=if okT s.Stack 0=true then needsT s x (nX s.Stack 1 y) else some N0:=by
 rw[lv hx hb (k:=1) h (by omega) hn]
 unfold takeB takeB
 rw[Bool.and_true]
theorem tk2(h:ci.f x=some 2):bH.f l s=if okT s.Stack 0=true/\okT s.Stack 1=true then needsT s x (nX s.Stack 2 y) else some N0:=by
 rw[lv hx hb (k:=2) h (by omega) hn]
 unfold takeB takeB takeB
 rw[Bool.and_true]
 cases okT s.Stack 0<;>cases okT s.Stack 1<;>rfl
end
theorem gC{x:aI} {c k:Int}(h:x.Op=c)(h10:c≠10)(hl:lAt ([0,0,1,2,2,1,2,1,1,1,0,1,0]:List Int) c=some k):ci.f x=some k:=by
 unfold ci.f
 rw[h,if_neg h10,hl,bsome]
theorem bad_mem{m:List aG} {v:Int}:((if v<0 then (some true) else (some (decide (v>=(m.length:Int)))):Option Bool))=some (!decide (0<=v/\v<(m.length:Int))):=by
 by_cases h:v<0
 ·rw[if_pos h,decide_eq_false (by omega)];rfl
 ·rw[if_neg h]
  by_cases q:v>=(m.length:Int)
  ·rw[decide_eq_true q,decide_eq_false (by omega)];rfl
  ·rw[decide_eq_false q,decide_eq_true (by omega)];rfl
theorem bad_pla{v:Int}:((if v<0 then (some true) else (some (decide (v>12))):Option Bool))=some (!plaB v):=by
 unfold plaB
 by_cases h:v<0
 ·rw[if_pos h,decide_eq_false (by omega)];rfl
 ·rw[if_neg h]
  by_cases q:v>12
  ·rw[decide_eq_true q,decide_eq_false (by omega)];rfl
  ·rw[decide_eq_false q,decide_eq_true (by omega)];rfl
section
variable{s:al} {x:aI} {n:aM}
theorem nt_el(h1:x.Op≠1)(h5:x.Op≠5)(h6:x.Op≠6)(h7:x.Op≠7)(h9:x.Op≠9)(h10:x.Op≠10):needsT s x n=some ⟨true,n.A,n.B,n.R,n.One,n.Two,n.Three,n.Below⟩:=by
 unfold needsT
 rw[if_neg h1,if_neg h5,decide_eq_false h6,bsome,if_neg ff,if_neg h7,decide_eq_false h9,bsome,if_neg ff,if_neg h10];rfl
theorem nt_1(h1:x.Op=1):needsT s x n=some ⟨true,n.A,n.B,n.R,x.L,n.Two,n.Three,n.Below⟩:=by
 unfold needsT
 rw[if_pos h1];rfl
theorem nt_5(h:x.Op=5):needsT s x n=if 0<=n.A.V/\n.A.V<(s.Mem.length:Int) then some ⟨true,n.A,n.B,n.R,n.One,(mm s n.A.V).L,n.Three,n.Below⟩ else some N0:=by
 unfold needsT
 rw[if_neg (show ¬x.Op=1 by omega),if_pos h,decide_eq_true h,bsome,if_pos rfl,bad_mem,bsome]
 by_cases q:0<=n.A.V/\n.A.V<(s.Mem.length:Int)
 ·rw[decide_eq_true q,if_neg (show ¬(!true)=true by decide),if_pos q,if_pos h,mm_at q.1 q.2];rfl
 ·rw[decide_eq_false q,if_pos (show (!false)=true by decide),if_neg q];rfl
theorem nt_6(h:x.Op=6):needsT s x n=if 0<=n.A.V/\n.A.V<(s.Mem.length:Int) then some ⟨true,n.A,n.B,n.R,n.One,n.Two,(mm s n.A.V).L,n.Below⟩ else some N0:=by
 unfold needsT
 rw[if_neg (show ¬x.Op=1 by omega),if_neg (show ¬x.Op=5 by omega),decide_eq_true h,bsome,if_pos rfl,bad_mem,bsome]
 by_cases q:0<=n.A.V/\n.A.V<(s.Mem.length:Int)
 ·rw[decide_eq_true q,if_neg (show ¬(!true)=true by decide),if_pos q,if_neg (show ¬x.Op=5 by omega),mm_at q.1 q.2];rfl
 ·rw[decide_eq_false q,if_pos (show (!false)=true by decide),if_neg q];rfl
theorem nt_79(hn:s.Stack.length<=1000){k:Nat}(hk:x.N=(k:Int))(hb:k<=900)(h:x.Op=7\/x.Op=9):needsT s x n=if plaB n.A.V=true/\callB s.Stack 0 k=true then some ⟨true,n.A,n.B,n.R,n.One,n.Two,n.Three,n.Below⟩ else some N0:=by
 unfold needsT
 have e:((if x.Op=7 then (some (decide (x.Op=7))) else (some (decide (x.Op=9))):Option Bool))=some true:=by
  rcases h with h|h
  ·rw[if_pos h,decide_eq_true h]
  ·rw[if_neg (by omega),decide_eq_true h]
 have q4:=l4_r (s:=s) (x:=x) hn k 0 (by rw[Nat.zero_add];exact hk) (by omega)
 rw[show ((0:Nat):Int)=0 from rfl] at q4
 rw[if_neg (show ¬x.Op=1 by omega),if_neg (show ¬x.Op=5 by omega),decide_eq_false (show ¬x.Op=6 by omega),bsome,if_neg ff,e,bsome,if_pos rfl,bad_pla,bsome,q4,bsome]
 cases plaB n.A.V with
 |false=>rfl
 |true=>cases callB s.Stack 0 k<;>rfl
theorem nt_10(hn:s.Stack.length<=1000){k:Nat}(hk:n.Below=(k:Int))(hb:k<=s.Stack.length)(h:x.Op=10):needsT s x n=if 0<frU s.Stack k then some ⟨true,n.A,n.B,s.Stack.getD (frU s.Stack k-1) ⟨true,0,0⟩,n.One,(s.Stack.getD (frU s.Stack k-1) ⟨true,0,0⟩).L,n.Three,(frU s.Stack k:Int)-1⟩ else some N0:=by
 unfold needsT
 have hf:=frU_le s.Stack k
 rw[if_neg (show ¬x.Op=1 by omega),if_neg (show ¬x.Op=5 by omega),decide_eq_false (show ¬x.Op=6 by omega),bsome,if_neg ff,if_neg (show ¬x.Op=7 by omega),decide_eq_false (show ¬x.Op=9 by omega),bsome,if_neg ff,if_pos h,hk,frame_r hn hb,bsome]
 by_cases q:0<frU s.Stack k
 ·have e:(frU s.Stack k:Int)-1=((frU s.Stack k-1:Nat):Int):=by omega
  rw[if_neg (show ¬(frU s.Stack k:Int)-1<0 by omega),if_pos q,e,bo (show frU s.Stack k-1<s.Stack.length by omega),bsome,getD_is (show frU s.Stack k-1<s.Stack.length by omega)];rfl
 ·rw[if_pos (show (frU s.Stack k:Int)-1<0 by omega),if_neg q];rfl
end
end Go.Proofs.YtmjcpkmongafnaaGreatDoor.Ss
namespace Go.Proofs.YtmjcpkmongafnaaGreatDoor.Ss
open Go Go.Proofs.YtmjcpkmongafnaaGreatDoor.Ab Go.Proofs.YtmjcpkmongafnaaGreatDoor.TT
theorem nX0{S:List aF} {y:Int}:nX S 0 y=⟨false,zS,zS,zS,y,y,y,(S.length:Int)⟩:=by
 unfold nX
 rw[if_neg (by decide),if_neg (by decide),if_neg (by decide),if_neg (by decide),show ((0:Nat):Int)=0 from rfl,Int.sub_zero]
theorem nX1{S:List aF} {y:Int}:nX S 1 y=⟨false,sl S 0,zS,zS,(sl S 0).L,y,y,(S.length:Int)-1⟩:=rfl
theorem nX2{S:List aF} {y:Int}:nX S 2 y=⟨false,sl S 0,sl S 1,zS,(sl S 0).L,(sl S 1).L,y,(S.length:Int)-2⟩:=rfl
theorem kQ{α:Type} {a b c:Prop}[Decidable a][Decidable b][Decidable c](h:c↔a/\b){X Y:α}:(if a then (if b then X else Y) else Y)=if c then X else Y:=by
 by_cases ha:a
 ·by_cases hb:b
  ·rw[if_pos ha,if_pos hb,if_pos (h.2 ⟨ha,hb⟩)]
  ·rw[if_pos ha,if_neg hb,if_neg (fun q=>hb (h.1 q).2)]
 ·rw[if_neg ha,if_neg (fun q=>ha (h.1 q).1)]
section
variable{l:az} {s:al} {x:aI} {y:Int}(hx:lAt s.Code s.Pc.V=some x)(hb:bU.f l=some y)(hn:s.Stack.length<=1000)
include hx hb hn
theorem needs_two(op:0<=x.Op/\x.Op<=12)(n7:x.Op=7->x.N=0)(n9:x.Op=9->0<=x.N/\x.N<=3)(n10:x.Op=10->0<=x.N/\x.N<=1):Two l s x (b9.f (mach l s x y)) (bH.f l s):=by
 have hn':(topM (mach l s x y)).s_.Stack.length<=1000:=hn
 unfold b9.f
 show Two l s x (if x.Op=0 then _ else (if x.Op=12 then _ else (if x.Op=1 then _ else (if x.Op=2 then _ else (if x.Op=11 then _ else (if x.Op=3 then _ else (if x.Op=4 then _ else (if x.Op=5 then _ else (if x.Op=6 then _ else (if x.Op=7 then _ else (if x.Op=8 then _ else (if x.Op=9 then _ else (if x.Op=10 then _ else _))))))))))))) _
 by_cases c0:x.Op=0
 ·rw[if_pos c0,tk0 hx hb hn (gC (c:=0) c0 (by decide) rfl),nt_el (by omega) (by omega) (by omega) (by omega) (by omega) (by omega),nX0]
  exact⟨_,rfl,rfl⟩
 rw[if_neg c0]
 by_cases c12:x.Op=12
 ·rw[if_pos c12,tk0 hx hb hn (gC (c:=12) c12 (by decide) rfl),nt_el (by omega) (by omega) (by omega) (by omega) (by omega) (by omega),nX0]
  exact⟨_,rfl,rfl⟩
 rw[if_neg c12]
 by_cases c1:x.Op=1
 ·rw[if_pos c1,tk0 hx hb hn (gC (c:=1) c1 (by decide) rfl),nt_1 c1,nX0]
  exact⟨_,rfl,rfl⟩
 rw[if_neg c1]
 by_cases c2:x.Op=2
 ·rw[if_pos c2,tk1 hx hb hn (gC (c:=2) c2 (by decide) rfl),nt_el (by omega) (by omega) (by omega) (by omega) (by omega) (by omega),nX1]
  exact il (gZ hn') rfl rfl
 rw[if_neg c2]
 by_cases c11:x.Op=11
 ·rw[if_pos c11,tk1 hx hb hn (gC (c:=11) c11 (by decide) rfl),nt_el (by omega) (by omega) (by omega) (by omega) (by omega) (by omega),nX1]
  exact il (gZ hn') rfl rfl
 rw[if_neg c11]
 by_cases c3:x.Op=3
 ·rw[if_pos c3,tk2 hx hb hn (gC (c:=3) c3 (by decide) rfl),nt_el (by omega) (by omega) (by omega) (by omega) (by omega) (by omega),nX2]
  exact il (kE hn') rfl rfl
 rw[if_neg c3]
 by_cases c4:x.Op=4
 ·rw[if_pos c4,tk2 hx hb hn (gC (c:=4) c4 (by decide) rfl),nt_el (by omega) (by omega) (by omega) (by omega) (by omega) (by omega),nX2]
  exact il (kE hn') rfl rfl
 rw[if_neg c4]
 have hC:okC (firstM (topM (mach l s x y)))=decide (0<=(sl s.Stack 0).V/\(sl s.Stack 0).V<(s.Mem.length:Int)):=rfl
 by_cases c5:x.Op=5
 ·rw[if_pos c5,tk1 hx hb hn (gC (c:=5) c5 (by decide) rfl),nt_5 c5,nX1]
  rw[kQ (c:=okT (topM (mach l s x y)).s_.Stack 0=true/\okC (firstM (topM (mach l s x y)))=true) (by rw[hC,decide_eq_true_iff];exact Iff.rfl)]
  exact il (loads_m hn') rfl rfl
 rw[if_neg c5]
 by_cases c6:x.Op=6
 ·rw[if_pos c6,tk2 hx hb hn (gC (c:=6) c6 (by decide) rfl),nt_6 c6,nX2]
  rw[kQ (c:=(okT (topM (mach l s x y)).s_.Stack 0=true/\okT (topM (mach l s x y)).s_.Stack 1=true)/\okC (firstM (topM (mach l s x y)))=true) (by rw[hC,decide_eq_true_iff];exact Iff.rfl)]
  exact il (nG hn') rfl rfl
 rw[if_neg c6]
 by_cases c7:x.Op=7
 ·rw[if_pos c7,tk1 hx hb hn (gC (c:=7) c7 (by decide) rfl),nt_79 hn (k:=0) (n7 c7) (by omega) (.inl c7),nX1]
  rw[kQ (c:=okT (topM (mach l s x y)).s_.Stack 0=true/\plaB (sl (topM (mach l s x y)).s_.Stack 0).V=true) (by exact⟨fun q=>⟨q.1,q.2,rfl⟩,fun q=>⟨q.1,q.2.1⟩⟩)]
  exact il (goes_m hn') rfl rfl
 rw[if_neg c7]
 by_cases c8:x.Op=8
 ·rw[if_pos c8,tk1 hx hb hn (gC (c:=8) c8 (by decide) rfl),nt_el (by omega) (by omega) (by omega) (by omega) (by omega) (by omega),nX1]
  exact il (gZ hn') rfl rfl
 rw[if_neg c8]
 by_cases c9:x.Op=9
 ·obtain⟨q0,q3⟩:=n9 c9
  have e:x.N=((x.N.toNat:Nat):Int):=by omega
  rw[if_pos c9,tk1 hx hb hn (gC (c:=9) c9 (by decide) rfl),nt_79 hn e (by omega) (.inr c9),nX1]
  rw[kQ (c:=(okT (topM (mach l s x y)).s_.Stack 0=true/\plaB (sl (topM (mach l s x y)).s_.Stack 0).V=true)/\callB (topM (mach l s x y)).s_.Stack 0 x.N.toNat=true) (by exact⟨fun q=>⟨q.1.1,q.1.2,q.2⟩,fun q=>⟨⟨q.1,q.2.1⟩,q.2.2⟩⟩)]
  exact il (calls_m (m:=topM (mach l s x y)) hn' e (by omega)) rfl rfl
 rw[if_neg c9]
 have c10:x.Op=10:=by omega
 rw[if_pos c10]
 have r:=mP (m:=topM (mach l s x y)) hn'
 have ht:ci.f x=some x.N:=by unfold ci.f;rw[if_pos c10]
 obtain⟨q0,q1⟩:=n10 c10
 by_cases cN:x.N=1
 ·rw[if_pos (show (topM (mach l s x y)).x_.N=1 from cN)] at r
  rw[tk1 hx hb hn (by rw[ht,cN])]
  cases h0:okT s.Stack 0 with
  |false=>
   rw[if_neg ff]
   refine⟨N0,rfl,?_⟩
   have r':aY.f (topM (mach l s x y))=some (.inl 3):=by
    rw[r,if_neg (fun q=>by have q1:okT s.Stack 0=true:=q.1;rw[h0] at q1;cases q1)]
   show (aY.f (topM (mach l s x y))>>=_)=_
   rw[r'];rfl
  |true=>
   have hp:=okT_lt h0
   rw[if_pos rfl,nX1,nt_10 (n:=⟨false,sl s.Stack 0,zS,zS,(sl s.Stack 0).L,y,y,(s.Stack.length:Int)-1⟩) hn (k:=s.Stack.length-1) (by show (s.Stack.length:Int)-1=_;omega) (by omega) c10]
   have r':aY.f (topM (mach l s x y))=some (if 0<frU s.Stack (s.Stack.length-1) then .inr (retM (firstM (topM (mach l s x y))) (frU s.Stack (s.Stack.length-1))) else .inl 3):=by
    rw[r]
    congr 1
    have e1:(okT (topM (mach l s x y)).s_.Stack 0=true/\0<frU (topM (mach l s x y)).s_.Stack ((topM (mach l s x y)).s_.Stack.length-1))↔0<frU s.Stack (s.Stack.length-1):=⟨fun q=>q.2,fun q=>⟨h0,q⟩⟩
    by_cases q:0<frU s.Stack (s.Stack.length-1)
    ·rw[if_pos (e1.2 q),if_pos q];rfl
    ·rw[if_neg (fun w=>q (e1.1 w)),if_neg q]
   exact il r' rfl rfl
 ·have c00:x.N=0:=by omega
  rw[if_neg (show ¬(topM (mach l s x y)).x_.N=1 from cN)] at r
  rw[tk0 hx hb hn (by rw[ht,c00]),nX0,nt_10 (n:=⟨false,zS,zS,zS,y,y,y,(s.Stack.length:Int)⟩) hn (k:=s.Stack.length) rfl (Nat.le_refl _) c10]
  exact il r rfl rfl
end
end Go.Proofs.YtmjcpkmongafnaaGreatDoor.Ss
namespace Go.Proofs.YtmjcpkmongafnaaGreatDoor.Ss
open Go Go.Proofs.YtmjcpkmongafnaaGreatDoor.Ab Go.Proofs.YtmjcpkmongafnaaGreatDoor.TT
def memS(s:al)(x:aI)(n:aM)(v:Int):List aG:=if x.Op=6 then s.Mem.set n.A.V.toNat ⟨n.B.V,v⟩ else s.Mem
def restS(s:al)(n:aM):List aF:=lCut s.Stack 0 n.Below
def stackS(s:al)(x:aI)(n:aM)(v:Int):List aF:=
 if x.Op=1 then restS s n++[⟨false,x.N,v⟩] else if x.Op=3 then restS s n++[⟨false,IntKind.i64.wrap (n.B.V+n.A.V),v⟩] else if x.Op=4 then restS s n++[⟨false,IntKind.i64.wrap (n.B.V-n.A.V),v⟩] else if x.Op=5 then restS s n++[⟨false,(mm s n.A.V).V,v⟩]
 else if x.Op=9 then lCut s.Stack 0 (n.Below-x.N)++[⟨true,IntKind.i64.wrap (s.Pc.V+1),s.Pc.L⟩]++lCut s.Stack (n.Below-x.N) n.Below else if x.Op=10 then (if x.N=1 then restS s n++[⟨false,n.A.V,v⟩] else restS s n) else restS s n
def nextS(s:al)(x:aI)(n:aM):Int:=if x.Op=7\/x.Op=9 then n.A.V else if x.Op=10 then n.R.V else if x.Op=8/\n.A.V≠0 then x.N else IntKind.i64.wrap (s.Pc.V+1)
def outS(s:al)(x:aI)(n:aM)(v:Int):List aG:=if x.Op=11 then s.Out++[⟨n.A.V,v⟩] else s.Out
theorem bind_x{e:Option (aE×Int)} {m:aE} {p:Int}(h:e=some (m,p)):(e>>=fun o=>match o with|(x28,x29)=>some (⟨x28.l_,⟨⟨x29,x28.s_.Pc.L⟩,x28.s_.Code,x28.s_.Mem,x28.s_.Stack,x28.s_.Out⟩,x28.x_,x28.a_,x28.b_,x28.r_,x28.below_,x28.one_⟩:aE))=some ⟨m.l_,⟨⟨p,m.s_.Pc.L⟩,m.s_.Code,m.s_.Mem,m.s_.Stack,m.s_.Out⟩,m.x_,m.a_,m.b_,m.r_,m.below_,m.one_⟩:=by
 rw[h];rfl
def stS(s:al)(x:aI)(n:aM)(v:Int):al:=⟨⟨nextS s x n,s.Pc.L⟩,s.Code,memS s x n v,stackS s x n v,outS s x n v⟩
theorem does_x{l:az} {s:al} {x:aI} {n:aM}(hn:s.Stack.length<=900)(hm:s.Mem.length<=900)(ho:s.Out.length<=900)(lo:0<=n.Below)(hi:n.Below<=(s.Stack.length:Int))(c:x.Op=5\/x.Op=6->0<=n.A.V/\n.A.V<(s.Mem.length:Int))(g:x.Op=9->0<=x.N/\x.N<=n.Below)(v:Int):
  ∃r,eC.f (mOf l s x n) v=some r/\r.s_=stS s x n v:=by
 have hc:=ka (xs:=s.Stack) (b:=n.Below)
 have hB:100000<=big:=by decide
 have hput:∀(z:Int),cA.f (⟨l,⟨s.Pc,s.Code,s.Mem,lCut s.Stack 0 n.Below,s.Out⟩,x,n.A,n.B,n.R,n.Below,⟨n.One,n.Two,n.Three⟩⟩:aE) z v=some ⟨l,⟨s.Pc,s.Code,s.Mem,lCut s.Stack 0 n.Below++[⟨false,z,v⟩],s.Out⟩,x,n.A,n.B,n.R,n.Below,⟨n.One,n.Two,n.Three⟩⟩:=fun z=>put_m (show (lCut s.Stack 0 n.Below).length<=1000 by omega) z v
 unfold eC.f
 show∃r,(if (0:Int)<=n.Below/\n.Below<=(s.Stack.length:Int) then (bW.f (lCut s.Stack 0 n.Below)>>=_) else _)=some r/\_
 rw[if_pos ⟨lo,hi⟩,clone_s (by omega),bsome]
 have fin:∀(e:Option (aE×Int)) (m:aE) (p:Int),e=some (m,p)->(⟨⟨p,m.s_.Pc.L⟩,m.s_.Code,m.s_.Mem,m.s_.Stack,m.s_.Out⟩:al)=stS s x n v->∃r,(e>>=fun o=>match o with|(x28,x29)=>some (⟨x28.l_,⟨⟨x29,x28.s_.Pc.L⟩,x28.s_.Code,x28.s_.Mem,x28.s_.Stack,x28.s_.Out⟩,x28.x_,x28.a_,x28.b_,x28.r_,x28.below_,x28.one_⟩:aE))=some r/\r.s_=stS s x n v:=fun e m p h1 h2=>⟨_,bind_x h1,h2⟩
 refine fin _ ⟨l,⟨s.Pc,s.Code,memS s x n v,stackS s x n v,outS s x n v⟩,x,n.A,n.B,n.R,n.Below,⟨n.One,n.Two,n.Three⟩⟩ (nextS s x n) ?_ rfl
 show (if x.Op=1 then _ else if x.Op=3 then _ else if x.Op=4 then _ else if x.Op=5 then _ else if x.Op=6 then _ else if x.Op=11 then _ else if x.Op=7 then _ else if x.Op=8 then _ else if x.Op=9 then _ else if x.Op=10 then _ else _)=_
 have nx:x.Op≠7->x.Op≠9->x.Op≠10->x.Op≠8->nextS s x n=IntKind.i64.wrap (s.Pc.V+1):=fun a b c d=>by
  unfold nextS
  rw[if_neg (fun w=>by omega),if_neg c,if_neg (fun w=>d w.1)]
 have mx:x.Op≠6->memS s x n v=s.Mem:=fun a=>by unfold memS;rw[if_neg a]
 have ox:x.Op≠11->outS s x n v=s.Out:=fun a=>by unfold outS;rw[if_neg a]
 have sx:x.Op≠1->x.Op≠3->x.Op≠4->x.Op≠5->x.Op≠9->x.Op≠10->stackS s x n v=lCut s.Stack 0 n.Below:=fun a b c d e f=>by
  unfold stackS
  rw[if_neg a,if_neg b,if_neg c,if_neg d,if_neg e,if_neg f];rfl
 by_cases c1:x.Op=1
 ·rw[if_pos c1,nx (by omega) (by omega) (by omega) (by omega),mx (by omega),ox (by omega)]
  have hs:stackS s x n v=lCut s.Stack 0 n.Below++[⟨false,x.N,v⟩]:=by unfold stackS;rw[if_pos c1];rfl
  rw[hs]
  show (cA.f (⟨l,⟨s.Pc,s.Code,s.Mem,lCut s.Stack 0 n.Below,s.Out⟩,x,n.A,n.B,n.R,n.Below,⟨n.One,n.Two,n.Three⟩⟩:aE) x.N v>>=_)=_
  rw[hput];rfl
 rw[if_neg c1]
 by_cases c3:x.Op=3
 ·rw[if_pos c3,nx (by omega) (by omega) (by omega) (by omega),mx (by omega),ox (by omega)]
  have hs:stackS s x n v=lCut s.Stack 0 n.Below++[⟨false,IntKind.i64.wrap (n.B.V+n.A.V),v⟩]:=by unfold stackS;rw[if_neg c1,if_pos c3];rfl
  rw[hs]
  show (cA.f (⟨l,⟨s.Pc,s.Code,s.Mem,lCut s.Stack 0 n.Below,s.Out⟩,x,n.A,n.B,n.R,n.Below,⟨n.One,n.Two,n.Three⟩⟩:aE) (IntKind.i64.wrap (n.B.V+n.A.V)) v>>=_)=_
  rw[hput];rfl
 rw[if_neg c3]
 by_cases c4:x.Op=4
 ·rw[if_pos c4,nx (by omega) (by omega) (by omega) (by omega),mx (by omega),ox (by omega)]
  have hs:stackS s x n v=lCut s.Stack 0 n.Below++[⟨false,IntKind.i64.wrap (n.B.V-n.A.V),v⟩]:=by unfold stackS;rw[if_neg c1,if_neg c3,if_pos c4];rfl
  rw[hs]
  show (cA.f (⟨l,⟨s.Pc,s.Code,s.Mem,lCut s.Stack 0 n.Below,s.Out⟩,x,n.A,n.B,n.R,n.Below,⟨n.One,n.Two,n.Three⟩⟩:aE) (IntKind.i64.wrap (n.B.V-n.A.V)) v>>=_)=_
  rw[hput];rfl
 rw[if_neg c4]
 by_cases c5:x.Op=5
 ·obtain⟨k1,k2⟩:=c (.inl c5)
  rw[if_pos c5,nx (by omega) (by omega) (by omega) (by omega),mx (by omega),ox (by omega)]
  have hs:stackS s x n v=lCut s.Stack 0 n.Below++[⟨false,(mm s n.A.V).V,v⟩]:=by unfold stackS;rw[if_neg c1,if_neg c3,if_neg c4,if_pos c5];rfl
  rw[hs]
  show (lAt s.Mem n.A.V>>=_)=_
  rw[mm_at k1 k2,bsome]
  show (cA.f (⟨l,⟨s.Pc,s.Code,s.Mem,lCut s.Stack 0 n.Below,s.Out⟩,x,n.A,n.B,n.R,n.Below,⟨n.One,n.Two,n.Three⟩⟩:aE) (mm s n.A.V).V v>>=_)=_
  rw[hput];rfl
 rw[if_neg c5]
 by_cases c6:x.Op=6
 ·obtain⟨k1,k2⟩:=c (.inr c6)
  have hmS:memS s x n v=s.Mem.set n.A.V.toNat ⟨n.B.V,v⟩:=by unfold memS;rw[if_pos c6]
  rw[if_pos c6,nx (by omega) (by omega) (by omega) (by omega),hmS,ox (by omega),sx c1 c3 c4 c5 (by omega) (by omega)]
  show (br.f s.Mem>>=_)=_
  rw[jo (by omega),bsome]
  show (lAt s.Mem n.A.V>>=_)=_
  rw[mm_at k1 k2];rfl
 rw[if_neg c6]
 by_cases c11:x.Op=11
 ·have hoS:outS s x n v=s.Out++[⟨n.A.V,v⟩]:=by unfold outS;rw[if_pos c11]
  rw[if_pos c11,nx (by omega) (by omega) (by omega) (by omega),mx (by omega),hoS,sx c1 c3 c4 c5 (by omega) (by omega)]
  show (br.f s.Out>>=_)=_
  rw[jo (by omega),bsome]
  show (if (s.Out.length+([(⟨n.A.V,v⟩:aG)]:List aG).length)*16<=big then _ else _)=_
  rw[if_pos (by simp;omega)];rfl
 rw[if_neg c11]
 by_cases c7:x.Op=7
 ·have hx:nextS s x n=n.A.V:=by unfold nextS;rw[if_pos (.inl c7)]
  rw[if_pos c7,hx,mx (by omega),ox (by omega),sx c1 c3 c4 c5 (by omega) (by omega)];rfl
 rw[if_neg c7]
 by_cases c8:x.Op=8
 ·rw[if_pos c8,mx (by omega),ox (by omega),sx c1 c3 c4 c5 (by omega) (by omega)]
  show (if n.A.V=0 then _ else _)=_
  by_cases ca:n.A.V=0
  ·have hx:nextS s x n=IntKind.i64.wrap (s.Pc.V+1):=by unfold nextS;rw[if_neg (by omega),if_neg (by omega),if_neg (fun w=>w.2 ca)]
   rw[if_pos ca,hx];rfl
  ·have hx:nextS s x n=x.N:=by unfold nextS;rw[if_neg (by omega),if_neg (by omega),if_pos ⟨c8,ca⟩]
   rw[if_neg ca,hx];rfl
 rw[if_neg c8]
 by_cases c9:x.Op=9
 ·obtain⟨g0,g1⟩:=g c9
  have e:IntKind.i64.wrap (n.Below-x.N)=n.Below-x.N:=wrapZ (by omega) (by omega)
  have hx:nextS s x n=n.A.V:=by unfold nextS;rw[if_pos (.inr c9)]
  have hs:stackS s x n v=lCut s.Stack 0 (n.Below-x.N)++[⟨true,IntKind.i64.wrap (s.Pc.V+1),s.Pc.L⟩]++lCut s.Stack (n.Below-x.N) n.Below:=by unfold stackS;rw[if_neg c1,if_neg c3,if_neg c4,if_neg c5,if_pos c9]
  rw[if_pos c9,hx,mx (by omega),ox (by omega),hs]
  show (if (0:Int)<=IntKind.i64.wrap (n.Below-x.N)/\IntKind.i64.wrap (n.Below-x.N)<=n.Below/\n.Below<=(s.Stack.length:Int) then (if (0:Int)<=IntKind.i64.wrap (n.Below-x.N)/\IntKind.i64.wrap (n.Below-x.N)<=(s.Stack.length:Int) then (aT.f ([lCut s.Stack 0 (IntKind.i64.wrap (n.Below-x.N)),([(⟨true,IntKind.i64.wrap (s.Pc.V+1),s.Pc.L⟩:aF)]:List aF),lCut s.Stack (IntKind.i64.wrap (n.Below-x.N)) n.Below]:List (List aF))>>=_) else _) else _)=_
  rw[e,if_pos (by omega),if_pos (by omega),mT (by simp) (by
   intro z hz
   simp only[List.mem_cons,List.not_mem_nil,or_false] at hz
   rcases hz with rfl|rfl|rfl<;>simp[lCut]<;>omega),bsome]
  rw[show ([lCut s.Stack 0 (n.Below-x.N),([(⟨true,IntKind.i64.wrap (s.Pc.V+1),s.Pc.L⟩:aF)]:List aF),lCut s.Stack (n.Below-x.N) n.Below]:List (List aF)).flatten=lCut s.Stack 0 (n.Below-x.N)++[⟨true,IntKind.i64.wrap (s.Pc.V+1),s.Pc.L⟩]++lCut s.Stack (n.Below-x.N) n.Below by simp]
  rfl
 rw[if_neg c9]
 by_cases c10:x.Op=10
 ·have hx:nextS s x n=n.R.V:=by unfold nextS;rw[if_neg (by omega),if_pos c10]
  rw[if_pos c10,hx,mx (by omega),ox (by omega)]
  show (if x.N=1 then _ else _)=_
  by_cases cn:x.N=1
  ·have hs:stackS s x n v=lCut s.Stack 0 n.Below++[⟨false,n.A.V,v⟩]:=by unfold stackS;rw[if_neg c1,if_neg c3,if_neg c4,if_neg c5,if_neg c9,if_pos c10,if_pos cn];rfl
   rw[if_pos cn,hs]
   show (cA.f (⟨l,⟨s.Pc,s.Code,s.Mem,lCut s.Stack 0 n.Below,s.Out⟩,x,n.A,n.B,n.R,n.Below,⟨n.One,n.Two,n.Three⟩⟩:aE) n.A.V v>>=_)=_
   rw[hput];rfl
  ·have hs:stackS s x n v=lCut s.Stack 0 n.Below:=by unfold stackS;rw[if_neg c1,if_neg c3,if_neg c4,if_neg c5,if_neg c9,if_pos c10,if_neg cn];rfl
   rw[if_neg cn,hs];rfl
 rw[if_neg c10,nx (by omega) (by omega) (by omega) (by omega),mx (by omega),ox (by omega),sx c1 c3 c4 c5 c9 c10];rfl
end Go.Proofs.YtmjcpkmongafnaaGreatDoor.Ss
namespace Go.Proofs.YtmjcpkmongafnaaGreatDoor.Ss
open Go Go.Proofs.YtmjcpkmongafnaaGreatDoor.Ab Go.Proofs.YtmjcpkmongafnaaGreatDoor.TT
section
variable{s:al} {x:aI} {n:aM}(hx:lAt s.Code s.Pc.V=some x)
include hx
theorem next_r:fq.f s n=some (nextS s x n):=by
 unfold fq.f nextS
 rw[hx,bsome]
 have e:((if x.Op=7 then (some true) else (some (decide (x.Op=9))):Option Bool))=some (decide (x.Op=7\/x.Op=9)):=by
  by_cases h:x.Op=7
  ·rw[if_pos h,decide_eq_true (.inl h)]
  ·rw[if_neg h]
   by_cases q:x.Op=9
   ·rw[decide_eq_true q,decide_eq_true (.inr q)]
   ·rw[decide_eq_false q,decide_eq_false (fun w=>w.elim h q)]
 have e2:((if x.Op=8 then (some (!decide (n.A.V=0))) else (some false):Option Bool))=some (decide (x.Op=8/\n.A.V≠0)):=by
  by_cases h:x.Op=8
  ·rw[if_pos h]
   by_cases q:n.A.V=0
   ·rw[decide_eq_true q,decide_eq_false (fun w=>w.2 q)];rfl
   ·rw[decide_eq_false q,decide_eq_true ⟨h,q⟩];rfl
  ·rw[if_neg h,decide_eq_false (fun w=>h w.1)]
 rw[e,bsome]
 by_cases h:x.Op=7\/x.Op=9
 ·rw[decide_eq_true h,if_pos rfl,if_pos h]
 ·rw[decide_eq_false h,if_neg ff,if_neg h]
  by_cases q:x.Op=10
  ·rw[if_pos q,if_pos q]
  ·rw[if_neg q,if_neg q,e2,bsome]
   by_cases w:x.Op=8/\n.A.V≠0
   ·rw[decide_eq_true w,if_pos rfl,if_pos w]
   ·rw[decide_eq_false w,if_neg ff,if_neg w]
def memL(op:Bool)(v:Int)(b:aG):List aG->Nat->List aG
 |[],_=>[]
 |a::r,k=>(if op=true/\(k:Int)=v then b else a)::memL op v b r (k+1)
omit hx in
theorem memL_set{v:Nat} {b:aG}:∀{m:List aG} {k:Nat},memL true ((k+v:Nat):Int) b m k=m.set v b
 |[],k=>rfl
 |a::r,k=>by
  unfold memL
  cases v with
  |zero=>
   have h:∀(r:List aG) (j:Nat),k<j->memL true ((k+0:Nat):Int) b r j=r:=by
    intro r
    induction r with
    |nil=>intro j _;rfl
    |cons a r ih=>
     intro j hj
     unfold memL
     rw[if_neg (fun w=>by have:=w.2;omega),ih (j+1) (by omega)]
   rw[if_pos ⟨rfl,by omega⟩,h r (k+1) (by omega)];rfl
  |succ v=>
   have e:((k+(v+1):Nat):Int)=((k+1+v:Nat):Int):=by omega
   rw[if_neg (fun w=>by have:=w.2;omega),e,memL_set (v:=v) (m:=r) (k:=k+1)];rfl
omit hx in
theorem memL_no{v:Int} {b:aG}:∀{m:List aG} {k:Nat},memL false v b m k=m
 |[],k=>rfl
 |a::r,k=>by
  unfold memL
  rw[if_neg (fun w=>by cases w.1),memL_no]
theorem mem_l0{v:Int}(hm:s.Mem.length<=900):∀(d k:Nat) (acc:List aG),s.Mem.length=k+d->acc.length=k->dl.l0 s n v acc (k:Int)=some (acc++memL (decide (x.Op=6)) n.A.V ⟨n.B.V,v⟩ (s.Mem.drop k) k)
 |0,k,acc,e,ha=>by
  rw[dl.l0,if_neg (by omega),List.drop_of_length_le (by omega)]
  unfold memL
  rw[List.append_nil]
 |d+1,k,acc,e,ha=>by
  have hk:k<s.Mem.length:=by omega
  have hB:100000<=big:=by decide
  have ih:=fun z=>mem_l0 (v:=v) hm d (k+1) (acc++[z]) (by omega) (by simp[ha])
  rw[dl.l0,if_pos (by omega),bo hk,bsome,hx,bsome,List.drop_eq_getElem_cons hk]
  unfold memL
  have e2:((if x.Op=6 then (some (decide ((k:Int)=n.A.V))) else (some false):Option Bool))=some (decide (decide (x.Op=6)=true/\(k:Int)=n.A.V)):=by
   by_cases h:x.Op=6
   ·rw[if_pos h]
    congr 1
    exact decide_eq_decide.2 ⟨fun w=>⟨decide_eq_true h,w⟩,fun w=>w.2⟩
   ·rw[if_neg h,decide_eq_false (fun w=>h (of_decide_eq_true w.1))]
  rw[e2,bsome]
  by_cases w:decide (x.Op=6)=true/\(k:Int)=n.A.V
  ·rw[if_pos w,decide_eq_true w,if_pos rfl,if_pos (by simp;omega),bsome,wS (by omega),ih,List.append_assoc];rfl
  ·rw[if_neg w,decide_eq_false w,if_neg ff,if_pos (by simp;omega),bsome,wS (by omega),ih,List.append_assoc];rfl
theorem mem_r{v:Int}(hm:s.Mem.length<=900)(h6:x.Op=6->0<=n.A.V):dl.f s n v=some (memS s x n v):=by
 unfold dl.f memS
 have h:=mem_l0 hx (n:=n) (v:=v) hm s.Mem.length 0 [] (by omega) rfl
 rw[show ((0:Nat):Int)=0 from rfl,List.nil_append,List.drop_zero] at h
 rw[h,bsome]
 by_cases q:x.Op=6
 ·have e:n.A.V=((0+n.A.V.toNat:Nat):Int):=by have:=h6 q;omega
  rw[if_pos q,decide_eq_true q]
  conv=>lhs;rw[e]
  rw[memL_set]
 ·rw[if_neg q,decide_eq_false q,memL_no]
omit hx in
theorem with_r{S:List aF} {z:aF}(h:S.length<=900):dd.f S z=some (S++[z])/\fd.f S z=some (S++[z]):=by
 have hB:100000<=big:=by decide
 unfold dd.f fd.f
 rw[if_pos (by simp;omega),if_pos (by simp;omega)]
 exact⟨rfl,rfl⟩
omit hx in
theorem cut_cut{S:List aF} {a b:Int}(h0:0<=a)(h1:a<=b)(h2:b<=(S.length:Int)):lCut (lCut S 0 b) 0 a=lCut S 0 a/\lCut (lCut S 0 b) a ((lCut S 0 b).length:Int)=lCut S a b:=by
 have hl:(lCut S 0 b).length=b.toNat:=by simp[lCut];omega
 rw[hl]
 unfold lCut
 constructor
 ·simp only[Int.toNat_zero,List.drop_zero,Nat.sub_zero,List.take_take]
  congr 1;omega
 ·simp only[Int.toNat_zero,List.drop_zero,Nat.sub_zero,List.drop_take,List.take_take]
  congr 1
  omega
theorem stack_rx{v:Int}(hn:s.Stack.length<=900)(lo:0<=n.Below)(hi:n.Below<=(s.Stack.length:Int))(c:x.Op=5->0<=n.A.V/\n.A.V<(s.Mem.length:Int))(g:x.Op=9->0<=x.N/\x.N<=n.Below):eU.f s n v=some (stackS s x n v):=by
 have hc:=ka (xs:=s.Stack) (b:=n.Below)
 have hB:100000<=big:=by decide
 have hW:∀z,dd.f (lCut s.Stack 0 n.Below) z=some (lCut s.Stack 0 n.Below++[z]):=fun z=>(with_r (by omega)).1
 unfold eU.f stackS restS
 rw[hx,bsome,if_pos ⟨lo,hi⟩]
 by_cases c1:x.Op=1
 ·rw[if_pos c1,if_pos c1,hW];rfl
 rw[if_neg c1,if_neg c1]
 by_cases c3:x.Op=3
 ·rw[if_pos c3,if_pos c3,hW];rfl
 rw[if_neg c3,if_neg c3]
 by_cases c4:x.Op=4
 ·rw[if_pos c4,if_pos c4,hW];rfl
 rw[if_neg c4,if_neg c4]
 by_cases c5:x.Op=5
 ·obtain⟨k1,k2⟩:=c c5
  rw[if_pos c5,if_pos c5,mm_at k1 k2,bsome,hW];rfl
 rw[if_neg c5,if_neg c5]
 by_cases c9:x.Op=9
 ·obtain⟨g0,g1⟩:=g c9
  have e:IntKind.i64.wrap (n.Below-x.N)=n.Below-x.N:=wrapZ (by omega) (by omega)
  obtain⟨q1,q2⟩:=cut_cut (S:=s.Stack) (a:=n.Below-x.N) (b:=n.Below) (by omega) (by omega) hi
  have hl:(lCut s.Stack 0 n.Below).length=n.Below.toNat:=by simp[lCut];omega
  have hA:(lCut s.Stack 0 (n.Below-x.N)).length<=900:=Nat.le_trans ka hn
  have hD:(lCut s.Stack (n.Below-x.N) n.Below).length<=900:=by simp[lCut];omega
  rw[if_pos c9,if_pos c9,e,if_pos (by omega),q1,(with_r hA).2,bsome,if_pos (by omega),q2,if_pos (by simp only[List.length_append,List.length_singleton];omega)];rfl
 rw[if_neg c9,if_neg c9]
 by_cases c10:x.Op=10
 ·rw[if_pos c10,if_pos c10]
  by_cases cn:x.N=1
  ·rw[if_pos cn,if_pos cn,hW];rfl
  ·rw[if_neg cn,if_neg cn];rfl
 ·rw[if_neg c10,if_neg c10];rfl
end
end Go.Proofs.YtmjcpkmongafnaaGreatDoor.Ss
namespace Go.Proofs.YtmjcpkmongafnaaGreatDoor.Ss
open Go Go.Proofs.YtmjcpkmongafnaaGreatDoor.Ab Go.Proofs.YtmjcpkmongafnaaGreatDoor.TT
section
variable{l:az} {U:List Nat}(h:Nm l U)(hc:chk l U=0)
include h hc
theorem judged{labels:List Int}(h4:labels.length=4)(ha:labels.all (inn U.length)=true){r:List Int} {b:Bool}(hr:right r=some b):
  (b=false->∃c:Bool,fb.f l r labels=some (c,0)/\cu.f l r labels=some ⟨c,0,0⟩)/\(b=true->∃v:Int,dJ.f l r labels=some (v,0)/\cu.f l r labels=some ⟨false,v,0⟩):=by
 obtain⟨E,hn,hle,hJ,hM,hb,ht,_⟩:=je_of h hc h4 ha
 have R:=je_ref h hc hn hle hJ hM hb ht
 obtain⟨t,h1,h2,h3,h40⟩:=lr hr
 subst h3
 have hm:mayS l U t.flat labels b=0:=by
  unfold mayS okL
  rw[if_pos hc,if_pos hr,decide_eq_true h4,ha];rfl
 constructor
 ·intro e
  subst e
  refine⟨(ev E t).1,cond_is h E h1 h2 (by omega) (by omega) hm,?_⟩
  rw[mX E R h1 (by omega)]
  unfold vis via
  rw[h2];rfl
 ·intro e
  subst e
  refine⟨((ev E t).2:Int),nI h E h1 h2 (by omega) (by omega) hm,?_⟩
  rw[mX E R h1 (by omega)]
  unfold vis via
  rw[h2];rfl
theorem bots:∃y:Nat,y<U.length/\dI.f l=some ((y:Int),0)/\bU.f l=some (y:Int):=by
 obtain⟨y0,⟨hy,_⟩,_⟩:=lu h hc
 have h0:inn U.length 0=true:=by
  have:=jb (n:=U.length) (k:=0) (by omega)
  simpa using this
 obtain⟨E,hn,hle,hJ,hM,hb,ht,_⟩:=je_of h hc (labels:=[0,0,0,0]) rfl (by simp[h0])
 have R:=je_ref h hc hn hle hJ hM hb ht
 exact⟨E.bot,by rw[<-hn];exact E.hbot.1,E.hbot.2,R.rbot⟩
end
def TT(s:al)(x:aI)(n:aM)(v w:Int):al:=⟨⟨nextS s x n,w⟩,s.Code,memS s x n v,stackS s x n v,outS s x n v⟩
def KR(a0:az)(a2:al)(y2:aM)(y3:aI)(y6:aW):Option bB:=
 cu.f a0 y6.May ([a2.Pc.L,y2.One,y2.Two,y2.Three]:List Int)>>=fun y7=>if (!y7.Is)=true then (some (⟨a2,2⟩:bB)) else (cu.f a0 y6.Res ([a2.Pc.L,y2.One,y2.Two,y2.Three]:List Int)>>=fun y9=>dl.f a2 y2 y9.A>>=fun y10=>eU.f a2 y2 y9.A>>=fun y11=>fq.f a2 y2>>=fun y12=>cu.f a0 y6.Pc ([a2.Pc.L,y2.One,y2.Two,y2.Three]:List Int)>>=fun y13=>if y3.Op=11 then (if (([]:List aG).length+a2.Out.length)*16<=big then (if ((([]:List aG)++a2.Out).length+([(⟨y2.A.V,y9.A⟩:aG)]:List aG).length)*16<=big then (dg.f a0 (⟨⟨y12,y13.A⟩,a2.Code,y10,y11,(([]:List aG)++a2.Out)++([(⟨y2.A.V,y9.A⟩:aG)]:List aG)⟩:al)>>=fun y17=>if (!y17)=true then (some (⟨a2,3⟩:bB)) else (some (⟨⟨⟨y12,y13.A⟩,a2.Code,y10,y11,(([]:List aG)++a2.Out)++([(⟨y2.A.V,y9.A⟩:aG)]:List aG)⟩,0⟩:bB))) else none) else none) else (dg.f a0 (⟨⟨y12,y13.A⟩,a2.Code,y10,y11,a2.Out⟩:al)>>=fun y19=>if (!y19)=true then (some (⟨a2,3⟩:bB)) else (some (⟨⟨⟨y12,y13.A⟩,a2.Code,y10,y11,a2.Out⟩,0⟩:bB))))
structure Can(s:al)(x:aI)(n:aM):Prop where
 lo:0<=n.Below
 hi:n.Below<=(s.Stack.length:Int)
 c:x.Op=5\/x.Op=6->0<=n.A.V/\n.A.V<(s.Mem.length:Int)
 g:x.Op=9->0<=x.N/\x.N<=n.Below
theorem TT_sz{l:az} {s:al} {x:aI} {n:aM} {v w:Int} {N:Int}(z:RightS N s)(C:Can s x n):Sz (TT s x n v w):=by
 have zs:=z.stack
 have zm:=z.mem
 have zo:=z.out
 have zc:=z.code
 obtain⟨d,d1,d2⟩:=does_x (l:=l) (x:=x) (n:=n) (by omega:s.Stack.length<=900) (by omega) (by omega) C.lo C.hi C.c C.g v
 obtain⟨d',d1',k⟩:=does_m (m:=mOf l s x n) (by show s.Stack.length<=900;omega) (by show s.Mem.length<=900;omega) (by show s.Out.length<=900;omega) C.lo C.hi (fun q=>decide_eq_true (C.c q)) C.g v
 rw[d1] at d1'
 obtain rfl:=Option.some.inj d1'
 have k2:(memS s x n v).length=s.Mem.length:=by have:=k.mem;rw[d2] at this;exact this
 have k3:(stackS s x n v).length<=s.Stack.length+1:=by have:=k.st;rw[d2] at this;exact this
 refine⟨by show s.Code.length<=1000;omega,by show (memS s x n v).length<=1000;omega,by show (stackS s x n v).length<=1000;omega,?_⟩
 show (outS s x n v).length<=1000
 unfold outS
 split
 ·rw[List.length_append,List.length_singleton];omega
 ·omega
section
variable{l:az} {U:List Nat}(h:Nm l U)(hc:chk l U=0){s:al} {x:aI} {n:aM}(z:RightS (l.Up.length:Int) s)(C:Can s x n){row:aW} {c:Bool} {v w:Int}
include h hc z C
theorem K_eq(c1:fb.f l row.May [s.Pc.L,n.One,n.Two,n.Three]=some (c,0))(v1:dJ.f l row.Res [s.Pc.L,n.One,n.Two,n.Three]=some (v,0))(w1:dJ.f l row.Pc [s.Pc.L,n.One,n.Two,n.Three]=some (w,0)):
  K l s (mOf l s x n) row=some (if c=true then (if rightS (l.Up.length:Int) (TT s x n v w)=true then .inr (TT s x n v w,0) else .inl 3) else .inl 2):=by
 have zs:=z.stack
 have zm:=z.mem
 have zo:=z.out
 obtain⟨d,d1,d2⟩:=does_x (l:=l) (x:=x) (n:=n) (by omega:s.Stack.length<=900) (by omega) (by omega) C.lo C.hi C.c C.g v
 unfold K
 show (fb.f l row.May [s.Pc.L,n.One,n.Two,n.Three]>>=_)=_
 rw[c1,bsome]
 cases c with
 |false=>rfl
 |true=>
  show (dJ.f l row.Res [s.Pc.L,n.One,n.Two,n.Three]>>=_)=_
  rw[v1,bsome]
  show (dJ.f l row.Pc [s.Pc.L,n.One,n.Two,n.Three]>>=_)=_
  rw[w1,bsome,d1,bsome,d2]
  show (fe.f l (TT s x n v w)>>=_)=_
  rw[kP h hc (TT_sz (l:=l) z C),bsome,gQ,bsome]
  cases rightS (l.Up.length:Int) (TT s x n v w)<;>rfl
theorem KR_eq(hx:lAt s.Code s.Pc.V=some x)(c1:cu.f l row.May [s.Pc.L,n.One,n.Two,n.Three]=some ⟨c,0,0⟩)(v1:cu.f l row.Res [s.Pc.L,n.One,n.Two,n.Three]=some ⟨false,v,0⟩)(w1:cu.f l row.Pc [s.Pc.L,n.One,n.Two,n.Three]=some ⟨false,w,0⟩):
  KR l s n x row=some (if c=true then (if rightS (l.Up.length:Int) (TT s x n v w)=true then ⟨TT s x n v w,0⟩ else ⟨s,3⟩) else ⟨s,2⟩):=by
 have zs:=z.stack
 have zm:=z.mem
 have zo:=z.out
 have hB:100000<=big:=by decide
 have zz:=TT_sz (l:=l) (v:=v) (w:=w) z C
 unfold KR
 rw[c1,bsome]
 cases c with
 |false=>rfl
 |true=>
  rw[if_neg (show ¬(!true)=true by decide),if_pos rfl,v1,bsome]
  show (dl.f s n v>>=fun y10=>eU.f s n v>>=_)=_
  rw[mem_r hx (by omega) (fun q=>(C.c (.inr q)).1),bsome,stack_rx hx (by omega) C.lo C.hi (fun q=>C.c (.inl q)) C.g,bsome,next_r hx,bsome,w1,bsome]
  by_cases h11:x.Op=11
  ·have e:(⟨⟨nextS s x n,w⟩,s.Code,memS s x n v,stackS s x n v,([]++s.Out)++[(⟨n.A.V,v⟩:aG)]⟩:al)=TT s x n v w:=by unfold TT outS;rw[if_pos h11];rfl
   rw[if_pos h11,if_pos (show (([]:List aG).length+s.Out.length)*16<=big by simp;omega),if_pos (show ((([]:List aG)++s.Out).length+([(⟨n.A.V,v⟩:aG)]:List aG).length)*16<=big by simp;omega)]
   show (dg.f l (⟨⟨nextS s x n,w⟩,s.Code,memS s x n v,stackS s x n v,([]++s.Out)++[(⟨n.A.V,v⟩:aG)]⟩:al)>>=fun y17=>if (!y17)=true then some (⟨s,3⟩:bB) else some (⟨(⟨⟨nextS s x n,w⟩,s.Code,memS s x n v,stackS s x n v,([]++s.Out)++[(⟨n.A.V,v⟩:aG)]⟩:al),0⟩:bB))=_
   rw[e,lw zz,bsome]
   cases rightS (l.Up.length:Int) (TT s x n v w)<;>rfl
  ·have e:(⟨⟨nextS s x n,w⟩,s.Code,memS s x n v,stackS s x n v,s.Out⟩:al)=TT s x n v w:=by unfold TT outS;rw[if_neg h11]
   rw[if_neg h11]
   show (dg.f l (⟨⟨nextS s x n,w⟩,s.Code,memS s x n v,stackS s x n v,s.Out⟩:al)>>=fun y19=>if (!y19)=true then some (⟨s,3⟩:bB) else some (⟨(⟨⟨nextS s x n,w⟩,s.Code,memS s x n v,stackS s x n v,s.Out⟩:al),0⟩:bB))=_
   rw[e,lw zz,bsome]
   cases rightS (l.Up.length:Int) (TT s x n v w)<;>rfl
end
theorem stepR{l:az} {R:List aW} {s:al} {n:aM} {x:aI}(h0:s.Pc.V<(s.Code.length:Int))(hx:lAt s.Code s.Pc.V=some x)(hN:bH.f l s=some n):
  dD.f l ⟨R⟩ s=(if (!n.Is)=true then (some (⟨s,3⟩:bB)) else (if x.Op=12 then (some (⟨s,1⟩:bB)) else (lAt R x.Op>>=fun y6=>KR l s n x y6))):=by
 unfold dD.f KR
 rw[if_neg (show ¬s.Pc.V>=(s.Code.length:Int) by omega),hN,bsome,hx,bsome]
theorem stepP{l:az} {R:List aW} {s:al} {n:aM} {x:aI} {y:Int}(h0:s.Pc.V<(s.Code.length:Int))(hx:lAt s.Code s.Pc.V=some x)(hb:dI.f l=some (y,0))(hP:b9.f (mach l s x y)=some (if n.Is=true then .inr (mOf l s x n) else .inl 3)):
  dO.B l ⟨R⟩ s=(if (!n.Is)=true then some (.inl 3) else (if x.Op=12 then some (.inl 1) else (lAt R x.Op>>=fun y6=>K l s (mOf l s x n) y6))):=by
 unfold dO.B
 rw[gQ,bsome,decide_eq_true h0,if_pos rfl]
 show (dI.f l>>=_)=_
 rw[hb,bsome,hx,bsome]
 show (b9.f (mach l s x y)>>=_)=_
 rw[hP,bsome]
 cases n.Is<;>rfl
section
variable{l:az} {U:List Nat}(h:Nm l U)(hc:chk l U=0)
include h hc
theorem step_ref{s:al}(hr:rightS (l.Up.length:Int) s=true){R:List aW}(hF:Few R)(hT:(chT R).2=0):
  ∃r o,dO.B l ⟨R⟩ s=some r/\dD.f l ⟨R⟩ s=some o/\(finD s r).1=o.S/\(finD s r).2=o.What:=by
 have z:=rs_of hr
 have L:=mu hr
 have zs:=z.stack
 obtain⟨h13,_,hRr,_⟩:=chT_zero hT
 by_cases h0:s.Pc.V<(s.Code.length:Int)
 ·obtain⟨x,ea,hm⟩:=code_at z h0
  have hi:=z.ins x hm
  obtain⟨i0,i1⟩:=ins_of hi
  obtain⟨n7,n10⟩:=ins_n hi
  obtain⟨y,hy,hb,hbr⟩:=bots h hc
  have hyl:labB (l.Up.length:Int) (y:Int)=true:=by
   unfold labB
   rw[h.n]
   exact decide_eq_true ⟨by omega,by omega⟩
  obtain⟨n,hN,hP⟩:=needs_two (l:=l) ea hbr (by omega) i0 n7 i1 n10
  obtain⟨rr,hrr,hq⟩:=needs_a (P:=fun v=>labB (l.Up.length:Int) v=true) (a:=mach l s x (y:Int)) ⟨by show s.Stack.length<=1000;omega,hyl,hyl,hyl,L.st,L.me,i0,fun w=>ins_l hi w,i1⟩
  rw[stepP h0 ea hb hP,stepR h0 ea hN]
  cases hI:n.Is with
  |false=>exact⟨_,_,rfl,rfl,rfl,rfl⟩
  |true=>
   rw[if_neg (show ¬(!true)=true by decide),if_neg (show ¬(!true)=true by decide)]
   rw[hI,if_pos rfl] at hP
   rw[hP] at hrr
   obtain rfl:=Option.some.inj hrr
   have F:Fine (fun v=>labB (l.Up.length:Int) v=true) (mach l s x (y:Int)) (mOf l s x n):=hq
   by_cases h12:x.Op=12
   ·rw[if_pos h12,if_pos h12]
    exact⟨_,_,rfl,rfl,rfl,rfl⟩
   ·rw[if_neg h12,if_neg h12]
    have eo:x.Op=((x.Op.toNat:Nat):Int):=by omega
    have hlt:x.Op.toNat<R.length:=by omega
    have hla:lAt R x.Op=some R[x.Op.toNat]:=by
     have:=bo (xs:=R) hlt
     rwa [<-eo] at this
    have hrow:=hRr _ (List.getElem_mem hlt)
    rw[hla,bsome,bsome]
    generalize R[x.Op.toNat]=row at hrow
    have hlabs:([s.Pc.L,n.One,n.Two,n.Three]:List Int).all (inn U.length)=true:=by
     have e:(l.Up.length:Int)=(U.length:Int):=by rw[h.n]
     have a1:=L.pc
     have a2:labB (l.Up.length:Int) n.One=true:=F.o0
     have a3:labB (l.Up.length:Int) n.Two=true:=F.o1
     have a4:labB (l.Up.length:Int) n.Three=true:=F.o2
     rw[e] at a1 a2 a3 a4
     simp[hZ a1,hZ a2,hZ a3,hZ a4]
    obtain⟨c,c1,c2⟩:=(judged h hc (labels:=[s.Pc.L,n.One,n.Two,n.Three]) rfl hlabs hrow.may).1 rfl
    obtain⟨v,v1,v2⟩:=(judged h hc (labels:=[s.Pc.L,n.One,n.Two,n.Three]) rfl hlabs hrow.res).2 rfl
    obtain⟨w,w1,w2⟩:=(judged h hc (labels:=[s.Pc.L,n.One,n.Two,n.Three]) rfl hlabs hrow.pc).2 rfl
    have C:Can s x n:=⟨F.lo,F.hi,fun q=>of_decide_eq_true (F.c q),fun q=>⟨(i1 q).1,F.g q⟩⟩
    rw[K_eq h hc z C c1 v1 w1,KR_eq h hc z C ea c2 v2 w2]
    refine⟨_,_,rfl,rfl,?_⟩
    cases c with
    |false=>exact⟨rfl,rfl⟩
    |true=>
     rw[if_pos rfl,if_pos rfl]
     cases rightS (l.Up.length:Int) (TT s x n v w) with
     |false=>exact⟨rfl,rfl⟩
     |true=>exact⟨rfl,rfl⟩
 ·unfold dO.B dD.f
  rw[gQ,bsome,decide_eq_false h0,if_neg ff,if_pos (show s.Pc.V>=(s.Code.length:Int) by omega)]
  exact⟨_,_,rfl,rfl,rfl,rfl⟩
end
theorem may_r{l:az} {U:List Nat}(h:Nm l U){R:List aW}(hF:Few R){s:al}(z:Sz s):fS.f l ⟨R⟩ s=some (mayO l U R s):=by
 unfold fS.f mayO
 rw[oB h,bsome]
 by_cases hc:chk l U=0
 ·rw[if_pos hc,if_pos hc,nK hF,bsome]
  by_cases hT:(chT R).2=0
  ·rw[if_pos hT,if_pos hT,lw z,bsome]
   cases rightS (l.Up.length:Int) s<;>rfl
  ·rw[if_neg hT,if_neg hT,bsome]
 ·rw[if_neg hc,if_neg hc]
end Go.Proofs.YtmjcpkmongafnaaGreatDoor.Ss
namespace Go.Proofs.YtmjcpkmongafnaaGreatDoor.Ss
open Go Go.Proofs.YtmjcpkmongafnaaGreatDoor.Ab Go.Proofs.YtmjcpkmongafnaaGreatDoor.TT
structure StepOk(l:az)(R:List aW)(st:al->al×Int)(G:al->Prop):Prop where
 one:∀s,G s->eT.f l ⟨R⟩ s=some ((st s).1,(st s).2,0)
 next:∀s,G s->G (st s).1
 sz:∀s,G s->Sz s
theorem mv{l:az} {U:List Nat}(h:Nm l U){R:List aW}(hF:Few R)(hc:chk l U=0)(hT:(chT R).2=0):∃st,StepOk l R st (fun s=>rightS (l.Up.length:Int) s=true):=by
 refine⟨fun s=>match eT.f l ⟨R⟩ s with|some (t,q,_)=>(t,q)|none=>(s,3),?_⟩
 have key:∀s,rightS (l.Up.length:Int) s=true->∃t q,eT.f l ⟨R⟩ s=some (t,q,0)/\rightS (l.Up.length:Int) t=true:=by
  intro s hr
  have zr:=rs_of hr
  have hm:mayO l U R s=0:=by unfold mayO;rw[if_pos hc,if_pos hT,if_pos hr]
  obtain⟨r,hb,w⟩:=B_m h hc zr hF (chT_zero hT).1
  exact⟨_,_,one_yes h hF zr.sz hm hb,(stays hr w).right⟩
 refine⟨fun s hs=>?_,fun s hs=>?_,fun s hs=>(rs_of hs).sz⟩
 ·obtain⟨t,q,e,_⟩:=key s hs
  simp only[e]
 ·obtain⟨t,q,e,w⟩:=key s hs
  simp only[e];exact w
def runL(st:al->al×Int):Nat->al->List al×Int
 |0,s=>([s],0)
 |k+1,s=>if (st s).2=0 then (s::(runL st k (st s).1).1,(runL st k (st s).1).2) else ([s],(st s).2)
section
variable{st:al->al×Int}
theorem runL_len:∀(k:Nat) (s:al),1<=(runL st k s).1.length/\(runL st k s).1.length<=k+1
 |0,s=>⟨Nat.le_refl _,Nat.le_refl _⟩
 |k+1,s=>by
  have:=runL_len k (st s).1
  unfold runL
  split
  ·simp only[List.length_cons];omega
  ·simp only[List.length_singleton];omega
theorem runL_all{G:al->Prop}(hn:∀s,G s->G (st s).1):∀(k:Nat) (s:al),G s->∀x∈(runL st k s).1,G x
 |0,s,h,x,hx=>by
  obtain rfl:=List.mem_singleton.1 hx
  exact h
 |k+1,s,h,x,hx=>by
  unfold runL at hx
  split at hx
  ·rcases List.mem_cons.1 hx with rfl|hx
   ·exact h
   ·exact runL_all hn k _ (hn s h) x hx
  ·obtain rfl:=List.mem_singleton.1 hx
   exact h
end
theorem nL{w:Int} {acc:List al}(h:acc.length<=1000)(x:al)(q:Int):yOf db.y0 ((w,acc),0) x q=some (true,((q,acc++[x]),0)):=by
 have hB:200000<=big:=by decide
 show db.y0 (w,acc) x q=_
 unfold db.y0
 rw[if_pos (by simp;omega)]
section
variable{l:az} {R:List aW} {st:al->al×Int} {G:al->Prop}(K:StepOk l R st G)
include K
theorem mY{k:Nat}(hk:k<=900):∀(d i:Nat) (s:al) (w:Int) (acc:List al),G s->k=i+d->acc.length<=i->
  (bR.l0 (yOf db.y0) (k:Int) l ⟨R⟩ s ((w,acc),0) (i:Int)>>=fun o=>match o with|.inl r=>some r|.inr (x22,x23)=>yOf db.y0 x23 x22 0>>=fun y43=>some y43.2)=some (((runL st d s).2,acc++(runL st d s).1),0)
 |0,i,s,w,acc,hs,e,ha=>by
  rw[bR.l0,if_neg (by omega),bsome]
  show (yOf db.y0 ((w,acc),0) s 0>>=_)=_
  rw[nL (by omega),bsome];rfl
 |d+1,i,s,w,acc,hs,e,ha=>by
  rw[bR.l0,if_pos (by omega)]
  show ((eT.f l ⟨R⟩ s>>=_)>>=_)=_
  rw[K.one s hs,bsome]
  show (((yOf db.y0 ((w,acc),0) s (st s).2>>=_)>>=_)>>=_)=_
  rw[nL (by omega),bsome]
  show (((if (!true)=true then _ else _)>>=_)>>=_)=_
  rw[if_neg (show ¬(!true)=true by decide),bsome]
  by_cases q:(st s).2=0
  ·have hq:runL st (d+1) s=(s::(runL st d (st s).1).1,(runL st d (st s).1).2):=by
    show (if (st s).2=0 then _ else _)=_
    rw[if_pos q]
   show ((if (!decide ((st s).2=0))=true then _ else bR.l0 (yOf db.y0) (k:Int) l ⟨R⟩ (st s).1 (((st s).2,acc++[s]),0) (IntKind.i64.wrap ((i:Int)+1)))>>=_)=_
   rw[decide_eq_true q,if_neg (by decide),wS (by omega),mY hk d (i+1) (st s).1 _ _ (K.next s hs) (by omega) (by simp;omega),hq]
   simp
  ·have hq:runL st (d+1) s=([s],(st s).2):=by
    show (if (st s).2=0 then _ else _)=_
    rw[if_neg q]
   show ((if (!decide ((st s).2=0))=true then some (Sum.inl (((st s).2,acc++[s]),0)) else _)>>=_)=_
   rw[decide_eq_false q,if_pos (by decide),bsome,hq]
theorem run_eq{s:al}(hs:G s){k:Nat}(hk:k<=40):db.f l ⟨R⟩ s (k:Int)=some ((runL st k s).1,(runL st k s).2,0):=by
 unfold db.f gj.f
 rw[K.one s hs,bsome,if_pos rfl,if_neg (by omega),bsome,decide_eq_false (show ¬(k:Int)>40 by omega),if_neg (by decide),bsome,if_pos rfl]
 unfold gh.f
 rw[bsome]
 show (bR.f (yOf db.y0) ((0,[]),0) (k:Int) l ⟨R⟩ s>>=_)=_
 have h:=mY K (k:=k) (by omega) k 0 s 0 [] hs (by omega) (Nat.le_refl _)
 rw[show ((0:Nat):Int)=0 from rfl] at h
 have h2:bR.f (yOf db.y0) ((0,[]),0) (k:Int) l ⟨R⟩ s=some (((runL st k s).2,[]++(runL st k s).1),0):=by
  refine Eq.trans ?_ h
  unfold bR.f
  refine congrArg (fun F=>bR.l0 (yOf db.y0) (k:Int) l ⟨R⟩ s ((0,[]),0) 0>>=F) (funext fun o=>?_)
  rcases o with r|⟨x22,x23⟩<;>rfl
 rw[h2,bsome,if_pos rfl];rfl
end
abbrev LastT:=al×Int×Int×Int×(List aI)×(List aG)×(List aF)×(List aG)
def lastT(s:al)(q:Int):LastT:=(s,q,s.Pc.V,s.Pc.L,s.Code,s.Mem,s.Stack,s.Out)
theorem yieldL{a:LastT}(x:al)(q:Int):yOf dL.y0 (a,0) x q=some (true,(lastT x q,0)):=rfl
def lastS(st:al->al×Int):Nat->al->al
 |0,s=>s
 |k+1,s=>if (st s).2=0 then lastS st k (st s).1 else s
theorem lastS_at{st:al->al×Int}:∀(k:Nat) (s:al),∃pre,(runL st k s).1=pre++[lastS st k s]
 |0,s=>⟨[],rfl⟩
 |k+1,s=>by
  unfold runL lastS
  by_cases q:(st s).2=0
  ·rw[if_pos q,if_pos q]
   obtain⟨pre,e⟩:=lastS_at k (st s).1
   exact⟨s::pre,by rw[e];rfl⟩
  ·rw[if_neg q,if_neg q]
   exact⟨[],rfl⟩
section
variable{l:az} {R:List aW} {st:al->al×Int} {G:al->Prop}(K:StepOk l R st G)
include K
theorem last_l0{k:Nat}(hk:k<=900):∀(d i:Nat) (s:al) (a:LastT),G s->k=i+d->
  (bR.l0 (yOf dL.y0) (k:Int) l ⟨R⟩ s (a,0) (i:Int)>>=fun o=>match o with|.inl r=>some r|.inr (x22,x23)=>yOf dL.y0 x23 x22 0>>=fun y43=>some y43.2)=some (lastT (lastS st d s) (runL st d s).2,0)
 |0,i,s,a,hs,e=>by
  rw[bR.l0,if_neg (by omega),bsome]
  show (yOf dL.y0 (a,0) s 0>>=_)=_
  rw[yieldL,bsome];rfl
 |d+1,i,s,a,hs,e=>by
  rw[bR.l0,if_pos (by omega)]
  show ((eT.f l ⟨R⟩ s>>=_)>>=_)=_
  rw[K.one s hs,bsome]
  show (((yOf dL.y0 (a,0) s (st s).2>>=_)>>=_)>>=_)=_
  rw[yieldL,bsome]
  show (((if (!true)=true then _ else _)>>=_)>>=_)=_
  rw[if_neg (show ¬(!true)=true by decide),bsome]
  by_cases q:(st s).2=0
  ·have hq:runL st (d+1) s=(s::(runL st d (st s).1).1,(runL st d (st s).1).2):=by
    show (if (st s).2=0 then _ else _)=_
    rw[if_pos q]
   have hl:lastS st (d+1) s=lastS st d (st s).1:=by
    show (if (st s).2=0 then _ else _)=_
    rw[if_pos q]
   show ((if (!decide ((st s).2=0))=true then _ else bR.l0 (yOf dL.y0) (k:Int) l ⟨R⟩ (st s).1 (lastT s (st s).2,0) (IntKind.i64.wrap ((i:Int)+1)))>>=_)=_
   rw[decide_eq_true q,if_neg (by decide),wS (by omega),last_l0 hk d (i+1) (st s).1 _ (K.next s hs) (by omega),hq,hl]
  ·have hq:runL st (d+1) s=([s],(st s).2):=by
    show (if (st s).2=0 then _ else _)=_
    rw[if_neg q]
   have hl:lastS st (d+1) s=s:=by
    show (if (st s).2=0 then _ else _)=_
    rw[if_neg q]
   show ((if (!decide ((st s).2=0))=true then some (Sum.inl (lastT s (st s).2,0)) else _)>>=_)=_
   rw[decide_eq_false q,if_pos (by decide),bsome,hq,hl]
theorem jU{s:al}(hs:G s){k:Nat}(hk:k<=40):dL.f l ⟨R⟩ s (k:Int)=some (lastS st k s,(runL st k s).2,0):=by
 unfold dL.f gj.f
 rw[K.one s hs,bsome,if_pos rfl,if_neg (by omega),bsome,decide_eq_false (show ¬(k:Int)>40 by omega),if_neg (by decide),bsome,if_pos rfl]
 unfold gh.f
 rw[bsome]
 show (bR.f (yOf dL.y0) (lastT s 0,0) (k:Int) l ⟨R⟩ s>>=_)=_
 have h:=last_l0 K (k:=k) (by omega) k 0 s (lastT s 0) hs (by omega)
 rw[show ((0:Nat):Int)=0 from rfl] at h
 have h2:bR.f (yOf dL.y0) (lastT s 0,0) (k:Int) l ⟨R⟩ s=some (lastT (lastS st k s) (runL st k s).2,0):=by
  refine Eq.trans ?_ h
  unfold bR.f
  refine congrArg (fun F=>bR.l0 (yOf dL.y0) (k:Int) l ⟨R⟩ s (lastT s 0,0) 0>>=F) (funext fun o=>?_)
  rcases o with r|⟨x22,x23⟩<;>rfl
 rw[h2,bsome,if_pos rfl];rfl
theorem run_far{s:al}(hs:G s){f:Int}(hf:f<0\/f>40):db.f l ⟨R⟩ s f=some ([],0,1)/\dL.f l ⟨R⟩ s f=some (nilS,0,1):=by
 have e:((if f<0 then (some true) else (some (decide (f>40))):Option Bool))=some true:=by
  by_cases q:f<0
  ·rw[if_pos q]
  ·rw[if_neg q,decide_eq_true (by omega)]
 unfold db.f dL.f gj.f
 rw[K.one s hs,bsome,if_pos rfl,e,bsome,if_pos rfl,bsome]
 exact⟨rfl,rfl⟩
end
theorem last_no{l:az} {U:List Nat}(h:Nm l U){R:List aW}(hF:Few R){s:al}(z:Sz s)(hm:mayO l U R s≠0)(k:Int):dL.f l ⟨R⟩ s k=some (nilS,0,mayO l U R s):=by
 unfold dL.f gj.f
 rw[one_no h hF z hm,bsome]
 show ((if mayO l U R s=0 then _ else some (mayO l U R s))>>=_)=_
 rw[if_neg hm,bsome,if_neg hm];rfl
end Go.Proofs.YtmjcpkmongafnaaGreatDoor.Ss
namespace Go.Proofs.YtmjcpkmongafnaaGreatDoor.Ss
open Go Go.Proofs.YtmjcpkmongafnaaGreatDoor.Ab Go.Proofs.YtmjcpkmongafnaaGreatDoor.TT
structure StepRef(l:az)(R:List aW)(st:al->al×Int)(G:al->Prop):Prop where
 ref:∀s,G s->dD.f l ⟨R⟩ s=some ⟨(st s).1,(st s).2⟩
theorem steps{l:az} {U:List Nat}(h:Nm l U){R:List aW}(hF:Few R)(hc:chk l U=0)(hT:(chT R).2=0):∃st,StepOk l R st (fun s=>rightS (l.Up.length:Int) s=true)/\StepRef l R st (fun s=>rightS (l.Up.length:Int) s=true):=by
 obtain⟨st,K⟩:=mv h hF hc hT
 refine⟨st,K,⟨fun s hs=>?_⟩⟩
 obtain⟨r,o,h1,h2,h3,h4⟩:=step_ref h hc hs hF hT
 have hm:mayO l U R s=0:=by unfold mayO;rw[if_pos hc,if_pos hT,if_pos hs]
 have e1:=one_yes h hF (rs_of hs).sz hm h1
 rw[K.one s hs] at e1
 have e2:=Option.some.inj e1
 have a1:(st s).1=(finD s r).1:=congrArg (fun x=>x.1) e2
 have a2:(st s).2=(finD s r).2:=congrArg (fun x=>x.2.1) e2
 rw[h2,a1,a2,h3,h4]
section
variable{l:az} {R:List aW} {st:al->al×Int} {G:al->Prop}(K:StepOk l R st G)(F:StepRef l R st G)
include K F
theorem ref_l0{k:Nat}(hk:k<=900):∀(d i:Nat) (s:al) (w:Int) (acc:List al),G s->k=i+d->acc.length<=i->(d=0->w=0)->
  (cO.l0 l ⟨R⟩ (k:Int) s w (acc++[s]) (i:Int)>>=fun o=>match o with|.inl r=>some r|.inr (x14,x15,x16)=>some (⟨x16,x15⟩:dU))=some ⟨acc++(runL st d s).1,(runL st d s).2⟩
 |0,i,s,w,acc,hs,e,ha,hw=>by
  rw[cO.l0,if_neg (by omega),bsome]
  show some (⟨acc++[s],w⟩:dU)=_
  rw[hw rfl];rfl
 |d+1,i,s,w,acc,hs,e,ha,hw=>by
  have hB:200000<=big:=by decide
  rw[cO.l0,if_pos (by omega),F.ref s hs,bsome]
  show ((if (st s).2=0 then (if ((acc++[s]).length+([(st s).1]:List al).length)*112<=big then cO.l0 l ⟨R⟩ (k:Int) (st s).1 (st s).2 ((acc++[s])++[(st s).1]) (IntKind.i64.wrap ((i:Int)+1)) else none) else some (Sum.inl (⟨acc++[s],(st s).2⟩:dU)))>>=_)=_
  by_cases q:(st s).2=0
  ·have hq:runL st (d+1) s=(s::(runL st d (st s).1).1,(runL st d (st s).1).2):=by
    show (if (st s).2=0 then _ else _)=_
    rw[if_pos q]
   rw[if_pos q,if_pos (by simp;omega),wS (by omega),ref_l0 hk d (i+1) (st s).1 _ (acc++[s]) (K.next s hs) (by omega) (by simp;omega) (fun _=>q),hq]
   simp
  ·have hq:runL st (d+1) s=([s],(st s).2):=by
    show (if (st s).2=0 then _ else _)=_
    rw[if_neg q]
   rw[if_neg q,bsome,hq]
theorem mw{s:al}(hs:G s){k:Nat}(hk:k<=40):cO.f l ⟨R⟩ s (k:Int)=some ⟨(runL st k s).1,(runL st k s).2⟩:=by
 unfold cO.f
 have h:=ref_l0 K F (k:=k) (by omega) k 0 s 0 [] hs (by omega) (Nat.le_refl _) (fun _=>rfl)
 rw[show ((0:Nat):Int)=0 from rfl] at h
 have hB:200000<=big:=by decide
 rw[if_pos (show (([]:List al).length+([s]:List al).length)*112<=big by simp;omega)]
 exact h
end
end Go.Proofs.YtmjcpkmongafnaaGreatDoor.Ss
namespace Go.Proofs.YtmjcpkmongafnaaGreatDoor.Ss
open Go Go.Proofs.YtmjcpkmongafnaaGreatDoor.Ab Go.Proofs.YtmjcpkmongafnaaGreatDoor.TT
theorem fM{α:Type} {xs:List α} {i:Nat}(h:i<xs.length):xs.drop i=xs[i]::xs.drop (i+1):=List.drop_eq_getElem_cons h
def eqB{α:Type}(f:α->α->Bool):List α->List α->Bool
 |[],[]=>true
 |x::xs,y::ys=>f x y&&eqB f xs ys
 |_,_=>false
section
variable{α β:Type} {f g:α->α->Bool}
theorem eqB_len:∀{xs ys:List α},eqB f xs ys=true->xs.length=ys.length
 |[],[],_=>rfl
 |x::xs,y::ys,h=>by
  unfold eqB at h
  rw[Bool.and_eq_true] at h
  simp[eqB_len h.2]
theorem eqB_ne{xs ys:List α}(h:xs.length≠ys.length):eqB f xs ys=false:=by
 cases q:eqB f xs ys with
 |false=>rfl
 |true=>exact absurd (eqB_len q) h
theorem loopE{L:Int->Option (Bool⊕Unit)} {xs ys:List α}(hl:xs.length=ys.length)(hn:L (xs.length:Int)=some (.inr ()))
  (hs:∀i (h:i<xs.length) (h':i<ys.length),L (i:Int)=if f xs[i] ys[i]=true then L ((i+1:Nat):Int) else some (.inl false)):L 0=some (if eqB f xs ys=true then .inr () else .inl false):=by
 have key:∀d i,xs.length=i+d->L (i:Int)=some (if eqB f (xs.drop i) (ys.drop i)=true then .inr () else .inl false):=by
  intro d
  induction d with
  |zero=>
   intro i e
   rw[List.drop_eq_nil_of_le (by omega),List.drop_eq_nil_of_le (by omega),show i=xs.length by omega,hn];rfl
  |succ d ih=>
   intro i e
   rw[hs i (by omega) (by omega),fM (show i<xs.length by omega),fM (show i<ys.length by omega)]
   unfold eqB
   cases q:f xs[i] ys[i] with
   |true=>rw[if_pos rfl,ih (i+1) (by omega),Bool.true_and]
   |false=>rw[if_neg (by decide),Bool.false_and,if_neg (by decide)]
 exact key xs.length 0 (by omega)
theorem loopF{L:List α->Int->Option (List α)} {p:α->Bool} {xs:List α}(hn:∀acc,L acc (xs.length:Int)=some acc)
  (hs:∀acc i (h:i<xs.length),acc.length<=i->L acc (i:Int)=if p xs[i]=true then L (acc++[xs[i]]) ((i+1:Nat):Int) else L acc ((i+1:Nat):Int)):L [] 0=some (xs.filter p):=by
 have key:∀d i acc,xs.length=i+d->acc.length<=i->L acc (i:Int)=some (acc++(xs.drop i).filter p):=by
  intro d
  induction d with
  |zero=>
   intro i acc e ha
   rw[List.drop_eq_nil_of_le (by omega),show i=xs.length by omega,hn];simp
  |succ d ih=>
   intro i acc e ha
   rw[hs acc i (by omega) ha,fM (show i<xs.length by omega)]
   cases q:p xs[i] with
   |true=>rw[if_pos rfl,ih (i+1) _ (by omega) (by simp;omega),List.filter_cons_of_pos q];simp
   |false=>rw[if_neg (by decide),ih (i+1) _ (by omega) (by omega),List.filter_cons_of_neg (by rw[q];decide)]
 exact key xs.length 0 [] (by omega) (Nat.le_refl _)
theorem loopM{L:List β->Int->Option (List β)} {g:α->β} {xs:List α} {M:Nat}(hn:∀acc,L acc (xs.length:Int)=some acc)
  (hs:∀acc i (h:i<xs.length),acc.length<=M+i->L acc (i:Int)=L (acc++[g xs[i]]) ((i+1:Nat):Int)) {acc:List β} (ha:acc.length<=M):L acc 0=some (acc++xs.map g):=by
 have key:∀d i acc,xs.length=i+d->acc.length<=M+i->L acc (i:Int)=some (acc++(xs.drop i).map g):=by
  intro d
  induction d with
  |zero=>
   intro i acc e ha
   rw[List.drop_eq_nil_of_le (by omega),show i=xs.length by omega,hn];simp
  |succ d ih=>
   intro i acc e ha
   rw[hs acc i (by omega) ha,fM (show i<xs.length by omega),ih (i+1) _ (by omega) (by simp;omega),List.map_cons,List.append_assoc];rfl
 exact key xs.length 0 acc (by omega) (by omega)
theorem idxG{L:Int->Option (Int⊕Unit)} {p:α->Bool} {xs:List α}(hn:L (xs.length:Int)=some (.inr ()))
  (hs:∀i (h:i<xs.length),L (i:Int)=if p xs[i]=true then some (.inl (i:Int)) else L ((i+1:Nat):Int)):
  (xs.filter (fun x=> !p x)=xs/\L 0=some (.inr ()))\/∃k,k<xs.length/\L 0=some (.inl (k:Int))/\xs.filter (fun x=> !p x)=xs.take k++(xs.drop (k+1)).filter (fun x=> !p x):=by
 have key:∀d i,xs.length=i+d->((xs.drop i).filter (fun x=> !p x)=xs.drop i/\L (i:Int)=some (.inr ()))\/
   ∃k,i<=k/\k<xs.length/\L (i:Int)=some (.inl (k:Int))/\(xs.drop i).filter (fun x=> !p x)=(xs.drop i).take (k-i)++(xs.drop (k+1)).filter (fun x=> !p x):=by
  intro d
  induction d with
  |zero=>
   intro i e
   refine .inl ⟨?_,?_⟩
   ·rw[List.drop_eq_nil_of_le (by omega)];rfl
   ·rw[show i=xs.length by omega,hn]
  |succ d ih=>
   intro i e
   have hi:i<xs.length:=by omega
   rw[hs i hi,fM hi]
   cases q:p xs[i] with
   |true=>
    refine .inr ⟨i,Nat.le_refl _,hi,?_,?_⟩
    ·rw[if_pos rfl]
    ·rw[Nat.sub_self,List.filter_cons_of_neg (by simp[q])];rfl
   |false=>
    rw[if_neg (by decide)]
    rcases ih (i+1) (by omega) with ⟨h1,h2⟩|⟨k,k1,k2,k3,k4⟩
    ·refine .inl ⟨?_,h2⟩
     rw[List.filter_cons_of_pos (by simp[q]),h1]
    ·refine .inr ⟨k,by omega,k2,k3,?_⟩
     rw[List.filter_cons_of_pos (by simp[q]),k4,show k-i=(k-(i+1))+1 by omega];rfl
 rcases key xs.length 0 (by omega) with h|⟨k,_,k2,k3,k4⟩
 ·exact .inl h
 ·exact .inr ⟨k,k2,k3,k4⟩
end
end Go.Proofs.YtmjcpkmongafnaaGreatDoor.Ss
namespace Go.Proofs.YtmjcpkmongafnaaGreatDoor.Ss
open Go Go.Proofs.YtmjcpkmongafnaaGreatDoor.Ab Go.Proofs.YtmjcpkmongafnaaGreatDoor.TT
def seeB(U:List Nat)(o a:Int):Bool:=le U a.toNat o.toNat
section
variable{l:az} {U:List Nat}(h:Nm l U)(hc:chk l U=0)
include h hc
theorem nM{a o:Int}(ha:inn U.length a=true)(ho:inn U.length o=true):eE.f l a o=some (seeB U o a,0):=by
 obtain⟨i,rfl,hi⟩:=jp ha
 obtain⟨j,rfl,hj⟩:=jp ho
 exact(yes2 h hc hi hj).1
theorem iD{a o:Int}(ha:inn U.length a=true)(ho:inn U.length o=true):bF.f ⟨l,o⟩ a=some (seeB U o a):=by
 unfold bF.f
 rw[nM h hc ha ho,bsome]
end
def atomE(U:List Nat)(o:Int)(x y:aG):Bool:=decide (x.L=y.L)&&(!seeB U o x.L||decide (x.V=y.V))
def slotE(U:List Nat)(o:Int)(x y:aF):Bool:=decide (x.Ret=y.Ret)&&(decide (x.L=y.L)&&(!seeB U o x.L||decide (x.V=y.V)))
def instrE(U:List Nat)(o:Int)(x y:aI):Bool:=(decide (x.Op=y.Op)&&(decide (x.Op=1)||decide (x.N=y.N)))&&(decide (x.L=y.L)&&(!seeB U o x.L||decide (x.N=y.N)))
theorem ef_instr{xs ys:List aI} {g:aI->aI->Option Bool} {f:aI->aI->Bool}(hx:xs.length<=1000)(hg:∀x∈xs,∀y∈ys,g x y=some (f x y)):aK.f xs ys g=some (eqB f xs ys):=by
 unfold aK.f
 by_cases hl:xs.length=ys.length
 ·rw[if_pos (by omega),loopE (f:=f) (L:=aK.l0 xs ys g) hl (by rw[aK.l0,if_neg (by omega)]) (fun i h h'=>by
   rw[aK.l0,if_pos (by omega),bo h,bsome,bo h',bsome,hg _ (List.getElem_mem h) _ (List.getElem_mem h'),bsome,wS (by omega)]
   cases f xs[i] ys[i]<;>rfl),bsome]
  cases eqB f xs ys<;>rfl
 ·rw[if_neg (by omega),eqB_ne hl]
section
variable{l:az} {U:List Nat}(h:Nm l U)(hc:chk l U=0){o:Int}(ho:inn U.length o=true)
include h hc ho
theorem one_instr{x y:aI}(ha:inn U.length x.L=true):dw.f x y ⟨some et.f,some eQ.f,some fc.f⟩ ⟨l,o⟩=some (instrE U o x y):=by
 have e:=iD h hc ha ho
 unfold dw.f instrE
 have e1:et.f x y=some (decide (x.Op=y.Op)&&(decide (x.Op=1)||decide (x.N=y.N))):=by
  unfold et.f
  by_cases p:x.Op=y.Op
  ·rw[if_pos p,decide_eq_true p]
   by_cases r:x.Op=1
   ·rw[if_pos r,decide_eq_true r];rfl
   ·rw[if_neg r,decide_eq_false r];rfl
  ·rw[if_neg p,decide_eq_false p];rfl
 show ((et.f x y>>=fun y17=>if y17=true then (some x.L>>=fun y20=>some y.L>>=fun y22=>if y20=y22 then (some x.L>>=fun y25=>bF.f ⟨l,o⟩ y25>>=fun y26=>if (!y26)=true then (some true) else (some (decide (x.N=y.N))>>=fun y29=>some y29)) else (some false)) else (some false):Option Bool)>>=fun x15=>some x15)=_
 rw[e1,bsome]
 cases (decide (x.Op=y.Op)&&(decide (x.Op=1)||decide (x.N=y.N))) with
 |true=>
  rw[if_pos rfl,bsome,bsome]
  by_cases q:x.L=y.L
  ·rw[if_pos q,bsome,e,bsome,decide_eq_true q]
   cases seeB U o x.L<;>rfl
  ·rw[if_neg q,decide_eq_false q];rfl
 |false=>rfl
theorem oC{xs ys:List aI}(hx:xs.length<=1000)(ha:∀x∈xs,inn U.length x.L=true){k:eK}(hk:dW.f=some k):dy.f ⟨l,o⟩ k xs ys=some (eqB (instrE U o) xs ys):=by
 obtain rfl:=Option.some.inj hk
 unfold dy.f
 rw[ef_instr (f:=instrE U o) hx (fun x hxm y _=>one_instr h hc ho (ha x hxm)),bsome]
end
theorem ef_atom{xs ys:List aG} {g:aG->aG->Option Bool} {f:aG->aG->Bool}(hx:xs.length<=1000)(hg:∀x∈xs,∀y∈ys,g x y=some (f x y)):aN.f xs ys g=some (eqB f xs ys):=by
 unfold aN.f
 by_cases hl:xs.length=ys.length
 ·rw[if_pos (by omega),loopE (f:=f) (L:=aN.l0 xs ys g) hl (by rw[aN.l0,if_neg (by omega)]) (fun i h h'=>by
   rw[aN.l0,if_pos (by omega),bo h,bsome,bo h',bsome,hg _ (List.getElem_mem h) _ (List.getElem_mem h'),bsome,wS (by omega)]
   cases f xs[i] ys[i]<;>rfl),bsome]
  cases eqB f xs ys<;>rfl
 ·rw[if_neg (by omega),eqB_ne hl]
section
variable{l:az} {U:List Nat}(h:Nm l U)(hc:chk l U=0){o:Int}(ho:inn U.length o=true)
include h hc ho
theorem one_atom{x y:aG}(ha:inn U.length x.L=true):dM.f x y ⟨some gl.f,some f7.f,some gm.f⟩ ⟨l,o⟩=some (atomE U o x y):=by
 have e:=iD h hc ha ho
 unfold dM.f atomE
 show ((some x.L>>=fun y20=>some y.L>>=fun y22=>if y20=y22 then (some x.L>>=fun y25=>bF.f ⟨l,o⟩ y25>>=fun y26=>if (!y26)=true then (some true) else (some (decide (x.V=y.V))>>=fun y29=>some y29)) else (some false):Option Bool)>>=fun x15=>some x15)=_
 rw[bsome,bsome]
 by_cases q:x.L=y.L
 ·rw[if_pos q,bsome,e,bsome,decide_eq_true q]
  cases seeB U o x.L<;>rfl
 ·rw[if_neg q,decide_eq_false q];rfl
theorem oX{xs ys:List aG}(hx:xs.length<=1000)(ha:∀x∈xs,inn U.length x.L=true){k:eL}(hk:fO.f=some k):eu.f ⟨l,o⟩ k xs ys=some (eqB (atomE U o) xs ys):=by
 obtain rfl:=Option.some.inj hk
 unfold eu.f
 rw[ef_atom (f:=atomE U o) hx (fun x hxm y _=>one_atom h hc ho (ha x hxm)),bsome]
end
theorem ef_slot{xs ys:List aF} {g:aF->aF->Option Bool} {f:aF->aF->Bool}(hx:xs.length<=1000)(hg:∀x∈xs,∀y∈ys,g x y=some (f x y)):aO.f xs ys g=some (eqB f xs ys):=by
 unfold aO.f
 by_cases hl:xs.length=ys.length
 ·rw[if_pos (by omega),loopE (f:=f) (L:=aO.l0 xs ys g) hl (by rw[aO.l0,if_neg (by omega)]) (fun i h h'=>by
   rw[aO.l0,if_pos (by omega),bo h,bsome,bo h',bsome,hg _ (List.getElem_mem h) _ (List.getElem_mem h'),bsome,wS (by omega)]
   cases f xs[i] ys[i]<;>rfl),bsome]
  cases eqB f xs ys<;>rfl
 ·rw[if_neg (by omega),eqB_ne hl]
section
variable{l:az} {U:List Nat}(h:Nm l U)(hc:chk l U=0){o:Int}(ho:inn U.length o=true)
include h hc ho
theorem one_slot{x y:aF}(ha:inn U.length x.L=true):dN.f x y ⟨some gn.f,some f8.f,some gp.f⟩ ⟨l,o⟩=some (slotE U o x y):=by
 have e:=iD h hc ha ho
 unfold dN.f slotE
 show ((some (decide (x.Ret=y.Ret))>>=fun y17=>if y17=true then (some x.L>>=fun y20=>some y.L>>=fun y22=>if y20=y22 then (some x.L>>=fun y25=>bF.f ⟨l,o⟩ y25>>=fun y26=>if (!y26)=true then (some true) else (some (decide (x.V=y.V))>>=fun y29=>some y29)) else (some false)) else (some false):Option Bool)>>=fun x15=>some x15)=_
 rw[bsome]
 by_cases r:x.Ret=y.Ret
 ·rw[decide_eq_true r,if_pos rfl,bsome,bsome]
  by_cases q:x.L=y.L
  ·rw[if_pos q,bsome,e,bsome,decide_eq_true q]
   cases seeB U o x.L<;>rfl
  ·rw[if_neg q,decide_eq_false q];rfl
 ·rw[decide_eq_false r];rfl
theorem lU{xs ys:List aF}(hx:xs.length<=1000)(ha:∀x∈xs,inn U.length x.L=true){k:eM}(hk:fD.f=some k):dP.f ⟨l,o⟩ k xs ys=some (eqB (slotE U o) xs ys):=by
 obtain rfl:=Option.some.inj hk
 unfold dP.f
 rw[ef_slot (f:=slotE U o) hx (fun x hxm y _=>one_slot h hc ho (ha x hxm)),bsome]
end
theorem jz{g:al->Option Bool} {p:al->Bool}(ys:List al)(hg:∀x∈ys,g x=some (p x)):∀(d i w:Nat) (v:List al),v.length=i+d->w<i->v.length<=1000->(∀x∈v.drop i,x∈ys)->
  ∃v' w':_,aR.l0 g v (w:Int) (i:Int)=some (v',((w':Nat):Int))/\v'.length=v.length/\w'<=v.length/\v'.take w'=v.take w++(v.drop i).filter (fun x=> !p x)
 |0,i,w,v,e,hw,hl,hm=>by
  refine⟨v,w,?_,rfl,by omega,?_⟩
  ·rw[aR.l0,if_neg (by omega)]
  ·rw[List.drop_eq_nil_of_le (by omega)];simp
 |d+1,i,w,v,e,hw,hn,hm=>by
  have hi:i<v.length:=by omega
  have hx:v[i]∈ys:=hm _ (by rw[fM hi];exact List.mem_cons_self)
  have ht:∀x∈v.drop (i+1),x∈ys:=fun x h=>hm x (by rw[fM hi];exact List.mem_cons_of_mem _ h)
  cases q:p v[i] with
  |true=>
   obtain⟨v',w',a1,a2,a3,a4⟩:=jz ys hg d (i+1) w v (by omega) (by omega) hn ht
   refine⟨v',w',?_,a2,a3,?_⟩
   ·rw[aR.l0,if_pos (by omega),bo hi,bsome,hg _ hx,bsome,q,if_neg (by decide),bsome]
    show aR.l0 g v (w:Int) (IntKind.i64.wrap ((i:Int)+1))=_
    rw[wS (by omega),a1]
   ·rw[a4,fM hi,List.filter_cons_of_neg (by simp[q])]
  |false=>
   have hd:(v.set w v[i]).drop (i+1)=v.drop (i+1):=by rw[List.drop_set_of_lt (by omega)]
   obtain⟨v',w',a1,a2,a3,a4⟩:=jz ys hg d (i+1) (w+1) (v.set w v[i]) (by rw[List.length_set];omega) (by omega) (by rw[List.length_set];omega) (by rw[hd];exact ht)
   rw[List.length_set] at a2 a3
   refine⟨v',w',?_,a2,a3,?_⟩
   ·rw[aR.l0,if_pos (by omega),bo hi,bsome,hg _ hx,bsome,q,if_pos (by decide),bo (show w<v.length by omega),bsome,bsome]
    show aR.l0 g (v.set (w:Int).toNat v[i]) (IntKind.i64.wrap ((w:Int)+1)) (IntKind.i64.wrap ((i:Int)+1))=_
    rw[wS (by omega),wS (by omega),Int.toNat_natCast,a1]
   ·rw[a4,hd,fM hi,List.filter_cons_of_pos (by simp[q]),List.take_succ_eq_append_getElem (by rw[List.length_set];omega),List.getElem_set_self,List.take_set_of_le (Nat.le_refl _)];simp
theorem del_state{xs:List al} {g:al->Option Bool} {p:al->Bool}(hx:xs.length<=1000)(hg:∀x∈xs,g x=some (p x)):aR.f xs g=some (xs.filter (fun x=> !p x)):=by
 unfold aR.f ba.f
 rcases idxG (xs:=xs) (L:=ba.l0 xs g) (p:=p) (by rw[ba.l0,if_neg (by omega)]) (fun i hi=>by
  rw[ba.l0,if_pos (by omega),bo hi,bsome,hg _ (List.getElem_mem hi),bsome,wS (by omega)]) with ⟨h1,h2⟩|⟨k,k2,k3,k4⟩
 ·rw[h2,bsome]
  show ((some (-1):Option Int)>>=_)=_
  rw[bsome,if_pos rfl,h1]
 ·rw[k3,bsome]
  show ((some (k:Int):Option Int)>>=_)=_
  rw[bsome,if_neg (by omega),wS (by omega)]
  obtain⟨v',w',a1,a2,a3,a4⟩:=jz (p:=p) xs hg (xs.length-(k+1)) (k+1) k xs (by omega) (by omega) hx (fun x h=>List.mem_of_mem_drop h)
  rw[a1,bsome]
  show (if (0:Int)<=(w':Int)/\(w':Int)<=(v'.length:Int) then _ else none)=_
  rw[if_pos (by omega),Int.toNat_natCast]
  have hl:(v'.take w'++List.replicate (v'.length-w') (⟨⟨0,0⟩,[],[],[],[]⟩:al)).length=v'.length:=by simp;omega
  rw[if_pos (by rw[hl];omega),List.take_append_of_le_length (by simp;omega),List.take_of_length_le (by simp;omega),a4,k4]
theorem jR{g:aG->Option Bool} {p:aG->Bool}(ys:List aG)(hg:∀x∈ys,g x=some (p x)):∀(d i w:Nat) (v:List aG),v.length=i+d->w<i->v.length<=1000->(∀x∈v.drop i,x∈ys)->
  ∃v' w':_,aQ.l0 g v (w:Int) (i:Int)=some (v',((w':Nat):Int))/\v'.length=v.length/\w'<=v.length/\v'.take w'=v.take w++(v.drop i).filter (fun x=> !p x)
 |0,i,w,v,e,hw,hl,hm=>by
  refine⟨v,w,?_,rfl,by omega,?_⟩
  ·rw[aQ.l0,if_neg (by omega)]
  ·rw[List.drop_eq_nil_of_le (by omega)];simp
 |d+1,i,w,v,e,hw,hn,hm=>by
  have hi:i<v.length:=by omega
  have hx:v[i]∈ys:=hm _ (by rw[fM hi];exact List.mem_cons_self)
  have ht:∀x∈v.drop (i+1),x∈ys:=fun x h=>hm x (by rw[fM hi];exact List.mem_cons_of_mem _ h)
  cases q:p v[i] with
  |true=>
   obtain⟨v',w',a1,a2,a3,a4⟩:=jR ys hg d (i+1) w v (by omega) (by omega) hn ht
   refine⟨v',w',?_,a2,a3,?_⟩
   ·rw[aQ.l0,if_pos (by omega),bo hi,bsome,hg _ hx,bsome,q,if_neg (by decide),bsome]
    show aQ.l0 g v (w:Int) (IntKind.i64.wrap ((i:Int)+1))=_
    rw[wS (by omega),a1]
   ·rw[a4,fM hi,List.filter_cons_of_neg (by simp[q])]
  |false=>
   have hd:(v.set w v[i]).drop (i+1)=v.drop (i+1):=by rw[List.drop_set_of_lt (by omega)]
   obtain⟨v',w',a1,a2,a3,a4⟩:=jR ys hg d (i+1) (w+1) (v.set w v[i]) (by rw[List.length_set];omega) (by omega) (by rw[List.length_set];omega) (by rw[hd];exact ht)
   rw[List.length_set] at a2 a3
   refine⟨v',w',?_,a2,a3,?_⟩
   ·rw[aQ.l0,if_pos (by omega),bo hi,bsome,hg _ hx,bsome,q,if_pos (by decide),bo (show w<v.length by omega),bsome,bsome]
    show aQ.l0 g (v.set (w:Int).toNat v[i]) (IntKind.i64.wrap ((w:Int)+1)) (IntKind.i64.wrap ((i:Int)+1))=_
    rw[wS (by omega),wS (by omega),Int.toNat_natCast,a1]
   ·rw[a4,hd,fM hi,List.filter_cons_of_pos (by simp[q]),List.take_succ_eq_append_getElem (by rw[List.length_set];omega),List.getElem_set_self,List.take_set_of_le (Nat.le_refl _)];simp
theorem nN{xs:List aG} {g:aG->Option Bool} {p:aG->Bool}(hx:xs.length<=1000)(hg:∀x∈xs,g x=some (p x)):aQ.f xs g=some (xs.filter (fun x=> !p x)):=by
 unfold aQ.f aV.f
 rcases idxG (xs:=xs) (L:=aV.l0 xs g) (p:=p) (by rw[aV.l0,if_neg (by omega)]) (fun i hi=>by
  rw[aV.l0,if_pos (by omega),bo hi,bsome,hg _ (List.getElem_mem hi),bsome,wS (by omega)]) with ⟨h1,h2⟩|⟨k,k2,k3,k4⟩
 ·rw[h2,bsome]
  show ((some (-1):Option Int)>>=_)=_
  rw[bsome,if_pos rfl,h1]
 ·rw[k3,bsome]
  show ((some (k:Int):Option Int)>>=_)=_
  rw[bsome,if_neg (by omega),wS (by omega)]
  obtain⟨v',w',a1,a2,a3,a4⟩:=jR (p:=p) xs hg (xs.length-(k+1)) (k+1) k xs (by omega) (by omega) hx (fun x h=>List.mem_of_mem_drop h)
  rw[a1,bsome]
  show (if (0:Int)<=(w':Int)/\(w':Int)<=(v'.length:Int) then _ else none)=_
  rw[if_pos (by omega),Int.toNat_natCast]
  have hl:(v'.take w'++List.replicate (v'.length-w') (⟨0,0⟩:aG)).length=v'.length:=by simp;omega
  rw[if_pos (by rw[hl];omega),List.take_append_of_le_length (by simp;omega),List.take_of_length_le (by simp;omega),a4,k4]
theorem oD{xs ys:List aG}(hx:xs.length<=1000):bt.f xs ys=some (eqB (fun x y=>decide (x=y)) xs ys):=by
 unfold bt.f
 by_cases hl:xs.length=ys.length
 ·rw[if_pos (by omega),loopE (f:=fun x y=>decide (x=y)) (L:=bt.l0 xs ys) hl (by rw[bt.l0,if_neg (by omega)]) (fun i h h'=>by
   rw[bt.l0,if_pos (by omega),bo h,bsome,bo h',bsome,wS (by omega)]
   by_cases q:xs[i]=ys[i]
   ·rw[if_pos q,decide_eq_true q,if_pos rfl]
   ·rw[if_neg q,decide_eq_false q,if_neg (by decide)]),bsome]
  cases eqB (fun x y=>decide (x=y)) xs ys<;>rfl
 ·rw[if_neg (by omega),eqB_ne hl]
end Go.Proofs.YtmjcpkmongafnaaGreatDoor.Ss
namespace Go.Proofs.YtmjcpkmongafnaaGreatDoor.Ss
open Go Go.Proofs.YtmjcpkmongafnaaGreatDoor.Ab Go.Proofs.YtmjcpkmongafnaaGreatDoor.TT
theorem w01:IntKind.i64.wrap (0+1)=1:=by decide
theorem w12:IntKind.i64.wrap (1+1)=2:=by decide
theorem w23:IntKind.i64.wrap (2+1)=3:=by decide
theorem w34:IntKind.i64.wrap (3+1)=4:=by decide
theorem lV{xs:List aI} {acc:List Int}(hx:xs.length<=1000)(ha:acc.length<=10000){k:eK}(hk:dW.f=some k):bi.l3 k xs acc 0=some (acc++xs.map (·.L)):=by
 obtain rfl:=Option.some.inj hk
 have hB:200000<=big:=by decide
 exact loopM (M:=10000) (L:=fun a i=>bi.l3 _ xs a i) (g:=fun x:aI=>x.L) (fun a=>by
  show bi.l3 _ xs a _=_
  rw[bi.l3,if_neg (by omega)]) (fun a i h q=>by
  show bi.l3 _ xs a _=bi.l3 _ xs (a++[xs[i].L]) _
  rw[bi.l3,if_pos (by omega),bo h,bsome]
  show ((some eQ.f:Option (aI->Option Int))>>=_)=_
  rw[bsome]
  show ((some xs[i].L:Option Int)>>=_)=_
  rw[bsome,if_pos (by simp;omega),wS (by omega)]) ha
theorem lab_instr{a b:List aI}(ha:a.length<=1000)(hb:b.length<=1000){k:eK}(hk:dW.f=some k):bi.f k [a,b]=some (a.map (·.L)++b.map (·.L)):=by
 unfold bi.f
 rw[bi.l2,if_pos (by simp),show lAt [a,b] 0=some a from rfl,bsome,lV ha (by simp) hk,bsome,w01,bi.l2,if_pos (by simp),show lAt [a,b] 1=some b from rfl,bsome,lV hb (by simp;omega) hk,bsome,w12,bi.l2,if_neg (by simp)];rfl
theorem jM{xs:List aG} {acc:List Int}(hx:xs.length<=1000)(ha:acc.length<=10000){k:eL}(hk:fO.f=some k):bg.l3 k xs acc 0=some (acc++xs.map (·.L)):=by
 obtain rfl:=Option.some.inj hk
 have hB:200000<=big:=by decide
 exact loopM (M:=10000) (L:=fun a i=>bg.l3 _ xs a i) (g:=fun x:aG=>x.L) (fun a=>by
  show bg.l3 _ xs a _=_
  rw[bg.l3,if_neg (by omega)]) (fun a i h q=>by
  show bg.l3 _ xs a _=bg.l3 _ xs (a++[xs[i].L]) _
  rw[bg.l3,if_pos (by omega),bo h,bsome]
  show ((some f7.f:Option (aG->Option Int))>>=_)=_
  rw[bsome]
  show ((some xs[i].L:Option Int)>>=_)=_
  rw[bsome,if_pos (by simp;omega),wS (by omega)]) ha
theorem mZ{xs:List aF} {acc:List Int}(hx:xs.length<=1000)(ha:acc.length<=10000){k:eM}(hk:fD.f=some k):bk.l3 k xs acc 0=some (acc++xs.map (·.L)):=by
 obtain rfl:=Option.some.inj hk
 have hB:200000<=big:=by decide
 exact loopM (M:=10000) (L:=fun a i=>bk.l3 _ xs a i) (g:=fun x:aF=>x.L) (fun a=>by
  show bk.l3 _ xs a _=_
  rw[bk.l3,if_neg (by omega)]) (fun a i h q=>by
  show bk.l3 _ xs a _=bk.l3 _ xs (a++[xs[i].L]) _
  rw[bk.l3,if_pos (by omega),bo h,bsome]
  show ((some f8.f:Option (aF->Option Int))>>=_)=_
  rw[bsome]
  show ((some xs[i].L:Option Int)>>=_)=_
  rw[bsome,if_pos (by simp;omega),wS (by omega)]) ha
theorem lab_slot{a b:List aF}(ha:a.length<=1000)(hb:b.length<=1000){k:eM}(hk:fD.f=some k):bk.f k [a,b]=some (a.map (·.L)++b.map (·.L)):=by
 unfold bk.f
 rw[bk.l2,if_pos (by simp),show lAt [a,b] 0=some a from rfl,bsome,mZ ha (by simp) hk,bsome,w01,bk.l2,if_pos (by simp),show lAt [a,b] 1=some b from rfl,bsome,mZ hb (by simp;omega) hk,bsome,w12,bk.l2,if_neg (by simp)];rfl
theorem lab4_atom{a b c d:List aG}(ha:a.length<=1000)(hb:b.length<=1000)(hc:c.length<=1000)(hd:d.length<=1000){k:eL}(hk:fO.f=some k):bg.f k [a,b,c,d]=some (a.map (·.L)++b.map (·.L)++c.map (·.L)++d.map (·.L)):=by
 unfold bg.f
 rw[bg.l2,if_pos (by simp),show lAt [a,b,c,d] 0=some a from rfl,bsome,jM ha (by simp) hk,bsome,w01,bg.l2,if_pos (by simp),show lAt [a,b,c,d] 1=some b from rfl,bsome,jM hb (by simp;omega) hk,bsome,w12,bg.l2,if_pos (by simp),show lAt [a,b,c,d] 2=some c from rfl,bsome,jM hc (by simp;omega) hk,bsome,w23,bg.l2,if_pos (by simp),show lAt [a,b,c,d] 3=some d from rfl,bsome,jM hd (by simp;omega) hk,bsome,w34,bg.l2,if_neg (by simp)];rfl
theorem nO{xss:List (List Int)}(h:∀x∈xss,x.length<=1000):xss.flatten.length<=xss.length*1000:=by
 induction xss with
 |nil=>simp
 |cons a r ih=>
  have ha:=h a (by simp)
  have:=ih (fun x hx=>h x (by simp[hx]))
  simp only[List.flatten_cons,List.length_append,List.length_cons,Nat.succ_mul]
  omega
theorem lX{xss:List (List Int)}(hn:xss.length<=100)(h:∀x∈xss,x.length<=1000):∀(d k:Nat) (v:Nat),xss.length=k+d->v<=k*1000->bp.l0 xss (k:Int) (v:Int)=some ((v+(xss.drop k).flatten.length:Nat):Int)
 |0,k,v,e,hv=>by
  rw[bp.l0,if_neg (by omega),List.drop_of_length_le (by omega)];simp
 |d+1,k,v,e,hv=>by
  have hk:k<xss.length:=by omega
  have hx:=h xss[k] (List.getElem_mem hk)
  have ih:=lX hn h d (k+1) (v+xss[k].length) (by omega) (by rw[Nat.succ_mul];omega)
  have hw:IntKind.i64.wrap ((v:Int)+(xss[k].length:Int))=((v+xss[k].length:Nat):Int):=by rw[wrapZ (by omega) (by omega)];omega
  rw[bp.l0,if_pos (by omega),bo hk,bsome,hw,if_neg (by omega),bsome,wS (by omega),ih,List.drop_eq_getElem_cons hk]
  simp only[List.flatten_cons,List.length_append]
  rw[Nat.add_assoc]
theorem lY{xss:List (List Int)}(hn:xss.length<=100)(h:∀x∈xss,x.length<=1000):∀(d k:Nat) (v:List Int),xss.length=k+d->v.length<=k*1000->bp.l1 xss v (k:Int)=some (v++(xss.drop k).flatten)
 |0,k,v,e,hv=>by
  rw[bp.l1,if_neg (by omega),List.drop_of_length_le (by omega)];simp
 |d+1,k,v,e,hv=>by
  have hk:k<xss.length:=by omega
  have hx:=h xss[k] (List.getElem_mem hk)
  have hB:10000000<=big:=by decide
  have ih:=lY hn h d (k+1) (v++xss[k]) (by omega) (by rw[Nat.succ_mul];simp;omega)
  rw[bp.l1,if_pos (by omega),bo hk,bsome,if_pos (by omega),wS (by omega),ih,List.drop_eq_getElem_cons hk]
  simp only[List.flatten_cons,List.append_assoc]
theorem grow_eqI{n:Nat}(h:n<=100000):eX.f (n:Int)=some []:=by
 unfold eX.f
 have h1:IntKind.i64.wrap (0-(([]:List Int).length:Int))=0:=by decide
 have h2:IntKind.i64.wrap ((n:Int)-0)=(n:Int):=by rw[wrapZ (by omega) (by omega)];omega
 have hB:10000000<=big:=by decide
 rw[if_neg (by omega),h1,h2]
 by_cases h0:(n:Int)>0
 ·rw[if_pos h0,if_pos ⟨h0,by simp;omega⟩,if_pos ⟨by simp,by simp⟩];rfl
 ·rw[if_neg h0]
theorem oY{xss:List (List Int)}(hn:xss.length<=100)(h:∀x∈xss,x.length<=1000):bp.f xss=some xss.flatten:=by
 unfold bp.f
 have h1:=lX hn h xss.length 0 0 (by omega) (by omega)
 have h2:=lY hn h xss.length 0 [] (by omega) (by simp)
 have h3:=nO h
 have h4:xss.length*1000<=100*1000:=Nat.mul_le_mul_right _ hn
 rw[show ((0:Nat):Int)=0 from rfl,List.drop_zero,Nat.zero_add] at h1
 rw[show ((0:Nat):Int)=0 from rfl,List.drop_zero,List.nil_append] at h2
 rw[h1,bsome,grow_eqI (by omega),bsome,h2,bsome]
def keepN(p:Nat->Bool):Nat->Nat
 |0=>0
 |k+1=>if p k=true then k+1 else keepN p k
theorem keepN_le{p:Nat->Bool}:∀k,keepN p k<=k
 |0=>Nat.le_refl _
 |k+1=>by
  unfold keepN
  by_cases h:p k=true
  ·rw[if_pos h];exact Nat.le_refl _
  ·rw[if_neg h];have:=keepN_le (p:=p) k;omega
def retB(U:List Nat)(o:Int)(S:List aF)(i:Nat):Bool:=(S.getD i ⟨false,0,0⟩).Ret&&seeB U o (S.getD i ⟨false,0,0⟩).L
def cropL(U:List Nat)(o:Int)(S:List aF):List aF:=S.take (keepN (retB U o S) S.length)
section
variable{l:az} {U:List Nat}(h0:Nm l U)(hc:chk l U=0){o:Int}(ho:inn U.length o=true)
include h0 hc ho
theorem crop_l0{S:List aF}(hx:S.length<=1000)(ha:∀x∈S,inn U.length x.L=true):∀k,k<=S.length->ez.l0 ⟨l,o⟩ S ((k:Int)-1)=some (if 0<keepN (retB U o S) k then .inl (S.take (keepN (retB U o S) k)) else .inr ())
 |0,_=>by
  rw[ez.l0,if_neg (by omega)];rfl
 |k+1,hk=>by
  have hi:k<S.length:=by omega
  have eg:S.getD k ⟨false,0,0⟩=S[k]:=by simp[hi]
  have e1:((if S[k].Ret=true then (lAt S (k:Int)>>=fun y34=>bF.f ⟨l,o⟩ y34.L>>=fun y35=>some y35) else (some false):Option Bool))=some (retB U o S k):=by
   unfold retB
   rw[eg,bo hi,bsome,iD h0 hc (ha _ (List.getElem_mem hi)) ho,bsome]
   cases S[k].Ret<;>rfl
  rw[ez.l0,if_pos (by omega),show (((k+1:Nat):Int)-1)=(k:Int) by omega,bo hi,bsome,<-bo hi]
  show ((if S[k].Ret=true then (lAt S (k:Int)>>=fun y34=>bF.f ⟨l,o⟩ y34.L>>=fun y35=>some y35) else (some false):Option Bool)>>=_)=_
  rw[e1,bsome]
  cases q:retB U o S k with
  |true=>
   rw[if_pos rfl,wS (by omega),if_pos (by omega),show keepN (retB U o S) (k+1)=k+1 from if_pos q,if_pos (by omega),lCut0]
  |false=>
   rw[if_neg ff,show keepN (retB U o S) (k+1)=keepN (retB U o S) k from if_neg (by rw[q];decide),wrapZ (by omega) (by omega)]
   exact crop_l0 hx ha k (by omega)
theorem crop_p{S:List aF}(hx:S.length<=1000)(ha:∀x∈S,inn U.length x.L=true):ez.f ⟨l,o⟩ S=some (cropL U o S):=by
 unfold ez.f cropL
 rw[wrapZ (by omega) (by omega),crop_l0 h0 hc ho hx ha S.length (Nat.le_refl _),bsome]
 by_cases q:0<keepN (retB U o S) S.length
 ·rw[if_pos q]
 ·rw[if_neg q,show keepN (retB U o S) S.length=0 by omega];rfl
end
end Go.Proofs.YtmjcpkmongafnaaGreatDoor.Ss
namespace Go.Proofs.YtmjcpkmongafnaaGreatDoor.Ss
open Go Go.Proofs.YtmjcpkmongafnaaGreatDoor.Ab Go.Proofs.YtmjcpkmongafnaaGreatDoor.TT
structure LabsA(U:List Nat)(s:al):Prop where
 code:∀x∈s.Code,inn U.length x.L=true
 mem:∀x∈s.Mem,inn U.length x.L=true
 out:∀x∈s.Out,inn U.length x.L=true
 stack:∀x∈s.Stack,inn U.length x.L=true
 pc:inn U.length s.Pc.L=true
theorem okA_l{n:Nat} {xs:List aG}(h:xs.all (okA (n:Int))=true):∀x∈xs,inn n x.L=true:=fun x hx=>by
 have:=List.all_eq_true.1 h x hx
 unfold okA at this
 rw[Bool.and_eq_true] at this
 exact hZ this.2
theorem labsA{l:az} {U:List Nat}(h:Nm l U)(hc:chk l U=0){s:al}(hr:rightS (l.Up.length:Int) s=true):LabsA U s:=by
 have hp:=(gi hc).1.pos
 have L:=mu hr
 have z:=rs_of hr
 have ho:=hr
 unfold rightS at ho
 rw[Bool.and_eq_true] at ho
 have ho:=ho.2
 rw[h.n] at hr ho L z
 refine⟨fun x hx=>?_,fun x hx=>hZ (L.me x hx),okA_l ho,fun x hx=>hZ (L.st x hx),hZ L.pc⟩
 have hi:=z.ins x hx
 by_cases q:x.Op=1
 ·exact hZ (ins_l hi q)
 ·unfold insB at hi
  rw[if_neg q] at hi
  have:=(of_decide_eq_true hi).2.2.1
  rw[this]
  exact jb (k:=0) (by omega)
def outL(U:List Nat)(o:Int)(xs:List aG):List aG:=xs.filter fun x=>seeB U o x.L
def stB(U:List Nat)(o:Int)(a b:al):Bool:=
 eqB (instrE U o) a.Code b.Code&&(eqB (atomE U o) a.Mem b.Mem&&(eqB (fun x y=>decide (x=y)) (outL U o a.Out) (outL U o b.Out)&&
  (if seeB U o a.Pc.L=true then (if seeB U o b.Pc.L=true then decide (a.Pc=b.Pc)&&eqB (slotE U o) a.Stack b.Stack else false)
  else (if seeB U o b.Pc.L=true then false else eqB (slotE U o) (cropL U o a.Stack) (cropL U o b.Stack)))))
theorem nP{U:List Nat} {o:Int} {S:List aF} {x:aF}(h:x∈cropL U o S):x∈S:=List.mem_of_mem_take h
theorem nQ{U:List Nat} {o:Int} {S:List aF}:(cropL U o S).length<=S.length:=by unfold cropL;simp;omega
section
variable{l:az} {U:List Nat}(h:Nm l U)(hc:chk l U=0){o:Int}
include h hc
theorem may_p{xs:List Int}(hx:xs.length<=1000):gE.f l xs=some (if xs.any (fun a=> !inn U.length a)=true then 9 else 0):=by
 unfold gE.f
 rw[iT h,bsome,if_pos hc,jA (p:=fun a=> !inn U.length a) (fun x=>by
  unfold gN.f inn
  rw[h.n]
  by_cases q:x<0
  ·rw[if_pos q,bsome,decide_eq_false (show ¬0<=x by omega)];rfl
  ·rw[if_neg q,bsome,decide_eq_true (show 0<=x by omega)]
   by_cases r:x<(U.length:Int)
   ·rw[decide_eq_true r,decide_eq_false (by omega)];rfl
   ·rw[decide_eq_false r,decide_eq_true (by omega)];rfl) hx,bsome]
 cases xs.any (fun a=> !inn U.length a)<;>rfl
theorem outs_p(ho:inn U.length o=true){xs ys:List aG}(hx:xs.length<=1000)(hy:ys.length<=1000)(ax:∀x∈xs,inn U.length x.L=true)(ay:∀x∈ys,inn U.length x.L=true):
  gz.f ⟨l,o⟩ xs ys=some (eqB (fun x y=>decide (x=y)) (outL U o xs) (outL U o ys)):=by
 have g:∀{zs:List aG},(∀x∈zs,inn U.length x.L=true)->∀x∈zs,(fun z0=>fp.f z0 (⟨l,o⟩:bY)) x=some (!seeB U o x.L):=fun hz x hx=>by
  show fp.f x _=_
  unfold fp.f
  rw[iD h hc (hz x hx) ho,bsome]
 have e:∀zs:List aG,zs.filter (fun x=> !(!seeB U o x.L))=outL U o zs:=fun zs=>by simp only[Bool.not_not,outL]
 have lx:(outL U o xs).length<=xs.length:=List.length_filter_le _ _
 unfold gz.f
 rw[jo hx,bsome,nN (p:=fun x=> !seeB U o x.L) hx (g ax),bsome,jo hy,bsome,nN (p:=fun x=> !seeB U o x.L) hy (g ay),bsome,e,e,oD (by omega),bsome]
theorem labs_any{a b:al}(A:LabsA U a)(B:LabsA U b):
  ([[o,a.Pc.L,b.Pc.L],a.Code.map (·.L)++b.Code.map (·.L),a.Mem.map (·.L)++b.Mem.map (·.L)++a.Out.map (·.L)++b.Out.map (·.L),a.Stack.map (·.L)++b.Stack.map (·.L)]:List (List Int)).flatten.any (fun x=> !inn U.length x)= !inn U.length o:=by
 cases ho:inn U.length o with
 |false=>
  refine List.any_eq_true.2 ⟨o,?_,?_⟩
  ·simp
  ·rw[ho];rfl
 |true=>
  refine List.any_eq_false.2 fun x hx=>?_
  have key:inn U.length x=true:=by
   simp only[List.flatten_cons,List.flatten_nil,List.mem_append,List.mem_cons,List.mem_map,List.not_mem_nil,or_false] at hx
   rcases hx with (rfl|rfl|rfl)|(⟨y,hy,rfl⟩|⟨y,hy,rfl⟩)|(((⟨y,hy,rfl⟩|⟨y,hy,rfl⟩)|⟨y,hy,rfl⟩)|⟨y,hy,rfl⟩)|(⟨y,hy,rfl⟩|⟨y,hy,rfl⟩)
   ·exact ho
   ·exact A.pc
   ·exact B.pc
   ·exact A.code y hy
   ·exact B.code y hy
   ·exact A.mem y hy
   ·exact B.mem y hy
   ·exact A.out y hy
   ·exact B.out y hy
   ·exact A.stack y hy
   ·exact B.stack y hy
  rw[key];decide
theorem nR{a b:al}(ra:rightS (l.Up.length:Int) a=true)(rb:rightS (l.Up.length:Int) b=true):fy.f l o a b=some (if inn U.length o=true then (stB U o a b,0) else (false,9)):=by
 have A:=labsA h hc ra
 have B:=labsA h hc rb
 have za:=rs_of ra
 have zb:=rs_of rb
 have a1:=za.code
 have a2:=za.mem
 have a3:=za.stack
 have a4:=za.out
 have b1:=zb.code
 have b2:=zb.mem
 have b3:=zb.stack
 have b4:=zb.out
 obtain⟨kI,hI⟩:∃k,dW.f=some k:=⟨_,rfl⟩
 obtain⟨kA,hA⟩:∃k,fO.f=some k:=⟨_,rfl⟩
 obtain⟨kS,hS⟩:∃k,fD.f=some k:=⟨_,rfl⟩
 unfold fy.f
 rw[hI,bsome,lab_instr (by omega) (by omega) hI,bsome,hA,bsome,lab4_atom (by omega) (by omega) (by omega) (by omega) hA,bsome,hS,bsome,lab_slot (by omega) (by omega) hS,bsome]
 rw[oY (by simp) (fun x hx=>by
  simp only[List.mem_cons,List.not_mem_nil,or_false] at hx
  rcases hx with rfl|rfl|rfl|rfl<;>simp<;>omega),bsome,may_p h hc (by simp;omega),labs_any h hc A B]
 cases ho:inn U.length o with
 |false=>rfl
 |true=>
  rw[if_neg (show ¬(!true)=true by decide),bsome,if_pos rfl,if_pos rfl,bsome,oC h hc ho (by omega) A.code hI,bsome]
  unfold stB
  cases eqB (instrE U o) a.Code b.Code with
  |false=>rfl
  |true=>
   rw[if_neg (show ¬(!true)=true by decide),bsome,oX h hc ho (by omega) A.mem hA,bsome,Bool.true_and]
   cases eqB (atomE U o) a.Mem b.Mem with
   |false=>rfl
   |true=>
    rw[if_neg (show ¬(!true)=true by decide),outs_p h hc ho (by omega) (by omega) A.out B.out,bsome,Bool.true_and]
    cases eqB (fun x y=>decide (x=y)) (outL U o a.Out) (outL U o b.Out) with
    |false=>rfl
    |true=>
     have la:(cropL U o a.Stack).length<=a.Stack.length:=nQ
     rw[bsome,if_neg (show ¬(!true)=true by decide),iD h hc A.pc ho,bsome,iD h hc B.pc ho,bsome,Bool.true_and]
     cases seeB U o a.Pc.L with
     |true=>
      cases seeB U o b.Pc.L with
      |true=>
       rw[if_pos rfl,if_pos rfl,if_pos rfl,if_pos rfl,bsome,lU h hc ho (by omega) A.stack hS,bsome]
       by_cases q:a.Pc=b.Pc
       ·rw[if_pos q,decide_eq_true q];rfl
       ·rw[if_neg q,decide_eq_false q];rfl
      |false=>rfl
     |false=>
      cases seeB U o b.Pc.L with
      |true=>rfl
      |false=>
       rw[if_pos rfl,if_neg ff,if_neg ff,if_neg ff,bsome,crop_p h hc ho (by omega) A.stack,bsome,crop_p h hc ho (by omega) B.stack,bsome,lU h hc ho (by omega) (fun x hx=>A.stack x (nP hx)) hS,bsome]
end
end Go.Proofs.YtmjcpkmongafnaaGreatDoor.Ss
namespace Go.Proofs.YtmjcpkmongafnaaGreatDoor.Ss
open Go Go.Proofs.YtmjcpkmongafnaaGreatDoor.Ab Go.Proofs.YtmjcpkmongafnaaGreatDoor.TT
section
variable{l:az} {U:List Nat}(h:Nm l U)(hc:chk l U=0)
include h hc
theorem flow_r{a o:Int}(ha:inn U.length a=true)(ho:inn U.length o=true):aP.f l a o=some (seeB U o a):=by
 obtain⟨i,rfl,hi⟩:=jp ha
 obtain⟨j,rfl,hj⟩:=jp ho
 exact(yes2r h hc hi hj).1
theorem jB{a o:Int}(ha:inn U.length a=true)(ho:inn U.length o=true):bP.f l o a=some (seeB U o a):=by
 unfold bP.f
 rw[flow_r h hc ha ho,bsome]
end
theorem oE{xs ys:List aG}(hx:xs.length<=1000):cH.f xs ys=some (eqB (fun x y=>decide (x=y)) xs ys):=by
 unfold cH.f
 by_cases hl:xs.length=ys.length
 ·rw[if_pos (by omega),loopE (f:=fun x y=>decide (x=y)) (L:=cH.l0 xs ys) hl (by rw[cH.l0,if_neg (by omega)]) (fun i h h'=>by
   rw[cH.l0,if_pos (by omega),bo h,bsome,bo h',bsome,wS (by omega)]
   by_cases q:xs[i]=ys[i]
   ·rw[if_pos q,decide_eq_true q,if_pos rfl]
   ·rw[if_neg q,decide_eq_false q,if_neg (by decide)]),bsome]
  cases eqB (fun x y=>decide (x=y)) xs ys<;>rfl
 ·rw[if_neg (by omega),eqB_ne hl]
section
variable{l:az} {U:List Nat}(h0:Nm l U)(hc:chk l U=0){o:Int}(ho:inn U.length o=true)
include h0 hc ho
theorem one_r{v w a b:Int}(ha:inn U.length a=true):fh.f l o v a w b=some (decide (a=b)&&(!seeB U o a||decide (v=w))):=by
 unfold fh.f
 by_cases q:a=b
 ·rw[if_pos q,jB h0 hc ha ho,bsome,decide_eq_true q]
  cases seeB U o a<;>rfl
 ·rw[if_neg q,decide_eq_false q];rfl
theorem ref_Atoms{xs ys:List aG}(hx:xs.length<=1000)(ha:∀x∈xs,inn U.length x.L=true):dh.f l o xs ys=some (eqB (atomE U o) xs ys):=by
 unfold dh.f
 by_cases hl:xs.length=ys.length
 ·rw[if_pos (by omega),loopE (f:=atomE U o) (L:=dh.l0 l o xs ys) hl (by rw[dh.l0,if_neg (by omega)]) (fun i h h'=>by
   rw[dh.l0,if_pos (by omega),bo h,bsome,bsome,bo h',bsome,bsome,one_r h0 hc ho (ha _ (List.getElem_mem h)),bsome,wS (by omega)]
   show _=if atomE U o xs[i] ys[i]=true then _ else _
   unfold atomE
   cases (decide (xs[i].L=ys[i].L)&&(!seeB U o xs[i].L||decide (xs[i].V=ys[i].V)))<;>rfl),bsome]
  cases eqB (atomE U o) xs ys<;>rfl
 ·rw[if_neg (by omega),eqB_ne hl]
end
section
variable{l:az} {U:List Nat}(h0:Nm l U)(hc:chk l U=0){o:Int}(ho:inn U.length o=true)
include h0 hc ho
theorem lZ{xs ys:List aF}(hx:xs.length<=1000)(ha:∀x∈xs,inn U.length x.L=true):cD.f l o xs ys=some (eqB (slotE U o) xs ys):=by
 unfold cD.f
 by_cases hl:xs.length=ys.length
 ·rw[if_pos (by omega),loopE (f:=slotE U o) (L:=cD.l0 l o xs ys) hl (by rw[cD.l0,if_neg (by omega)]) (fun i h h'=>by
   rw[cD.l0,if_pos (by omega),bo h,bsome,bo h',bsome,bsome,bsome,bsome,bsome,wS (by omega)]
   unfold slotE
   by_cases q:xs[i].Ret=ys[i].Ret
   ·rw[if_pos q,one_r h0 hc ho (ha _ (List.getElem_mem h)),bsome,bsome,decide_eq_true q,Bool.true_and]
    cases (decide (xs[i].L=ys[i].L)&&(!seeB U o xs[i].L||decide (xs[i].V=ys[i].V)))<;>rfl
   ·rw[if_neg q,bsome,if_pos rfl,decide_eq_false q];rfl),bsome]
  cases eqB (slotE U o) xs ys<;>rfl
 ·rw[if_neg (by omega),eqB_ne hl]
end
section
variable{l:az} {U:List Nat}(h0:Nm l U)(hc:chk l U=0){o:Int}(ho:inn U.length o=true)
include h0 hc ho
theorem ref_Codes{xs ys:List aI}(hx:xs.length<=1000)(ha:∀x∈xs,inn U.length x.L=true):cZ.f l o xs ys=some (eqB (instrE U o) xs ys):=by
 unfold cZ.f
 by_cases hl:xs.length=ys.length
 ·rw[if_pos (by omega),loopE (f:=instrE U o) (L:=cZ.l0 l o xs ys) hl (by rw[cZ.l0,if_neg (by omega)]) (fun i h h'=>by
   rw[cZ.l0,if_pos (by omega),bo h,bsome,bo h',bsome,wS (by omega)]
   unfold instrE
   by_cases p:xs[i].Op=ys[i].Op
   ·rw[if_pos p,bsome,decide_eq_true p]
    by_cases q:xs[i].L=ys[i].L
    ·rw[decide_eq_true q,if_neg (show ¬(!true)=true by decide)]
     by_cases r:xs[i].N=ys[i].N
     ·rw[if_pos r,bsome,if_neg (by decide),decide_eq_true r]
      cases decide (xs[i].Op=1)<;>cases seeB U o xs[i].L<;>rfl
     ·rw[if_neg r,decide_eq_false r]
      by_cases s:xs[i].Op=1
      ·rw[if_pos s,jB h0 hc (ha _ (List.getElem_mem h)) ho,bsome,bsome,decide_eq_true s]
       cases seeB U o xs[i].L<;>rfl
      ·rw[if_neg s,bsome,if_pos rfl,decide_eq_false s];rfl
    ·rw[decide_eq_false q,if_pos (show (!false)=true from rfl),Bool.false_and,Bool.and_false];rfl
   ·rw[if_neg p,bsome,if_pos rfl,decide_eq_false p];rfl),bsome]
  cases eqB (instrE U o) xs ys<;>rfl
 ·rw[if_neg (by omega),eqB_ne hl]
end
section
variable{l:az} {U:List Nat}(h0:Nm l U)(hc:chk l U=0){o:Int}(ho:inn U.length o=true)
include h0 hc ho
theorem crop_rl{S:List aF}(hx:S.length<=1000)(ha:∀x∈S,inn U.length x.L=true):∀(d i:Nat),S.length=i+d->cE.l0 l o S (i:Int) ((keepN (retB U o S) i:Nat):Int)=some ((keepN (retB U o S) S.length:Nat):Int)
 |0,i,e=>by
  rw[cE.l0,if_neg (by omega),show i=S.length by omega]
 |d+1,i,e=>by
  have hi:i<S.length:=by omega
  have eg:S.getD i ⟨false,0,0⟩=S[i]:=by simp[hi]
  have e1:((if S[i].Ret=true then (bP.f l o S[i].L>>=fun y50=>some y50) else (some false):Option Bool))=some (retB U o S i):=by
   unfold retB
   rw[eg,jB h0 hc (ha _ (List.getElem_mem hi)) ho,bsome]
   cases S[i].Ret<;>rfl
  rw[cE.l0,if_pos (by omega),bo hi,bsome,e1,bsome,wS (by omega),<-crop_rl hx ha d (i+1) (by omega)]
  cases q:retB U o S i with
  |true=>
   rw[if_pos rfl,bsome,show keepN (retB U o S) (i+1)=i+1 from if_pos q]
  |false=>
   rw[if_neg ff,bsome,show keepN (retB U o S) (i+1)=keepN (retB U o S) i from if_neg (by rw[q];decide)]
theorem crop_r{S:List aF}(hx:S.length<=1000)(ha:∀x∈S,inn U.length x.L=true):cE.f l o S=some (cropL U o S):=by
 have e:=crop_rl h0 hc ho hx ha S.length 0 (by omega)
 have q:=keepN_le (p:=retB U o S) S.length
 unfold cE.f cropL
 rw[show cE.l0 l o S 0 0=_ from e,bsome,if_pos (by omega),lCut0]
end
section
variable{l:az} {U:List Nat}(h:Nm l U)(hc:chk l U=0){o:Int}
include h hc
theorem seen_r(ho:inn U.length o=true){xs:List aG}(hx:xs.length<=1000)(ax:∀x∈xs,inn U.length x.L=true):cv.f l o xs=some (outL U o xs):=by
 have hB:200000<=big:=by decide
 unfold cv.f
 rw[loopF (L:=fun a i=>cv.l0 l o xs a i) (xs:=xs) (p:=fun x=>seeB U o x.L) (fun acc=>by
  show cv.l0 l o xs acc _=_
  rw[cv.l0,if_neg (by omega)]) (fun acc i hi ha=>by
  show cv.l0 l o xs acc _=if seeB U o xs[i].L=true then cv.l0 l o xs (acc++[xs[i]]) _ else cv.l0 l o xs acc _
  rw[cv.l0,if_pos (by omega),bo hi,bsome,jB h hc (ax _ (List.getElem_mem hi)) ho,bsome,wS (by omega)]
  cases seeB U o xs[i].L with
  |true=>rw[if_pos rfl,if_pos rfl,if_pos (by simp;omega),bsome]
  |false=>rw[if_neg ff,if_neg ff,bsome]),bsome];rfl
theorem outs_r(ho:inn U.length o=true){xs ys:List aG}(hx:xs.length<=1000)(hy:ys.length<=1000)(ax:∀x∈xs,inn U.length x.L=true)(ay:∀x∈ys,inn U.length x.L=true):
  fG.f l o xs ys=some (eqB (fun x y=>decide (x=y)) (outL U o xs) (outL U o ys)):=by
 have lx:(outL U o xs).length<=xs.length:=List.length_filter_le _ _
 unfold fG.f
 rw[seen_r h hc ho hx ax,bsome,seen_r h hc ho hy ay,bsome,oE (by omega),bsome]
theorem nS(ho:inn U.length o=true){a b:al}(ra:rightS (l.Up.length:Int) a=true)(rb:rightS (l.Up.length:Int) b=true):eI.f l o a b=some (stB U o a b):=by
 have A:=labsA h hc ra
 have B:=labsA h hc rb
 have za:=rs_of ra
 have zb:=rs_of rb
 have a1:=za.code
 have a2:=za.mem
 have a3:=za.stack
 have a4:=za.out
 have b3:=zb.stack
 have b4:=zb.out
 have la:(cropL U o a.Stack).length<=a.Stack.length:=nQ
 unfold eI.f stB
 rw[ref_Codes h hc ho (by omega) A.code,bsome]
 cases eqB (instrE U o) a.Code b.Code with
 |false=>rfl
 |true=>
  rw[if_neg (show ¬(!true)=true by decide),ref_Atoms h hc ho (by omega) A.mem,bsome,Bool.true_and]
  cases eqB (atomE U o) a.Mem b.Mem with
  |false=>rfl
  |true=>
   rw[if_neg (show ¬(!true)=true by decide),outs_r h hc ho (by omega) (by omega) A.out B.out,bsome,Bool.true_and]
   cases eqB (fun x y=>decide (x=y)) (outL U o a.Out) (outL U o b.Out) with
   |false=>rfl
   |true=>
    rw[bsome,if_neg (show ¬(!true)=true by decide),jB h hc A.pc ho,bsome,jB h hc B.pc ho,bsome,Bool.true_and]
    cases seeB U o a.Pc.L with
    |true=>
     cases seeB U o b.Pc.L with
     |true=>
      rw[if_pos rfl,bsome,if_pos rfl,if_pos rfl,if_pos rfl]
      by_cases q:a.Pc=b.Pc
      ·rw[if_pos q,decide_eq_true q,lZ h hc ho (by omega) A.stack,bsome];rfl
      ·rw[if_neg q,decide_eq_false q];rfl
     |false=>rfl
    |false=>
     cases seeB U o b.Pc.L with
     |true=>rfl
     |false=>
      show (cE.f l o a.Stack>>=fun y34=>cE.f l o b.Stack>>=fun y35=>cD.f l o y34 y35>>=fun y36=>some y36)=some (eqB (slotE U o) (cropL U o a.Stack) (cropL U o b.Stack))
      rw[crop_r h hc ho (by omega) A.stack,bsome,crop_r h hc ho (by omega) B.stack,bsome,lZ h hc ho (by omega) (fun x hx=>A.stack x (nP hx)),bsome]
end
end Go.Proofs.YtmjcpkmongafnaaGreatDoor.Ss
namespace Go.Proofs.YtmjcpkmongafnaaGreatDoor.Ss
open Go Go.Proofs.YtmjcpkmongafnaaGreatDoor.Ab Go.Proofs.YtmjcpkmongafnaaGreatDoor.TT
theorem alive20:reticentlaw20_alive.f=some true:=(it (k:=60)).h _ (by kernel_rfl)
abbrev Rt(l:az)(s:al):Prop:=rightS (l.Up.length:Int) s=true
def seenL(U:List Nat)(o:Int)(xs:List al):List al:=xs.filter fun x=>seeB U o x.Pc.L
def toldV(U:List Nat)(o:Int)(a b:al):Int:=if stB U o a b=true then 0 else 1
def endV(U:List Nat)(o:Int)(st:al->al×Int)(k:Nat)(a b:al):Int:=
 if (runL st k a).2=1 then (if (runL st k b).2=1 then (if seeB U o (lastS st k a).Pc.L=true then (if seeB U o (lastS st k b).Pc.L=true then toldV U o (lastS st k a) (lastS st k b) else 2) else 2) else 2) else 2
def lockB{α:Type}(f:α->α->Bool):List α->List α->Bool
 |x::xs,y::ys=>f x y&&lockB f xs ys
 |_,_=>true
theorem m0{α:Type} {f:α->α->Bool}:∀{xs:List α},lockB f xs []=true
 |[]=>rfl
 |_::_=>rfl
theorem loopK{α:Type} {L:Int->Option (Int⊕Unit)} {f:α->α->Bool} {xs ys:List α}(hn:L (xs.length:Int)=some (.inr ()))(hy:∀i,i<xs.length->ys.length<=i->L (i:Int)=some (.inr ())\/L (i:Int)=L ((i+1:Nat):Int))
  (hs:∀i (h:i<xs.length) (h':i<ys.length),L (i:Int)=if f xs[i] ys[i]=true then L ((i+1:Nat):Int) else some (.inl 1)):L 0=some (if lockB f xs ys=true then .inr () else .inl 1):=by
 have key:∀d i,xs.length=i+d->L (i:Int)=some (if lockB f (xs.drop i) (ys.drop i)=true then .inr () else .inl 1):=by
  intro d
  induction d with
  |zero=>
   intro i e
   rw[List.drop_eq_nil_of_le (show xs.length<=i by omega),show i=xs.length by omega,hn];rfl
  |succ d ih=>
   intro i e
   by_cases q:i<ys.length
   ·rw[hs i (by omega) q,fM (show i<xs.length by omega),fM q]
    unfold lockB
    cases f xs[i] ys[i] with
    |true=>rw[if_pos rfl,ih (i+1) (by omega),Bool.true_and]
    |false=>rw[if_neg (by decide),Bool.false_and,if_neg (by decide)]
   ·have e1:ys.drop i=[]:=List.drop_eq_nil_of_le (by omega)
    have e2:ys.drop (i+1)=[]:=List.drop_eq_nil_of_le (by omega)
    rw[e1,m0,if_pos rfl]
    rcases hy i (by omega) (by omega) with h|h
    ·exact h
    ·rw[h,ih (i+1) (by omega),e2,m0,if_pos rfl]
 exact key xs.length 0 (by omega)
def lockV(U:List Nat)(o:Int)(st:al->al×Int)(k:Nat)(a b:al):Int:=
 if lockB (stB U o) (seenL U o (runL st k a).1) (seenL U o (runL st k b).1)=true then 0 else 1
def stepV(U:List Nat)(o:Int)(st:al->al×Int)(a b:al):Int:=
 if (st a).2=0 then (if seeB U o a.Pc.L=true then (if (st b).2=0 then toldV U o (st a).1 (st b).1 else 2) else (if seeB U o (st a).1.Pc.L=true then (if (st b).2=0 then (if seeB U o (st b).1.Pc.L=true then toldV U o (st a).1 (st b).1 else 2) else 2) else toldV U o a (st a).1)) else 2
def valV(U:List Nat)(o:Int)(st:al->al×Int)(k:Nat)(p:Int)(a b:al):Int:=
 if p=0 then endV U o st k a b else if p=1 then lockV U o st k a b else stepV U o st a b
theorem pc_inn{l:az} {U:List Nat}(h:Nm l U){s:al}(hs:Rt l s):inn U.length s.Pc.L=true:=by
 rw[<-h.n]
 exact hZ (mu hs).pc
section
variable{l:az} {U:List Nat}(h:Nm l U)(hc:chk l U=0){o:Int}(ho:inn U.length o=true)
include h hc ho
theorem ia{t:ct} {f:Int} {a b s:al}(hs:Rt l s):b8.f ⟨l,t,o,f,a,b⟩ s=some (seeB U o s.Pc.L):=by
 unfold b8.f
 rw[nM h hc (pc_inn h hs) ho,bsome]
theorem iW{t:ct} {f:Int} {a b x y:al}(hx:Rt l x)(hy:Rt l y):dB.f ⟨l,t,o,f,a,b⟩ x y=some (toldV U o x y):=by
 unfold dB.f toldV
 rw[nR h hc hx hy,if_pos ho,bsome]
 cases stB U o x y<;>rfl
section
variable{R:List aW} {st:al->al×Int}(K:StepOk l R st (Rt l))
include K
theorem jc{k:Nat} {s:al}(hs:Rt l s):Rt l (lastS st k s):=by
 obtain⟨pre,e⟩:=lastS_at (st:=st) k s
 exact runL_all K.next k s hs _ (by rw[e];simp)
theorem ld{a b s:al}(hs:Rt l s){k:Nat}(hk:k<=40):eA.f ⟨l,⟨R⟩,o,(k:Int),a,b⟩ s=some (seenL U o (runL st k s).1):=by
 have L:=runL_len (st:=st) k s
 unfold eA.f
 rw[run_eq K hs hk,bsome,del_state (p:=fun x=> !seeB U o x.Pc.L) (show (runL st k s).1.length<=1000 by omega) (fun x hx=>by
  show eJ.f x _=_
  unfold eJ.f
  rw[ia h hc ho (runL_all K.next k s hs x hx),bsome]),bsome]
 simp only[Bool.not_not,seenL]
theorem end_p{a b:al}(ha:Rt l a)(hb:Rt l b){k:Nat}(hk:k<=40):eG.f ⟨l,⟨R⟩,o,(k:Int),a,b⟩=some (endV U o st k a b):=by
 unfold eG.f endV
 rw[jU K ha hk,bsome,jU K hb hk,bsome]
 by_cases q1:(runL st k a).2=1
 ·by_cases q2:(runL st k b).2=1
  ·rw[if_pos q1,if_pos q2,if_pos q1,if_pos q2,ia h hc ho (jc h hc ho K ha),bsome,ia h hc ho (jc h hc ho K hb),bsome]
   cases seeB U o (lastS st k a).Pc.L with
   |false=>rfl
   |true=>
    cases seeB U o (lastS st k b).Pc.L with
    |false=>rfl
    |true=>
     rw[if_neg (show ¬(!true)=true by decide),bsome,if_neg (show ¬(!true)=true by decide),iW h hc ho (jc h hc ho K ha) (jc h hc ho K hb),bsome];rfl
  ·rw[if_pos q1,if_neg q2,if_pos q1,if_neg q2];rfl
 ·rw[if_neg q1,if_neg q1];rfl
theorem l5{k:Nat} {s:al}(hs:Rt l s):∀x∈seenL U o (runL st k s).1,Rt l x:=fun x hx=>runL_all K.next k s hs x (List.mem_filter.1 hx).1
theorem lock_p{a b:al}(ha:Rt l a)(hb:Rt l b){k:Nat}(hk:k<=40):bV.f ⟨l,⟨R⟩,o,(k:Int),a,b⟩=some (lockV U o st k a b):=by
 have L:=runL_len (st:=st) k a
 have L1:(seenL U o (runL st k a).1).length<=(runL st k a).1.length:=List.length_filter_le _ _
 have Ga:=l5 h hc ho K (k:=k) ha
 have Gb:=l5 h hc ho K (k:=k) hb
 unfold bV.f lockV
 show (eA.f _ b>>=fun y1=>eA.f _ a>>=_)=_
 rw[ld h hc ho K hb hk,bsome,ld h hc ho K ha hk,bsome]
 generalize seenL U o (runL st k a).1=xs at L1 Ga
 generalize seenL U o (runL st k b).1=ys at Gb
 rw[loopK (xs:=xs) (ys:=ys) (f:=stB U o) (L:=bV.l0 ⟨l,⟨R⟩,o,(k:Int),a,b⟩ ys xs) (by rw[bV.l0,if_neg (by omega)]) (fun i hi hy=>.inr (by
   rw[bV.l0,if_pos (by omega),bo hi,bsome,if_neg (by omega),bsome,if_neg ff,wS (by omega)])) (fun i hi hy=>by
   rw[bV.l0,if_pos (by omega),bo hi,bsome,if_pos (by omega),bo hy,bsome,iW h hc ho (Ga _ (List.getElem_mem hi)) (Gb _ (List.getElem_mem hy)),bsome,bsome,wS (by omega)]
   unfold toldV
   cases stB U o xs[i] ys[i]<;>rfl),bsome]
 cases lockB (stB U o) xs ys<;>rfl
theorem step_p{a b:al}(ha:Rt l a)(hb:Rt l b){f:Int}:eB.f ⟨l,⟨R⟩,o,f,a,b⟩=some (stepV U o st a b):=by
 have na:=K.next a ha
 have nb:=K.next b hb
 unfold eB.f stepV
 rw[K.one a ha,bsome,K.one b hb,bsome]
 by_cases q:(st a).2=0
 ·rw[if_pos q,if_pos q,ia h hc ho ha,bsome,ia h hc ho na,bsome,ia h hc ho nb,bsome,iW h hc ho ha na,bsome,iW h hc ho na nb,bsome]
  by_cases r:(st b).2=0
  ·simp only[if_pos r]
   cases seeB U o a.Pc.L<;>cases seeB U o (st a).1.Pc.L<;>cases seeB U o (st b).1.Pc.L<;>rfl
  ·simp only[if_neg r]
   cases seeB U o a.Pc.L<;>cases seeB U o (st a).1.Pc.L<;>rfl
 ·rw[if_neg q,if_neg q]
end
end
theorem far_b(f:Int):((if f<0 then (some true) else (some (decide (f>40))):Option Bool))=some (decide (f<0\/f>40)):=by
 by_cases q:f<0
 ·rw[if_pos q,decide_eq_true (.inl q)]
 ·rw[if_neg q]
  congr 1
  simp[q]
noncomputable def fuelO(l:az)(U:List Nat)(R:List aW)(s:al)(f:Int):Int:=if mayO l U R s=0 then (if f<0\/f>40 then 1 else 0) else mayO l U R s
theorem kb{l:az} {U:List Nat} {R:List aW} {s:al} {f:Int}(h:fuelO l U R s f=0):mayO l U R s=0/\f=((f.toNat:Nat):Int)/\f.toNat<=40:=by
 unfold fuelO at h
 by_cases q:mayO l U R s=0
 ·rw[if_pos q] at h
  by_cases r:f<0\/f>40
  ·rw[if_pos r] at h;exact absurd h (by decide)
  ·exact⟨q,by omega,by omega⟩
 ·rw[if_neg q] at h;exact absurd h q
theorem pget(p:Int):((mGet ([(0,(some eG.f)),(1,(some bV.f)),(2,(some eB.f))]:List (Int×(Option (ed->Option Int)))) none p))=
  if p=0 then (some eG.f,true) else if p=1 then (some bV.f,true) else if p=2 then (some eB.f,true) else (none,false):=by
 unfold mGet mFind mFind mFind mFind
 by_cases q0:p=0
 ·rw[if_pos q0,if_pos q0]
 ·rw[if_neg q0,if_neg q0]
  by_cases q1:p=1
  ·rw[if_pos q1,if_pos q1]
  ·rw[if_neg q1,if_neg q1]
   by_cases q2:p=2
   ·rw[if_pos q2,if_pos q2]
   ·rw[if_neg q2,if_neg q2]
section
variable{l:az} {U:List Nat}(h:Nm l U){R:List aW}(hF:Few R)
include h hF
theorem nT{s:al}(z:Sz s){f:Int}(hq:fuelO l U R s f≠0):∃x q,dL.f l ⟨R⟩ s f=some (x,q,fuelO l U R s f):=by
 unfold fuelO at hq⊢
 by_cases hm:mayO l U R s=0
 ·obtain⟨hc,hT,hr⟩:=ja hm
  obtain⟨st,K⟩:=mv h hF hc hT
  rw[if_pos hm] at hq⊢
  by_cases hf:f<0\/f>40
  ·rw[if_pos hf]
   exact⟨_,_,(run_far K hr hf).2⟩
  ·rw[if_neg hf] at hq;exact absurd rfl hq
 ·rw[if_neg hm]
  exact⟨_,_,last_no h hF z hm f⟩
theorem test_bad{a b:al}(za:Sz a)(zb:Sz b){p o f:Int}(hq:fuelO l U R a f≠0\/fuelO l U R b f≠0):dC.f l ⟨R⟩ p o f a b=some (0,if fuelO l U R a f=0 then fuelO l U R b f else fuelO l U R a f):=by
 unfold dC.f
 rw[dC.l0,if_pos (show (0:Int)<(([a,b]:List al).length:Int) from by simp),show lAt [a,b] 0=some a from rfl,bsome]
 by_cases q:fuelO l U R a f=0
 ·have hb:=hq.resolve_left (fun n=>n q)
  obtain⟨hm,en,hk⟩:=kb q
  obtain⟨hc,hT,hr⟩:=ja hm
  obtain⟨st,K⟩:=mv h hF hc hT
  obtain⟨x,y,e⟩:=nT h hF zb hb
  rw[if_pos q]
  rw[en] at e⊢
  rw[jU K hr hk,bsome,if_pos rfl,show IntKind.i64.wrap (0+1)=1 by decide,dC.l0,if_pos (show (1:Int)<(([a,b]:List al).length:Int) from by simp),show lAt [a,b] 1=some b from rfl,bsome,e,bsome]
  rw[en] at hb
  show ((if fuelO l U R b ((f.toNat:Nat):Int)=0 then _ else some (Sum.inl (0,fuelO l U R b ((f.toNat:Nat):Int))))>>=_)=_
  rw[if_neg hb];rfl
 ·obtain⟨x,y,e⟩:=nT h hF za q
  rw[e,bsome,if_neg q,if_neg q];rfl
end
theorem test_p{l:az} {U:List Nat}(h:Nm l U)(hc:chk l U=0){R:List aW} {st:al->al×Int}(K:StepOk l R st (Rt l)){a b:al}(ha:Rt l a)(hb:Rt l b){k:Nat}(hk:k<=40){p o:Int}:
  dC.f l ⟨R⟩ p o (k:Int) a b=some (if 0<=p/\p<=2 then (if inn U.length o=true then (if stB U o a b=true then (valV U o st k p a b,0) else (0,9)) else (0,9)) else (0,1)):=by
 unfold dC.f
 rw[dC.l0,if_pos (show (0:Int)<(([a,b]:List al).length:Int) from by simp),show lAt [a,b] 0=some a from rfl,bsome,jU K ha hk,bsome,if_pos rfl,show IntKind.i64.wrap (0+1)=1 by decide,
  dC.l0,if_pos (show (1:Int)<(([a,b]:List al).length:Int) from by simp),show lAt [a,b] 1=some b from rfl,bsome,jU K hb hk,bsome,if_pos rfl,show IntKind.i64.wrap (1+1)=2 by decide,dC.l0,if_neg (show ¬(2:Int)<(([a,b]:List al).length:Int) from by simp),bsome]
 unfold gV.f
 rw[bsome,pget]
 by_cases hp:0<=p/\p<=2
 ·rw[if_pos hp]
  have e:(if p=0 then (some eG.f,true) else if p=1 then (some bV.f,true) else if p=2 then (some eB.f,true) else (none,false))=((some (if p=0 then eG.f else if p=1 then bV.f else eB.f),true):Option (ed->Option Int)×Bool):=by
   by_cases q0:p=0
   ·rw[if_pos q0,if_pos q0]
   ·rw[if_neg q0,if_neg q0]
    by_cases q1:p=1
    ·rw[if_pos q1,if_pos q1]
    ·rw[if_neg q1,if_neg q1,if_pos (by omega)]
  rw[e,if_neg (show ¬(!true)=true by decide),nR h hc ha hb,bsome]
  cases ho:inn U.length o with
  |false=>rfl
  |true=>
   rw[if_pos rfl,if_pos rfl,if_pos rfl]
   show ((some (!stB U o a b):Option Bool)>>=_)=_
   rw[bsome]
   cases hs:stB U o a b with
   |false=>rfl
   |true=>
    rw[if_neg (show ¬(!true)=true by decide),if_pos rfl,bsome]
    unfold valV
    by_cases q0:p=0
    ·rw[if_pos q0,if_pos q0,end_p h hc ho K ha hb hk,bsome]
    ·rw[if_neg q0,if_neg q0]
     by_cases q1:p=1
     ·rw[if_pos q1,if_pos q1,lock_p h hc ho K ha hb hk,bsome]
     ·rw[if_neg q1,if_neg q1,step_p h hc ho K ha hb,bsome]
 ·rw[if_neg hp,if_neg (show ¬p=0 by omega),if_neg (show ¬p=1 by omega),if_neg (show ¬p=2 by omega)];rfl
end Go.Proofs.YtmjcpkmongafnaaGreatDoor.Ss
namespace Go.Proofs.YtmjcpkmongafnaaGreatDoor.Ss
open Go Go.Proofs.YtmjcpkmongafnaaGreatDoor.Ab Go.Proofs.YtmjcpkmongafnaaGreatDoor.TT
theorem last_r{st:al->al×Int} {k:Nat} {s:al}(hk:k<=40){q:Int}:dn.f ⟨(runL st k s).1,q⟩=some (lastS st k s):=by
 have L:=runL_len (st:=st) k s
 obtain⟨pre,hp⟩:=lastS_at (st:=st) k s
 unfold dn.f
 show (lAt (runL st k s).1 (IntKind.i64.wrap (((runL st k s).1.length:Int)-1))>>=_)=_
 rw[w1 (by omega),hp,kc,bsome]
section
variable{l:az} {U:List Nat}(h:Nm l U)(hc:chk l U=0){o:Int}(ho:inn U.length o=true)
include h hc ho
theorem iU{t:ct} {f:Int} {s:al}(hs:Rt l s):cj.f ⟨l,t,o,f⟩ s=some (seeB U o s.Pc.L):=by
 unfold cj.f
 rw[jB h hc (pc_inn h hs) ho,bsome]
theorem ke{t:ct} {f:Int} {x y:al}(hx:Rt l x)(hy:Rt l y):cL.f ⟨l,t,o,f⟩ x y=some (toldV U o x y):=by
 unfold cL.f toldV
 rw[nS h hc ho hx hy,bsome]
 cases stB U o x y<;>rfl
section
variable{R:List aW} {st:al->al×Int}(K:StepOk l R st (Rt l))(F:StepRef l R st (Rt l))
include K F
theorem nU{s:al}(hs:Rt l s){k:Nat}(hk:k<=40):cx.f ⟨l,⟨R⟩,o,(k:Int)⟩ s=some (seenL U o (runL st k s).1):=by
 have L:=runL_len (st:=st) k s
 have hB:200000<=big:=by decide
 have G:∀x∈(runL st k s).1,Rt l x:=fun x hx=>runL_all K.next k s hs x hx
 unfold cx.f
 rw[mw K F hs hk,bsome]
 have L1:(runL st k s).1.length<=1000:=by omega
 generalize (runL st k s).1=xs at L1 G
 generalize (runL st k s).2=q
 rw[loopF (L:=fun a i=>cx.l0 ⟨l,⟨R⟩,o,(k:Int)⟩ ⟨xs,q⟩ a i) (xs:=xs) (p:=fun x=>seeB U o x.Pc.L) (fun acc=>by
  show cx.l0 _ ⟨xs,q⟩ acc _=_
  rw[cx.l0,if_neg (show ¬(xs.length:Int)<(xs.length:Int) by omega)]) (fun acc i hi ha=>by
  show cx.l0 _ ⟨xs,q⟩ acc _=if seeB U o xs[i].Pc.L=true then cx.l0 _ ⟨xs,q⟩ (acc++[xs[i]]) _ else cx.l0 _ ⟨xs,q⟩ acc _
  rw[cx.l0,if_pos (show (i:Int)<(xs.length:Int) by omega)]
  show (((lAt xs (i:Int)>>=_)>>=_):Option _)=_
  rw[bo hi,bsome,iU h hc ho (G _ (List.getElem_mem hi)),bsome,wS (by omega)]
  cases seeB U o xs[i].Pc.L with
  |true=>rw[if_pos rfl,if_pos rfl,if_pos (by simp;omega),bsome]
  |false=>rw[if_neg ff,if_neg ff,bsome]),bsome];rfl
theorem end_r{a b:al}(ha:Rt l a)(hb:Rt l b){k:Nat}(hk:k<=40):fT.f ⟨l,⟨R⟩,o,(k:Int)⟩ a b=some (endV U o st k a b):=by
 unfold fT.f endV
 rw[mw K F ha hk,bsome,mw K F hb hk,bsome]
 show ((if (runL st k a).2=1 then (if (runL st k b).2=1 then (dn.f ⟨(runL st k a).1,(runL st k a).2⟩>>=_) else _) else _:Option Bool)>>=_)=_
 rw[last_r hk,bsome,iU h hc ho (jc h hc ho K ha),bsome,last_r hk,bsome,iU h hc ho (jc h hc ho K hb),bsome,bsome,bsome,ke h hc ho (jc h hc ho K ha) (jc h hc ho K hb),bsome]
 by_cases q1:(runL st k a).2=1
 ·by_cases q2:(runL st k b).2=1
  ·simp only[if_pos q1,if_pos q2]
   cases seeB U o (lastS st k a).Pc.L<;>cases seeB U o (lastS st k b).Pc.L<;>rfl
  ·simp only[if_pos q1,if_neg q2];rfl
 ·simp only[if_neg q1];rfl
theorem lock_r{a b:al}(ha:Rt l a)(hb:Rt l b){k:Nat}(hk:k<=40):dp.f ⟨l,⟨R⟩,o,(k:Int)⟩ a b=some (lockV U o st k a b):=by
 have L:=runL_len (st:=st) k a
 have L1:(seenL U o (runL st k a).1).length<=(runL st k a).1.length:=List.length_filter_le _ _
 have Ga:=l5 h hc ho K (k:=k) ha
 have Gb:=l5 h hc ho K (k:=k) hb
 unfold dp.f lockV
 rw[nU h hc ho K F ha hk,bsome,nU h hc ho K F hb hk,bsome]
 generalize seenL U o (runL st k a).1=xs at L1 Ga
 generalize seenL U o (runL st k b).1=ys at Gb
 rw[loopK (xs:=xs) (ys:=ys) (f:=stB U o) (L:=dp.l0 ⟨l,⟨R⟩,o,(k:Int)⟩ xs ys) (by rw[dp.l0,if_neg (by omega),bsome,if_neg ff]) (fun i hi hy=>.inl (by
   rw[dp.l0,if_pos (by omega),bsome,decide_eq_false (by omega),if_neg ff])) (fun i hi hy=>by
   rw[dp.l0,if_pos (by omega),bsome,decide_eq_true (by omega),if_pos rfl,bo hi,bsome,bo hy,bsome,ke h hc ho (Ga _ (List.getElem_mem hi)) (Gb _ (List.getElem_mem hy)),bsome,wS (by omega)]
   unfold toldV
   cases stB U o xs[i] ys[i]<;>rfl),bsome]
 cases lockB (stB U o) xs ys<;>rfl
theorem step_r{a b:al}(ha:Rt l a)(hb:Rt l b){f:Int}:fH.f ⟨l,⟨R⟩,o,f⟩ a b=some (stepV U o st a b):=by
 have na:=K.next a ha
 have nb:=K.next b hb
 unfold fH.f stepV
 rw[F.ref a ha,bsome,F.ref b hb,bsome]
 show (if (st a).2=0 then (cj.f _ a>>=fun y4=>if y4=true then (if (st b).2=0 then (cL.f _ (st a).1 (st b).1>>=fun y7=>some y7) else (some 2)) else (cj.f _ (st a).1>>=fun y8=>if (!y8)=true then (cL.f _ a (st a).1>>=fun y10=>some y10) else (((if (st b).2=0 then (cj.f _ (st b).1>>=fun y15=>some (!y15)) else (some true):Option Bool)>>=fun x13=>if x13=true then (some 2) else (cL.f _ (st a).1 (st b).1>>=fun y17=>some y17))))) else (some 2))=_
 by_cases q:(st a).2=0
 ·rw[if_pos q,if_pos q,iU h hc ho ha,bsome,iU h hc ho na,bsome,iU h hc ho nb,bsome,ke h hc ho ha na,bsome,ke h hc ho na nb,bsome]
  by_cases r:(st b).2=0
  ·simp only[if_pos r]
   cases seeB U o a.Pc.L<;>cases seeB U o (st a).1.Pc.L<;>cases seeB U o (st b).1.Pc.L<;>rfl
  ·simp only[if_neg r]
   cases seeB U o a.Pc.L<;>cases seeB U o (st a).1.Pc.L<;>rfl
 ·rw[if_neg q,if_neg q]
theorem test_r{a b:al}(ha:Rt l a)(hb:Rt l b){k:Nat}(hk:k<=40){p:Int}:fL.f ⟨l,⟨R⟩,o,(k:Int)⟩ p a b=some (valV U o st k p a b):=by
 unfold fL.f valV
 by_cases q0:p=0
 ·rw[if_pos q0,if_pos q0,end_r h hc ho K F ha hb hk,bsome]
 ·rw[if_neg q0,if_neg q0]
  by_cases q1:p=1
  ·rw[if_pos q1,if_pos q1,lock_r h hc ho K F ha hb hk,bsome]
  ·rw[if_neg q1,if_neg q1,step_r h hc ho K F ha hb,bsome]
end
end
theorem l6{l:az} {U:List Nat}(h:Nm l U){R:List aW}(hF:Few R){s:al}(z:Sz s)(f:Int):eZ.f l ⟨R⟩ s f=some (fuelO l U R s f):=by
 unfold eZ.f fuelO
 rw[may_r h hF z,bsome]
 by_cases q:mayO l U R s=0
 ·rw[if_pos q,if_pos q,far_b,bsome]
  by_cases r:f<0\/f>40
  ·rw[decide_eq_true r,if_pos rfl,if_pos r]
  ·rw[decide_eq_false r,if_neg ff,if_neg r,q]
 ·rw[if_neg q,if_neg q,bsome,if_neg ff]
theorem tests{l:az} {t:ct} {p o f:Int} {a b:al}(hl:∃H cs,(kR aC).reps H cs l):eW.f l t p o f a b=some true:=by
 obtain⟨l',U,e,h⟩:=few_eq hl
 obtain⟨A,ea,za⟩:=cut_eq a
 obtain⟨B,eb,zb⟩:=cut_eq b
 obtain⟨R0⟩:=t
 have hF:=tfew_ok (R:=R0)
 unfold eW.f
 rw[e,bsome,tfew_eq,bsome,ea,bsome,eb,bsome]
 generalize fewR R0=R at hF
 by_cases hq:fuelO l' U R A f≠0\/fuelO l' U R B f≠0
 ·have hm:fj.f ⟨l',⟨R⟩,o,f⟩ p A B=some (if fuelO l' U R A f=0 then fuelO l' U R B f else fuelO l' U R A f):=by
   unfold fj.f
   rw[l6 h hF za,bsome,l6 h hF zb,bsome]
   by_cases q:fuelO l' U R A f=0
   ·have hb:=hq.resolve_left (fun n=>n q)
    rw[if_pos q,if_neg hb,if_pos q]
   ·rw[if_neg q,if_neg q]
  have hne:(if fuelO l' U R A f=0 then fuelO l' U R B f else fuelO l' U R A f)≠0:=by
   by_cases q:fuelO l' U R A f=0
   ·rw[if_pos q];exact hq.resolve_left (fun n=>n q)
   ·rw[if_neg q];exact q
  rw[test_bad h hF za zb hq,bsome,hm,bsome]
  generalize (if fuelO l' U R A f=0 then fuelO l' U R B f else fuelO l' U R A f)=E at hne
  rw[if_neg hne,alive20,bsome,if_pos rfl]
  show ((if E=E then (some (decide ((0:Int)=0))) else _)>>=_)=_
  rw[if_pos rfl];rfl
 ·have qa:fuelO l' U R A f=0:=Classical.not_not.1 fun n=>hq (.inl n)
  have qb:fuelO l' U R B f=0:=Classical.not_not.1 fun n=>hq (.inr n)
  obtain⟨ma,en,hk⟩:=kb qa
  obtain⟨mb,_,_⟩:=kb qb
  obtain⟨hc,hT,ra⟩:=ja ma
  obtain⟨_,_,rb⟩:=ja mb
  obtain⟨st,K,F⟩:=steps h hF hc hT
  rw[en] at qa qb⊢
  generalize f.toNat=k at*
  have hm:fj.f ⟨l',⟨R⟩,o,(k:Int)⟩ p A B=some (if 0<=p/\p<=2 then (if inn U.length o=true then (if stB U o A B=true then 0 else 9) else 9) else 1):=by
   unfold fj.f
   rw[l6 h hF za,bsome,if_pos qa,l6 h hF zb,bsome,if_pos qb]
   by_cases hp:0<=p/\p<=2
   ·rw[if_pos hp,if_neg (show ¬p<0 by omega),decide_eq_false (show ¬p>2 by omega),bsome,if_neg ff]
    cases ho:inn U.length o with
    |false=>
     rw[if_neg ff]
     have:o<0\/o>=(l'.Up.length:Int):=by
      unfold inn at ho
      rw[h.n]
      by_cases q:0<=o
      ·rw[decide_eq_true q] at ho
       have:=of_decide_eq_false ho
       omega
      ·omega
     show ((if o<0 then (some true) else (if o>=(l'.Up.length:Int) then (some true) else _):Option Bool)>>=_)=_
     by_cases q:o<0
     ·rw[if_pos q,bsome,if_pos rfl]
     ·rw[if_neg q,if_pos (by omega),bsome,if_pos rfl]
    |true=>
     obtain⟨i,ei,hi⟩:=jp ho
     rw[if_pos rfl]
     show ((if o<0 then (some true) else (if o>=(l'.Up.length:Int) then (some true) else (eI.f l' o A B>>=_)):Option Bool)>>=_)=_
     rw[if_neg (show ¬o<0 by omega),if_neg (show ¬o>=(l'.Up.length:Int) by rw[h.n];omega),nS h hc ho ra rb,bsome,bsome]
     cases stB U o A B<;>rfl
   ·rw[if_neg hp]
    by_cases q:p<0
    ·rw[if_pos q,bsome,if_pos rfl]
    ·rw[if_neg q,decide_eq_true (show p>2 by omega),bsome,if_pos rfl]
  rw[test_p h hc K ra rb hk,bsome,hm,bsome,alive20,bsome,bsome]
  by_cases hp:0<=p/\p<=2
  ·rw[if_pos hp,if_pos hp]
   cases ho:inn U.length o with
   |false=>rfl
   |true=>
    cases hs:stB U o A B with
    |false=>rfl
    |true=>
     rw[if_pos rfl,if_pos rfl,if_pos rfl,if_pos rfl,if_pos rfl,if_pos rfl,if_pos rfl,test_r h hc ho K F ra rb hk,bsome,decide_eq_true rfl];rfl
  ·rw[if_neg hp,if_neg hp];rfl
end Go.Proofs.YtmjcpkmongafnaaGreatDoor.Ss
