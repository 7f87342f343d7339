import Derived.Test.YtmjcpkmongafnaaGreatDoorSsb1
set_option linter.unusedVariables false
set_option linter.unusedSimpArgs false
set_option linter.unusedSectionVars false
namespace Go.Proofs.YtmjcpkmongafnaaGreatDoor.Ss
open Go Go.Proofs.YtmjcpkmongafnaaGreatDoor.Ab Go.Proofs.YtmjcpkmongafnaaGreatDoor.TT
theorem fW(b:Bool):bF.f b=some (if b=true then .inr () else .inl 3):=by
 unfold bF.f
 cases b<;>rfl
def sl(S:List al)(d:Nat):al:=S.getD (S.length-1-d) ⟨true,0,0⟩
def okT(S:List al)(d:Nat):Bool:=decide (d<S.length)&& !(sl S d).Ret
theorem sl_at{S:List al} {d:Nat}(h:d<S.length):sl S d=S[S.length-1-d]:=by
 unfold sl
 rw[List.getD_eq_getElem?_getD,List.getElem?_eq_getElem (by omega)];rfl
theorem atom_m{m:ah}(hn:m.s_.Stack.length<=1000){d:Nat}(hd:d<=1000):bO.f m (d:Int)=some (if okT m.s_.Stack d=true then .inr (m,sl m.s_.Stack d) else .inl 3):=by
 unfold bO.f okT
 have e1:IntKind.i64.wrap ((m.s_.Stack.length:Int)-1)=(m.s_.Stack.length:Int)-1:=wrapZ (by omega) (by omega)
 have e2:IntKind.i64.wrap ((m.s_.Stack.length:Int)-1-(d:Int))=(m.s_.Stack.length:Int)-1-(d:Int):=wrapZ (by omega) (by omega)
 rw[e1,e2]
 by_cases h:d<m.s_.Stack.length
 ·have e3:(m.s_.Stack.length:Int)-1-(d:Int)=((m.s_.Stack.length-1-d:Nat):Int):=by omega
  rw[if_pos (by omega),e3,bx (by omega),bsome,fW,bsome,sl_at h,decide_eq_true h]
  cases hr:m.s_.Stack[m.s_.Stack.length-1-d].Ret<;>rfl
 ·rw[if_neg (by omega),fW,bsome,decide_eq_false h]
  rfl
def firstM(m:ah):ah:=⟨m.l_,m.s_,m.x_,sl m.s_.Stack 0,m.b_,m.r_,(m.s_.Stack.length:Int)-1,⟨(sl m.s_.Stack 0).L,m.one_.x1_,m.one_.x2_⟩⟩
theorem f9{m:ah}(hn:m.s_.Stack.length<=1000):aW.f m=some (if okT m.s_.Stack 0=true then .inr (firstM m) else .inl 3):=by
 unfold aW.f
 have h:=atom_m hn (d:=0) (by omega)
 rw[show ((0:Nat):Int)=0 from rfl] at h
 rw[h,bsome]
 have e1:IntKind.i64.wrap ((m.s_.Stack.length:Int)-1)=(m.s_.Stack.length:Int)-1:=wrapZ (by omega) (by omega)
 cases okT m.s_.Stack 0 with
 |false=>rfl
 |true=>
  show some (Sum.inr (⟨m.l_,m.s_,m.x_,sl m.s_.Stack 0,m.b_,m.r_,IntKind.i64.wrap ((m.s_.Stack.length:Int)-1),⟨(sl m.s_.Stack 0).L,m.one_.x1_,m.one_.x2_⟩⟩:ah))=_
  rw[e1];rfl
def bothM(m:ah):ah:=⟨m.l_,m.s_,m.x_,sl m.s_.Stack 0,sl m.s_.Stack 1,m.r_,(m.s_.Stack.length:Int)-2,⟨(sl m.s_.Stack 0).L,(sl m.s_.Stack 1).L,m.one_.x2_⟩⟩
theorem jv{m:ah}(hn:m.s_.Stack.length<=1000):bQ.f m=some (if okT m.s_.Stack 0=true/\okT m.s_.Stack 1=true then .inr (bothM m) else .inl 3):=by
 unfold bQ.f
 rw[f9 hn,bsome]
 cases h0:okT m.s_.Stack 0 with
 |false=>rfl
 |true=>
  have h:=atom_m (m:=firstM m) hn (d:=1) (by omega)
  rw[show ((1:Nat):Int)=1 from rfl] at h
  show (bO.f (firstM m) 1>>=_)=_
  rw[h,bsome]
  show (match (if okT m.s_.Stack 1=true then Sum.inr (firstM m,sl m.s_.Stack 1) else Sum.inl 3:Pn⊕(ah×al)) with|.inl p5=>_|.inr y6=>_)=_
  cases h1:okT m.s_.Stack 1 with
  |false=>rfl
  |true=>
   show some (Sum.inr (⟨m.l_,m.s_,m.x_,sl m.s_.Stack 0,sl m.s_.Stack 1,m.r_,IntKind.i64.wrap ((m.s_.Stack.length:Int)-1-1),⟨(sl m.s_.Stack 0).L,(sl m.s_.Stack 1).L,m.one_.x2_⟩⟩:ah))=_
   rw[wrapZ (by omega) (by omega),show (m.s_.Stack.length:Int)-1-1=(m.s_.Stack.length:Int)-2 by omega];rfl
end Go.Proofs.YtmjcpkmongafnaaGreatDoor.Ss
namespace Go.Proofs.YtmjcpkmongafnaaGreatDoor.Ss
open Go Go.Proofs.YtmjcpkmongafnaaGreatDoor.Ab Go.Proofs.YtmjcpkmongafnaaGreatDoor.TT
def okC(m:ah):Bool:=decide (0<=m.a_.V/\m.a_.V<(m.s_.Mem.length:Int))
theorem cell_m{m:ah}:bX.f m=some (if okC m=true then .inr (m,m.a_.V) else .inl 3):=by
 unfold bX.f okC
 by_cases h:0<=m.a_.V
 ·rw[if_pos h,fW,bsome]
  by_cases q:m.a_.V<(m.s_.Mem.length:Int)
  ·rw[decide_eq_true q,decide_eq_true (show 0<=m.a_.V/\m.a_.V<(m.s_.Mem.length:Int) from ⟨h,q⟩)];rfl
  ·rw[decide_eq_false q,decide_eq_false (show ¬(0<=m.a_.V/\m.a_.V<(m.s_.Mem.length:Int)) from fun w=>q w.2)];rfl
 ·rw[if_neg (show ¬m.a_.V>=0 by omega),fW,bsome,decide_eq_false (show ¬(0<=m.a_.V/\m.a_.V<(m.s_.Mem.length:Int)) from fun w=>h w.1)];rfl
def mm(s:aa)(v:Int):am:=s.Mem.getD v.toNat ⟨0,0⟩
theorem mm_at{s:aa} {v:Int}(h0:0<=v)(h1:v<(s.Mem.length:Int)):lAt s.Mem v=some (mm s v):=by
 have e:v=((v.toNat:Nat):Int):=by omega
 have hlt:v.toNat<s.Mem.length:=by omega
 unfold mm
 rw[List.getD_eq_getElem?_getD,List.getElem?_eq_getElem hlt]
 conv=>lhs;rw[e]
 rw[bx hlt];rfl
def loadM(m:ah):ah:=⟨m.l_,m.s_,m.x_,sl m.s_.Stack 0,m.b_,m.r_,(m.s_.Stack.length:Int)-1,⟨(sl m.s_.Stack 0).L,(mm m.s_ (sl m.s_.Stack 0).V).L,m.one_.x2_⟩⟩
theorem loads_m{m:ah}(hn:m.s_.Stack.length<=1000):cO.f m=some (if okT m.s_.Stack 0=true/\okC (firstM m)=true then .inr (loadM m) else .inl 3):=by
 unfold cO.f
 rw[f9 hn,bsome]
 cases h0:okT m.s_.Stack 0 with
 |false=>rfl
 |true=>
  show (bX.f (firstM m)>>=_)=_
  rw[cell_m,bsome]
  cases h1:okC (firstM m) with
  |false=>rfl
  |true=>
   unfold okC at h1
   obtain⟨a,b⟩:=of_decide_eq_true h1
   show (lAt m.s_.Mem (sl m.s_.Stack 0).V>>=_)=_
   rw[show lAt m.s_.Mem (sl m.s_.Stack 0).V=some (mm m.s_ (sl m.s_.Stack 0).V) from mm_at a b,bsome];rfl
def storeM(m:ah):ah:=⟨m.l_,m.s_,m.x_,sl m.s_.Stack 0,sl m.s_.Stack 1,m.r_,(m.s_.Stack.length:Int)-2,⟨(sl m.s_.Stack 0).L,(sl m.s_.Stack 1).L,(mm m.s_ (sl m.s_.Stack 0).V).L⟩⟩
theorem lZ{m:ah}(hn:m.s_.Stack.length<=1000):cD.f m=some (if (okT m.s_.Stack 0=true/\okT m.s_.Stack 1=true)/\okC (firstM m)=true then .inr (storeM m) else .inl 3):=by
 unfold cD.f
 rw[jv hn,bsome]
 by_cases h:okT m.s_.Stack 0=true/\okT m.s_.Stack 1=true
 ·rw[if_pos h]
  show (bX.f (bothM m)>>=_)=_
  rw[cell_m,bsome]
  have e:okC (bothM m)=okC (firstM m):=rfl
  rw[e]
  cases h1:okC (firstM m) with
  |false=>rw[if_neg (show ¬((okT m.s_.Stack 0=true/\okT m.s_.Stack 1=true)/\false=true) from fun w=>by cases w.2)];rfl
  |true=>
   rw[if_pos (show ((okT m.s_.Stack 0=true/\okT m.s_.Stack 1=true)/\true=true) from ⟨h,rfl⟩)]
   unfold okC at h1
   obtain⟨a,b⟩:=of_decide_eq_true h1
   show (lAt m.s_.Mem (sl m.s_.Stack 0).V>>=_)=_
   rw[show lAt m.s_.Mem (sl m.s_.Stack 0).V=some (mm m.s_ (sl m.s_.Stack 0).V) from mm_at a b,bsome];rfl
 ·rw[if_neg h,if_neg (show ¬((okT m.s_.Stack 0=true/\okT m.s_.Stack 1=true)/\okC (firstM m)=true) from fun w=>h w.1)]
theorem goes_m{m:ah}(hn:m.s_.Stack.length<=1000):cq.f m=some (if okT m.s_.Stack 0=true/\plaB (sl m.s_.Stack 0).V=true then .inr (firstM m) else .inl 3):=by
 unfold cq.f
 rw[f9 hn,bsome]
 cases h0:okT m.s_.Stack 0 with
 |false=>rfl
 |true=>
  show (((if (sl m.s_.Stack 0).V>=0 then (bF.f (decide ((sl m.s_.Stack 0).V<=12))>>=_) else (bF.f false>>=_)):Option ((Pn⊕ah)⊕Unit))>>=_)=_
  unfold plaB
  by_cases h:(sl m.s_.Stack 0).V>=0
  ·rw[if_pos h,fW,bsome]
   by_cases q:(sl m.s_.Stack 0).V<=12
   ·rw[decide_eq_true q,decide_eq_true (show (sl m.s_.Stack 0).V>=0/\(sl m.s_.Stack 0).V<=12 from ⟨h,q⟩)];rfl
   ·rw[decide_eq_false q,decide_eq_false (show ¬((sl m.s_.Stack 0).V>=0/\(sl m.s_.Stack 0).V<=12) from fun w=>q w.2)];rfl
  ·rw[if_neg h,fW,bsome,decide_eq_false (show ¬((sl m.s_.Stack 0).V>=0/\(sl m.s_.Stack 0).V<=12) from fun w=>h w.1)];rfl
def frU(S:List al):Nat->Nat
 |0=>0
 |k+1=>if (S.getD k ⟨true,0,0⟩).Ret=true then k+1 else frU S k
theorem frU_le(S:List al):∀k,frU S k<=k
 |0=>Nat.le_refl _
 |k+1=>by
  unfold frU
  split
  ·exact Nat.le_refl _
  ·exact Nat.le_succ_of_le (frU_le S k)
theorem ret_l{m:ah}(hn:m.s_.Stack.length<=1000):∀k,k<=m.s_.Stack.length->aG.l0 m (k:Int)=some (frU m.s_.Stack k:Int)/\aG.l1 m (k:Int)=some (frU m.s_.Stack k:Int)
 |0,_=>by
  constructor
  ·rw[aG.l0,if_neg (by omega),bsome,if_neg (by decide)];rfl
  ·rw[aG.l1,if_neg (by omega),bsome,if_neg (by decide)];rfl
 |k+1,h=>by
  obtain⟨i0,i1⟩:=ret_l hn k (by omega)
  have e:IntKind.i64.wrap (((k+1:Nat):Int)-1)=(k:Int):=by rw[wrapZ (by omega) (by omega)];omega
  have g:m.s_.Stack.getD k ⟨true,0,0⟩=m.s_.Stack[k]:=by simp[show k<m.s_.Stack.length by omega]
  constructor
  ·rw[aG.l0,if_pos (by omega),e,bx (by omega),bsome,bsome]
   unfold frU
   rw[g]
   cases hr:m.s_.Stack[k].Ret with
   |true=>rw[if_neg (show ¬(!true)=true by decide),if_pos (show true=true from rfl)]
   |false=>rw[if_pos (show (!false)=true from rfl),if_neg (show ¬false=true by decide)];exact i0
  ·rw[aG.l1,if_pos (by omega),e,bx (by omega),bsome,bsome]
   unfold frU
   rw[g]
   cases hr:m.s_.Stack[k].Ret with
   |true=>rw[if_neg (show ¬(!true)=true by decide),if_pos (show true=true from rfl)]
   |false=>rw[if_pos (show (!false)=true from rfl),if_neg (show ¬false=true by decide)];exact i1
end Go.Proofs.YtmjcpkmongafnaaGreatDoor.Ss
namespace Go.Proofs.YtmjcpkmongafnaaGreatDoor.Ss
open Go Go.Proofs.YtmjcpkmongafnaaGreatDoor.Ab Go.Proofs.YtmjcpkmongafnaaGreatDoor.TT
def callB(S:List al):Nat->Nat->Bool
 |_,0=>true
 |i,k+1=>okT S (1+i)&&callB S (i+1) k
theorem ld{S:List al}:∀{k i:Nat},callB S i (k+1)=true->1+i+k<S.length
 |0,i,h=>by
  unfold callB okT at h
  rw[Bool.and_eq_true,Bool.and_eq_true,decide_eq_true_eq] at h
  exact h.1.1
 |k+1,i,h=>by
  unfold callB at h
  rw[Bool.and_eq_true] at h
  have:=ld h.2
  omega
theorem call_l{y m:ah}(hn:m.s_.Stack.length<=1000):∀k i:Nat,y.x_.N=((i+k:Nat):Int)->i+k<=900->
  bg.l0 y m (i:Int)=some (if callB m.s_.Stack i k=true then .inr m else .inl (.inl 3))
 |0,i,h,hb=>by
  rw[bg.l0,if_neg (by omega)];rfl
 |k+1,i,h,hb=>by
  rw[bg.l0,if_pos (by omega)]
  have e1:IntKind.i64.wrap (1+(i:Int))=((1+i:Nat):Int):=by rw[wrapZ (by omega) (by omega)];omega
  have e2:IntKind.i64.wrap ((i:Int)+1)=((i+1:Nat):Int):=by rw[wrapZ (by omega) (by omega)];omega
  rw[e1,atom_m hn (by omega),bsome]
  unfold callB
  cases h0:okT m.s_.Stack (1+i) with
  |false=>rfl
  |true=>
   rw[Bool.true_and]
   show bg.l0 y m (IntKind.i64.wrap ((i:Int)+1))=_
   rw[e2]
   exact call_l hn k (i+1) (by omega) (by omega)
theorem calls_m{m:ah}(hn:m.s_.Stack.length<=1000){k:Nat}(hk:m.x_.N=(k:Int))(hb:k<=900):
  bg.f m=some (if (okT m.s_.Stack 0=true/\plaB (sl m.s_.Stack 0).V=true)/\callB m.s_.Stack 0 k=true then .inr (firstM m) else .inl 3):=by
 unfold bg.f
 rw[goes_m hn,bsome]
 by_cases h:okT m.s_.Stack 0=true/\plaB (sl m.s_.Stack 0).V=true
 ·rw[if_pos h]
  show (bg.l0 (firstM m) (firstM m) 0>>=_)=_
  have q:=call_l (y:=firstM m) (m:=firstM m) hn k 0 (by rw[Nat.zero_add];exact hk) (by omega)
  rw[show ((0:Nat):Int)=0 from rfl] at q
  rw[q,bsome]
  show (match (if callB m.s_.Stack 0 k=true then .inr (firstM m) else .inl (.inl 3):(Pn⊕ah)⊕ah) with|.inl r=>some r|.inr x14=>some (.inr x14))=_
  cases h1:callB m.s_.Stack 0 k with
  |false=>rw[if_neg (show ¬((okT m.s_.Stack 0=true/\plaB (sl m.s_.Stack 0).V=true)/\false=true) from fun w=>by cases w.2)];rfl
  |true=>rw[if_pos (show ((okT m.s_.Stack 0=true/\plaB (sl m.s_.Stack 0).V=true)/\true=true) from ⟨h,rfl⟩)];rfl
 ·rw[if_neg h,if_neg (show ¬((okT m.s_.Stack 0=true/\plaB (sl m.s_.Stack 0).V=true)/\callB m.s_.Stack 0 k=true) from fun w=>h w.1)]
def retM(m:ah)(k:Nat):ah:=⟨m.l_,m.s_,m.x_,m.a_,m.b_,m.s_.Stack.getD (k-1) ⟨true,0,0⟩,(k:Int)-1,⟨m.one_.x0_,(m.s_.Stack.getD (k-1) ⟨true,0,0⟩).L,m.one_.x2_⟩⟩
theorem getD_is{S:List al} {k:Nat}(h:k<S.length):S.getD k ⟨true,0,0⟩=S[k]:=by simp[h]
theorem ret_end{m:ah}(hn:m.s_.Stack.length<=1000){k:Nat}(hk:k<=m.s_.Stack.length):
  (bF.f (decide ((k:Int)>0))>>=fun z25=>match z25 with|.inl p26=>(some (.inl p26):Option (Pn⊕ah))|.inr y27=>lAt m.s_.Stack (IntKind.i64.wrap ((k:Int)-1))>>=fun y28=>some (.inr (⟨m.l_,m.s_,m.x_,m.a_,m.b_,y28,IntKind.i64.wrap ((k:Int)-1),⟨m.one_.x0_,y28.L,m.one_.x2_⟩⟩:ah)))=some (if 0<k then .inr (retM m k) else .inl 3):=by
 rw[fW,bsome]
 by_cases h:0<k
 ·rw[decide_eq_true (show (k:Int)>0 by omega),if_pos h]
  have e:IntKind.i64.wrap ((k:Int)-1)=((k-1:Nat):Int):=by rw[wrapZ (by omega) (by omega)];omega
  have e':(k:Int)-1=((k-1:Nat):Int):=by omega
  show (lAt m.s_.Stack (IntKind.i64.wrap ((k:Int)-1))>>=_)=_
  rw[e,bx (by omega),bsome]
  unfold retM
  rw[getD_is (by omega),e']
 ·rw[decide_eq_false (show ¬(k:Int)>0 by omega),if_neg h];rfl
theorem lg{m:ah}(hn:m.s_.Stack.length<=1000):
  aG.f m=some (if m.x_.N=1 then (if okT m.s_.Stack 0=true/\0<frU m.s_.Stack (m.s_.Stack.length-1) then .inr (retM (firstM m) (frU m.s_.Stack (m.s_.Stack.length-1))) else .inl 3) else (if 0<frU m.s_.Stack m.s_.Stack.length then .inr (retM m (frU m.s_.Stack m.s_.Stack.length)) else .inl 3)):=by
 unfold aG.f
 by_cases h:m.x_.N=1
 ·rw[if_pos h,if_pos h]
  have q:=f9 (m:=⟨m.l_,m.s_,m.x_,m.a_,m.b_,m.r_,(m.s_.Stack.length:Int),m.one_⟩) hn
  rw[q,bsome]
  show (match (if okT m.s_.Stack 0=true then .inr (firstM m) else .inl 3:Pn⊕ah) with|.inl p3=>_|.inr y4=>_)=_
  cases h0:okT m.s_.Stack 0 with
  |false=>rw[if_neg (show ¬(false=true/\0<frU m.s_.Stack (m.s_.Stack.length-1)) from fun w=>by cases w.1)];rfl
  |true=>
   have hp:0<m.s_.Stack.length:=by
    unfold okT at h0
    rw[Bool.and_eq_true,decide_eq_true_eq] at h0
    exact h0.1
   have e:(m.s_.Stack.length:Int)-1=((m.s_.Stack.length-1:Nat):Int):=by omega
   have hf:=frU_le m.s_.Stack (m.s_.Stack.length-1)
   show (aG.l0 (firstM m) ((m.s_.Stack.length:Int)-1)>>=_)=_
   rw[e,(ret_l (m:=firstM m) hn (m.s_.Stack.length-1) (show m.s_.Stack.length-1<=m.s_.Stack.length by omega)).1,bsome]
   have q:=ret_end (m:=firstM m) hn (k:=frU m.s_.Stack (m.s_.Stack.length-1)) (show _<=m.s_.Stack.length by omega)
   refine Eq.trans q ?_
   simp only[true_and]
 ·rw[if_neg h,if_neg h,(ret_l hn m.s_.Stack.length (Nat.le_refl _)).2,bsome]
  exact ret_end hn (frU_le _ _)
end Go.Proofs.YtmjcpkmongafnaaGreatDoor.Ss
namespace Go.Proofs.YtmjcpkmongafnaaGreatDoor.Ss
open Go Go.Proofs.YtmjcpkmongafnaaGreatDoor.Ab Go.Proofs.YtmjcpkmongafnaaGreatDoor.TT
structure Fine(P:Int->Prop)(a m:ah):Prop where
 l:m.l_=a.l_
 s:m.s_=a.s_
 x:m.x_=a.x_
 lo:0<=m.below_
 hi:m.below_<=(a.s_.Stack.length:Int)
 o0:P m.one_.x0_
 o1:P m.one_.x1_
 o2:P m.one_.x2_
 c:a.x_.Op=5\/a.x_.Op=6->okC m=true
 g:a.x_.Op=9->a.x_.N<=m.below_
structure Start(P:Int->Prop)(a:ah):Prop where
 n:a.s_.Stack.length<=1000
 o0:P a.one_.x0_
 o1:P a.one_.x1_
 o2:P a.one_.x2_
 st:∀x∈a.s_.Stack,P x.L
 me:∀x∈a.s_.Mem,P x.L
 op:0<=a.x_.Op/\a.x_.Op<=12
 im:a.x_.Op=1->P a.x_.L
 cn:a.x_.Op=9->0<=a.x_.N/\a.x_.N<=3
theorem sl_P{P:Int->Prop} {S:List al}(h:∀x∈S,P x.L){d:Nat}(k:okT S d=true):P (sl S d).L:=by
 unfold okT at k
 rw[Bool.and_eq_true,decide_eq_true_eq] at k
 rw[sl_at k.1]
 exact h _ (List.getElem_mem _)
theorem okT_lt{S:List al} {d:Nat}(k:okT S d=true):d<S.length:=by
 unfold okT at k
 rw[Bool.and_eq_true,decide_eq_true_eq] at k
 exact k.1
theorem mm_P{P:Int->Prop} {m:ah}(h:∀x∈m.s_.Mem,P x.L)(k:okC m=true):P (mm m.s_ m.a_.V).L:=by
 unfold okC at k
 have k:=of_decide_eq_true k
 have hlt:m.a_.V.toNat<m.s_.Mem.length:=by omega
 unfold mm
 rw[List.getD_eq_getElem?_getD,List.getElem?_eq_getElem hlt]
 exact h _ (List.getElem_mem _)
theorem getD_P{P:Int->Prop} {S:List al}(h:∀x∈S,P x.L){k:Nat}(hk:k<S.length):P (S.getD k ⟨true,0,0⟩).L:=by
 rw[getD_is hk]
 exact h _ (List.getElem_mem _)
theorem gJ{P:Int->Prop} {a m:ah}(z:Start P a)(hm:m.l_=a.l_/\m.s_=a.s_/\m.x_=a.x_/\m.one_=a.one_)(k:okT a.s_.Stack 0=true)(n5:¬(a.x_.Op=5\/a.x_.Op=6))(n9:a.x_.Op=9->a.x_.N<=(a.s_.Stack.length:Int)-1):Fine P a (firstM m):=by
 obtain⟨h1,h2,h3,h4⟩:=hm
 have hp:=okT_lt k
 refine⟨h1,h2,h3,?_,?_,?_,?_,?_,fun w=>absurd w n5,?_⟩
 ·show 0<=(m.s_.Stack.length:Int)-1
  rw[h2];omega
 ·show (m.s_.Stack.length:Int)-1<=_
  rw[h2];omega
 ·show P (sl m.s_.Stack 0).L
  rw[h2];exact sl_P z.st k
 ·show P m.one_.x1_
  rw[h4];exact z.o1
 ·show P m.one_.x2_
  rw[h4];exact z.o2
 ·intro w
  show a.x_.N<=(m.s_.Stack.length:Int)-1
  rw[h2];exact n9 w
theorem lh{P:Int->Prop} {a m:ah}(z:Start P a)(hm:m.l_=a.l_/\m.s_=a.s_/\m.x_=a.x_/\m.one_=a.one_)(k:okT a.s_.Stack 0=true)(k1:okT a.s_.Stack 1=true)(n5:¬(a.x_.Op=5\/a.x_.Op=6))(n9:a.x_.Op≠9):Fine P a (bothM m):=by
 obtain⟨h1,h2,h3,h4⟩:=hm
 have hp:=okT_lt k1
 refine⟨h1,h2,h3,?_,?_,?_,?_,?_,fun w=>absurd w n5,fun w=>absurd w n9⟩
 ·show 0<=(m.s_.Stack.length:Int)-2
  rw[h2];omega
 ·show (m.s_.Stack.length:Int)-2<=_
  rw[h2];omega
 ·show P (sl m.s_.Stack 0).L
  rw[h2];exact sl_P z.st k
 ·show P (sl m.s_.Stack 1).L
  rw[h2];exact sl_P z.st k1
 ·show P m.one_.x2_
  rw[h4];exact z.o2
end Go.Proofs.YtmjcpkmongafnaaGreatDoor.Ss
namespace Go.Proofs.YtmjcpkmongafnaaGreatDoor.Ss
open Go Go.Proofs.YtmjcpkmongafnaaGreatDoor.Ab Go.Proofs.YtmjcpkmongafnaaGreatDoor.TT
def Ans(P:Int->Prop)(a:ah)(e:Option (Pn⊕ah)):Prop:=
 ∃r,e=some r/\(match r with|.inl p=>p=3|.inr m=>Fine P a m)
theorem gh{P:Int->Prop} {a m:ah} {c:Prop}[Decidable c]{e:Option (Pn⊕ah)}(h:e=some (if c then .inr m else .inl 3))(k:c->Fine P a m):Ans P a (e>>=fun z=>match z with|.inl p=>some (.inl p)|.inr y=>some (.inr y)):=by
 rw[h,bsome]
 by_cases q:c
 ·rw[if_pos q];exact⟨_,rfl,k q⟩
 ·rw[if_neg q];exact⟨_,rfl,rfl⟩
def topM(a:ah):ah:=⟨a.l_,a.s_,a.x_,a.a_,a.b_,a.r_,(a.s_.Stack.length:Int),a.one_⟩
theorem l5{P:Int->Prop} {a m:ah}(z:Start P a)(hm:m.l_=a.l_/\m.s_=a.s_/\m.x_=a.x_)(o0:P m.one_.x0_)(o2:P m.one_.x2_){k:Nat}(h0:0<k)(hk:k<=a.s_.Stack.length)(n5:¬(a.x_.Op=5\/a.x_.Op=6))(n9:a.x_.Op≠9):Fine P a (retM m k):=by
 obtain⟨h1,h2,h3⟩:=hm
 refine⟨h1,h2,h3,?_,?_,o0,?_,o2,fun w=>absurd w n5,fun w=>absurd w n9⟩
 ·show 0<=(k:Int)-1
  omega
 ·show (k:Int)-1<=_
  omega
 ·show P (m.s_.Stack.getD (k-1) ⟨true,0,0⟩).L
  rw[h2]
  exact getD_P z.st (by omega)
theorem needs_a{P:Int->Prop} {a:ah}(z:Start P a):Ans P a (bG.f a):=by
 have hn:(topM a).s_.Stack.length<=1000:=z.n
 have hop:=z.op
 have same:(topM a).l_=a.l_/\(topM a).s_=a.s_/\(topM a).x_=a.x_/\(topM a).one_=a.one_:=⟨rfl,rfl,rfl,rfl⟩
 unfold bG.f
 by_cases c0:a.x_.Op=0
 ·rw[if_pos c0]
  exact⟨_,rfl,⟨rfl,rfl,rfl,Int.natCast_nonneg _,Int.le_refl _,z.o0,z.o1,z.o2,fun w=>by omega,fun w=>by omega⟩⟩
 rw[if_neg c0]
 by_cases c12:a.x_.Op=12
 ·rw[if_pos c12]
  exact⟨_,rfl,⟨rfl,rfl,rfl,Int.natCast_nonneg _,Int.le_refl _,z.o0,z.o1,z.o2,fun w=>by omega,fun w=>by omega⟩⟩
 rw[if_neg c12]
 by_cases c1:a.x_.Op=1
 ·rw[if_pos c1]
  exact⟨_,rfl,⟨rfl,rfl,rfl,Int.natCast_nonneg _,Int.le_refl _,z.im c1,z.o1,z.o2,fun w=>by omega,fun w=>by omega⟩⟩
 rw[if_neg c1]
 by_cases c2:a.x_.Op=2
 ·rw[if_pos c2]
  exact gh (f9 (m:=topM a) hn) (fun q=>gJ z same q (by omega) (by omega))
 rw[if_neg c2]
 by_cases c11:a.x_.Op=11
 ·rw[if_pos c11]
  exact gh (f9 (m:=topM a) hn) (fun q=>gJ z same q (by omega) (by omega))
 rw[if_neg c11]
 by_cases c3:a.x_.Op=3
 ·rw[if_pos c3]
  exact gh (jv (m:=topM a) hn) (fun q=>lh z same q.1 q.2 (by omega) (by omega))
 rw[if_neg c3]
 by_cases c4:a.x_.Op=4
 ·rw[if_pos c4]
  exact gh (jv (m:=topM a) hn) (fun q=>lh z same q.1 q.2 (by omega) (by omega))
 rw[if_neg c4]
 by_cases c5:a.x_.Op=5
 ·rw[if_pos c5]
  refine gh (loads_m (m:=topM a) hn) (fun q=>?_)
  have hp:=okT_lt q.1
  refine⟨rfl,rfl,rfl,?_,?_,sl_P z.st q.1,mm_P (m:=firstM (topM a)) z.me q.2,z.o2,fun _=>q.2,fun w=>by omega⟩
  ·show 0<=(a.s_.Stack.length:Int)-1
   have:0<a.s_.Stack.length:=hp
   omega
  ·show (a.s_.Stack.length:Int)-1<=_
   omega
 rw[if_neg c5]
 by_cases c6:a.x_.Op=6
 ·rw[if_pos c6]
  refine gh (lZ (m:=topM a) hn) (fun q=>?_)
  have hp:=okT_lt q.1.2
  refine⟨rfl,rfl,rfl,?_,?_,sl_P z.st q.1.1,sl_P z.st q.1.2,mm_P (m:=firstM (topM a)) z.me q.2,fun _=>q.2,fun w=>by omega⟩
  ·show 0<=(a.s_.Stack.length:Int)-2
   have:1<a.s_.Stack.length:=hp
   omega
  ·show (a.s_.Stack.length:Int)-2<=_
   omega
 rw[if_neg c6]
 by_cases c7:a.x_.Op=7
 ·rw[if_pos c7]
  exact gh (goes_m (m:=topM a) hn) (fun q=>gJ z same q.1 (by omega) (by omega))
 rw[if_neg c7]
 by_cases c8:a.x_.Op=8
 ·rw[if_pos c8]
  exact gh (f9 (m:=topM a) hn) (fun q=>gJ z same q (by omega) (by omega))
 rw[if_neg c8]
 by_cases c9:a.x_.Op=9
 ·rw[if_pos c9]
  obtain⟨q0,q3⟩:=z.cn c9
  have e:(topM a).x_.N=((a.x_.N.toNat:Nat):Int):=by show a.x_.N=_;omega
  refine gh (calls_m (m:=topM a) hn e (by omega)) (fun q=>gJ z same q.1.1 (by omega) (fun _=>?_))
  have hp:0<a.s_.Stack.length:=okT_lt q.1.1
  cases hN:a.x_.N.toNat with
  |zero=>omega
  |succ k=>
   have q2:=q.2
   rw[hN] at q2
   have:1+0+k<a.s_.Stack.length:=ld q2
   omega
 rw[if_neg c9]
 have c10:a.x_.Op=10:=by omega
 rw[if_pos c10]
 have r:=lg (m:=topM a) hn
 by_cases cN:(topM a).x_.N=1
 ·rw[if_pos cN] at r
  refine gh r (fun q=>?_)
  have hf:=frU_le a.s_.Stack (a.s_.Stack.length-1)
  exact l5 (m:=firstM (topM a)) z ⟨rfl,rfl,rfl⟩ (sl_P z.st q.1) z.o2 q.2 (Nat.le_trans hf (Nat.sub_le _ _)) (by omega) (by omega)
 ·rw[if_neg cN] at r
  refine gh r (fun q=>?_)
  exact l5 (m:=topM a) z ⟨rfl,rfl,rfl⟩ z.o0 z.o2 q (frU_le _ _) (by omega) (by omega)
end Go.Proofs.YtmjcpkmongafnaaGreatDoor.Ss
namespace Go.Proofs.YtmjcpkmongafnaaGreatDoor.Ss
open Go Go.Proofs.YtmjcpkmongafnaaGreatDoor.Ab Go.Proofs.YtmjcpkmongafnaaGreatDoor.TT
theorem clone_s{S:List al}(h:S.length<=1000):bB.f S=some S:=by
 have hB:100000<=big:=by decide
 unfold bB.f
 rw[if_pos (show (([]:List al).length+S.length)*24<=big by simp;omega)];rfl
theorem jE{S:List am}(h:S.length<=1000):aQ.f S=some S:=by
 have hB:100000<=big:=by decide
 unfold aQ.f
 rw[if_pos (show (([]:List am).length+S.length)*16<=big by simp;omega)];rfl
theorem put_m{m:ah}(h:m.s_.Stack.length<=1000)(v l:Int):bP.f m v l=some ⟨m.l_,⟨m.s_.Pc,m.s_.Code,m.s_.Mem,m.s_.Stack++[⟨false,v,l⟩],m.s_.Out⟩,m.x_,m.a_,m.b_,m.r_,m.below_,m.one_⟩:=by
 have hB:100000<=big:=by decide
 unfold bP.f
 rw[if_pos (show (m.s_.Stack.length+([(⟨false,v,l⟩:al)]:List al).length)*24<=big by simp;omega)]
theorem mF{xss:List (List al)}(h:∀x∈xss,x.length<=1000):xss.flatten.length<=xss.length*1000:=by
 induction xss with
 |nil=>simp
 |cons a r ih=>
  have ha:=h a (by simp)
  have:=ih (fun x hx=>h x (by simp[hx]))
  simp only[List.flatten_cons,List.length_append,List.length_cons,Nat.succ_mul]
  omega
theorem li{xss:List (List al)}(hn:xss.length<=100)(h:∀x∈xss,x.length<=1000):∀(d k:Nat) (v:Nat),xss.length=k+d->v<=k*1000->aA.l0 xss (k:Int) (v:Int)=some ((v+(xss.drop k).flatten.length:Nat):Int)
 |0,k,v,e,hv=>by
  rw[aA.l0,if_neg (by omega),List.drop_of_length_le (by omega)];simp
 |d+1,k,v,e,hv=>by
  have hk:k<xss.length:=by omega
  have hx:=h xss[k] (List.getElem_mem hk)
  have ih:=li hn h d (k+1) (v+xss[k].length) (by omega) (by rw[Nat.succ_mul];omega)
  have hw:IntKind.i64.wrap ((v:Int)+(xss[k].length:Int))=((v+xss[k].length:Nat):Int):=by rw[wrapZ (by omega) (by omega)];omega
  rw[aA.l0,if_pos (by omega),bx hk,bsome,hw,if_neg (by omega),bsome,wS (by omega),ih,List.drop_eq_getElem_cons hk]
  simp only[List.flatten_cons,List.length_append]
  rw[Nat.add_assoc]
theorem lj{xss:List (List al)}(hn:xss.length<=100)(h:∀x∈xss,x.length<=1000):∀(d k:Nat) (v:List al),xss.length=k+d->v.length<=k*1000->aA.l1 xss v (k:Int)=some (v++(xss.drop k).flatten)
 |0,k,v,e,hv=>by
  rw[aA.l1,if_neg (by omega),List.drop_of_length_le (by omega)];simp
 |d+1,k,v,e,hv=>by
  have hk:k<xss.length:=by omega
  have hx:=h xss[k] (List.getElem_mem hk)
  have hB:10000000<=big:=by decide
  have ih:=lj hn h d (k+1) (v++xss[k]) (by omega) (by rw[Nat.succ_mul];simp;omega)
  rw[aA.l1,if_pos (by omega),bx hk,bsome,if_pos (by omega),wS (by omega),ih,List.drop_eq_getElem_cons hk]
  simp only[List.flatten_cons,List.append_assoc]
theorem grow_eq{n:Nat}(h:n<=100000):cU.f (n:Int)=some []:=by
 unfold cU.f
 have h1:IntKind.i64.wrap (0-(([]:List al).length:Int))=0:=by decide
 have h2:IntKind.i64.wrap ((n:Int)-0)=(n:Int):=by rw[wrapZ (by omega) (by omega)];omega
 have hB:10000000<=big:=by decide
 rw[if_neg (by omega),h1,h2]
 by_cases h0:(n:Int)>0
 ·rw[if_pos h0,if_pos ⟨h0,by simp;omega⟩,if_pos ⟨by simp,by simp⟩];rfl
 ·rw[if_neg h0]
theorem ll{xss:List (List al)}(hn:xss.length<=100)(h:∀x∈xss,x.length<=1000):aA.f xss=some xss.flatten:=by
 unfold aA.f
 have h1:=li hn h xss.length 0 0 (by omega) (by omega)
 have h2:=lj hn h xss.length 0 [] (by omega) (by simp)
 have h3:=mF h
 have h4:xss.length*1000<=100*1000:=Nat.mul_le_mul_right _ hn
 rw[show ((0:Nat):Int)=0 from rfl,List.drop_zero,Nat.zero_add] at h1
 rw[show ((0:Nat):Int)=0 from rfl,List.drop_zero,List.nil_append] at h2
 rw[h1,bsome,grow_eq (by omega),bsome,h2,bsome]
end Go.Proofs.YtmjcpkmongafnaaGreatDoor.Ss
namespace Go.Proofs.YtmjcpkmongafnaaGreatDoor.Ss
open Go Go.Proofs.YtmjcpkmongafnaaGreatDoor.Ab Go.Proofs.YtmjcpkmongafnaaGreatDoor.TT
structure Kept(a m:ah):Prop where
 code:m.s_.Code=a.s_.Code
 mem:m.s_.Mem.length=a.s_.Mem.length
 st:m.s_.Stack.length<=a.s_.Stack.length+1
 out:m.s_.Out=a.s_.Out\/∃x,m.s_.Out=a.s_.Out++[x]
theorem kept_bind{a:ah} {e:Option (ah×Int)}(h:∃m p,e=some (m,p)/\Kept a m):∃m,(e>>=fun o=>match o with|(x28,x29)=>some (⟨x28.l_,⟨⟨x29,x28.s_.Pc.L⟩,x28.s_.Code,x28.s_.Mem,x28.s_.Stack,x28.s_.Out⟩,x28.x_,x28.a_,x28.b_,x28.r_,x28.below_,x28.one_⟩:ah))=some m/\Kept a m:=by
 obtain⟨m,p,h1,h2⟩:=h
 rw[h1,bsome]
 exact⟨_,rfl,⟨h2.code,h2.mem,h2.st,h2.out⟩⟩
theorem jb{α:Type} {xs:List α} {b:Int}:(lCut xs 0 b).length<=xs.length:=by
 simp[lCut];omega
theorem does_m{m:ah}(hn:m.s_.Stack.length<=900)(hm:m.s_.Mem.length<=900)(ho:m.s_.Out.length<=900)(lo:0<=m.below_)(hi:m.below_<=(m.s_.Stack.length:Int))(c:m.x_.Op=5\/m.x_.Op=6->okC m=true)(g:m.x_.Op=9->0<=m.x_.N/\m.x_.N<=m.below_)(v:Int):
  ∃r,dn.f m v=some r/\Kept m r:=by
 have hc:=jb (xs:=m.s_.Stack) (b:=m.below_)
 have hB:100000<=big:=by decide
 unfold dn.f
 rw[if_pos ⟨lo,hi⟩,clone_s (by omega),bsome]
 refine kept_bind ?_
 have hput:∀(x:Int),bP.f (⟨m.l_,⟨m.s_.Pc,m.s_.Code,m.s_.Mem,lCut m.s_.Stack 0 m.below_,m.s_.Out⟩,m.x_,m.a_,m.b_,m.r_,m.below_,m.one_⟩:ah) x v=some ⟨m.l_,⟨m.s_.Pc,m.s_.Code,m.s_.Mem,lCut m.s_.Stack 0 m.below_++[⟨false,x,v⟩],m.s_.Out⟩,m.x_,m.a_,m.b_,m.r_,m.below_,m.one_⟩:=fun x=>put_m (show (lCut m.s_.Stack 0 m.below_).length<=1000 by omega) x v
 have hst:∀x:Int,(lCut m.s_.Stack 0 m.below_++[(⟨false,x,v⟩:al)]).length<=m.s_.Stack.length+1:=fun x=>by simp only[List.length_append,List.length_singleton];omega
 by_cases c1:m.x_.Op=1
 ·rw[if_pos c1,hput,bsome];exact⟨_,_,rfl,⟨rfl,rfl,hst _,.inl rfl⟩⟩
 rw[if_neg c1]
 by_cases c3:m.x_.Op=3
 ·rw[if_pos c3,hput,bsome];exact⟨_,_,rfl,⟨rfl,rfl,hst _,.inl rfl⟩⟩
 rw[if_neg c3]
 by_cases c4:m.x_.Op=4
 ·rw[if_pos c4,hput,bsome];exact⟨_,_,rfl,⟨rfl,rfl,hst _,.inl rfl⟩⟩
 rw[if_neg c4]
 by_cases c5:m.x_.Op=5
 ·have k:=of_decide_eq_true (c (.inl c5))
  rw[if_pos c5,mm_at k.1 k.2,bsome,hput,bsome];exact⟨_,_,rfl,⟨rfl,rfl,hst _,.inl rfl⟩⟩
 rw[if_neg c5]
 by_cases c6:m.x_.Op=6
 ·have k:=of_decide_eq_true (c (.inr c6))
  rw[if_pos c6,jE (by omega),bsome,mm_at k.1 k.2,bsome]
  exact⟨_,_,rfl,⟨rfl,List.length_set,Nat.le_succ_of_le hc,.inl rfl⟩⟩
 rw[if_neg c6]
 by_cases c11:m.x_.Op=11
 ·rw[if_pos c11,jE (by omega),bsome,if_pos (show (m.s_.Out.length+([(⟨m.a_.V,v⟩:am)]:List am).length)*16<=big by simp;omega)]
  exact⟨_,_,rfl,⟨rfl,rfl,Nat.le_succ_of_le hc,.inr ⟨_,rfl⟩⟩⟩
 rw[if_neg c11]
 by_cases c7:m.x_.Op=7
 ·rw[if_pos c7];exact⟨_,_,rfl,⟨rfl,rfl,Nat.le_succ_of_le hc,.inl rfl⟩⟩
 rw[if_neg c7]
 by_cases c8:m.x_.Op=8
 ·rw[if_pos c8]
  split<;>exact⟨_,_,rfl,⟨rfl,rfl,Nat.le_succ_of_le hc,.inl rfl⟩⟩
 rw[if_neg c8]
 by_cases c9:m.x_.Op=9
 ·obtain⟨g0,g1⟩:=g c9
  have e:IntKind.i64.wrap (m.below_-m.x_.N)=m.below_-m.x_.N:=wrapZ (by omega) (by omega)
  rw[if_pos c9,e,if_pos (by omega),if_pos (by omega),ll (by simp) (by
   intro x hx
   simp only[List.mem_cons,List.not_mem_nil,or_false] at hx
   rcases hx with rfl|rfl|rfl<;>simp[lCut]<;>omega),bsome]
  refine⟨_,_,rfl,⟨rfl,rfl,?_,.inl rfl⟩⟩
  simp[lCut];omega
 rw[if_neg c9]
 by_cases c10:m.x_.Op=10
 ·rw[if_pos c10]
  by_cases cn:m.x_.N=1
  ·rw[if_pos cn,hput,bsome];exact⟨_,_,rfl,⟨rfl,rfl,hst _,.inl rfl⟩⟩
  ·rw[if_neg cn];exact⟨_,_,rfl,⟨rfl,rfl,Nat.le_succ_of_le hc,.inl rfl⟩⟩
 rw[if_neg c10]
 exact⟨_,_,rfl,⟨rfl,rfl,Nat.le_succ_of_le hc,.inl rfl⟩⟩
end Go.Proofs.YtmjcpkmongafnaaGreatDoor.Ss
namespace Go.Proofs.YtmjcpkmongafnaaGreatDoor.Ss
open Go Go.Proofs.YtmjcpkmongafnaaGreatDoor.Ab Go.Proofs.YtmjcpkmongafnaaGreatDoor.TT
theorem cond_any{l:ab} {U:List Nat}(h:Nm l U){r labels:List Int}(hr:r.length<=900)(hl:labels.length<=900):∃b q,dU.f l r labels=some (b,q):=by
 by_cases hm:mayS l U r labels false=0
 ·obtain⟨hc,hR,h4,ha⟩:=lm hm
  obtain⟨t,h1,h2,h3,_⟩:=jX hR
  obtain⟨E,_⟩:=je_of h hc h4 ha
  subst h3
  exact⟨_,_,cond_is h E h1 h2 hr hl hm⟩
 ·exact⟨_,_,cond_no h hr hl hm⟩
theorem ln{l:ab} {U:List Nat}(h:Nm l U){r labels:List Int}(hr:r.length<=900)(hl:labels.length<=900):∃b q,cT.f l r labels=some (b,q):=by
 by_cases hm:mayS l U r labels true=0
 ·obtain⟨hc,hR,h4,ha⟩:=lm hm
  obtain⟨t,h1,h2,h3,_⟩:=jX hR
  obtain⟨E,_⟩:=je_of h hc h4 ha
  subst h3
  exact⟨_,_,l6 h E h1 h2 hr hl hm⟩
 ·exact⟨_,_,label_no h hr hl hm⟩
end Go.Proofs.YtmjcpkmongafnaaGreatDoor.Ss
namespace Go.Proofs.YtmjcpkmongafnaaGreatDoor.Ss
open Go Go.Proofs.YtmjcpkmongafnaaGreatDoor.Ab Go.Proofs.YtmjcpkmongafnaaGreatDoor.TT
theorem ins_of{n:Int} {x:ap}(h:insB n x=true):(0<=x.Op/\x.Op<=12)/\(x.Op=9->0<=x.N/\x.N<=3):=by
 unfold insB at h
 by_cases c1:x.Op=1
 ·exact⟨by omega,fun w=>by omega⟩
 ·rw[if_neg c1] at h
  obtain⟨a,b,_,d⟩:=of_decide_eq_true h
  refine⟨⟨a,b⟩,fun w=>?_⟩
  rw[if_neg (by omega),if_pos w] at d
  exact d
theorem plc_of{v:Int}(h:plaB v=true):0<=v/\v<=12:=by
 have:=of_decide_eq_true h
 exact⟨this.1,this.2⟩
structure RightS(n:Int)(s:aa):Prop where
 code:s.Code.length<=12
 ins:∀x∈s.Code,insB n x=true
 pc:0<=s.Pc.V/\s.Pc.V<=12
 mem:s.Mem.length<=6
 stack:s.Stack.length<=12
 out:s.Out.length<=8
theorem rs_of{n:Int} {s:aa}(h:rightS n s=true):RightS n s:=by
 unfold rightS at h
 simp only[Bool.and_eq_true] at h
 obtain⟨⟨⟨⟨⟨⟨h1,h2⟩,h3⟩,⟨h4,h5⟩,h6⟩,h7⟩,h8⟩,h9⟩:=h
 unfold rightB at h1
 rw[Bool.and_eq_true] at h1
 exact⟨of_decide_eq_true h1.1,List.all_eq_true.1 h1.2,plc_of h2,of_decide_eq_true h4,of_decide_eq_true h5,of_decide_eq_true h6⟩
theorem RightS.sz{n:Int} {s:aa}(h:RightS n s):Sz s:=⟨by have:=h.code;omega,by have:=h.mem;omega,by have:=h.stack;omega,by have:=h.out;omega⟩
def K(l:ab)(s:aa)(m:ah)(row:aE):Option (Pn⊕(aa×Int)):=
 dU.f l row.May ([s.Pc.L,m.one_.x0_,m.one_.x1_,m.one_.x2_]:List Int)>>=fun y11=>if (!y11.1)=true then (some (.inl 2)) else (cT.f l row.Res ([s.Pc.L,m.one_.x0_,m.one_.x1_,m.one_.x2_]:List Int)>>=fun y13=>cT.f l row.Pc ([s.Pc.L,m.one_.x0_,m.one_.x1_,m.one_.x2_]:List Int)>>=fun y14=>dn.f m y13.1>>=fun y15=>dW.f l (⟨⟨y15.s_.Pc.V,y14.1⟩,y15.s_.Code,y15.s_.Mem,y15.s_.Stack,y15.s_.Out⟩:aa)>>=fun y16=>bF.f y16>>=fun z17=>match z17 with|.inl p18=>some (.inl p18)|.inr y19=>some (.inr ((⟨⟨y15.s_.Pc.V,y14.1⟩,y15.s_.Code,y15.s_.Mem,y15.s_.Stack,y15.s_.Out⟩:aa),0)))
def mach(l:ab)(s:aa)(x:ap)(y:Int):ah:=⟨l,s,x,⟨false,0,0⟩,⟨false,0,0⟩,⟨false,0,0⟩,0,⟨y,y,y⟩⟩
theorem code_at{n:Int} {s:aa}(h:RightS n s)(h0:s.Pc.V<(s.Code.length:Int)):∃x,lAt s.Code s.Pc.V=some x/\x∈s.Code:=by
 have p:=h.pc
 have hlt:s.Pc.V.toNat<s.Code.length:=by omega
 have e:s.Pc.V=((s.Pc.V.toNat:Nat):Int):=by omega
 refine⟨s.Code[s.Pc.V.toNat],?_,List.getElem_mem hlt⟩
 have:=bx (xs:=s.Code) hlt
 rwa [<-e] at this
inductive Way(l:ab)(s:aa):Prop where
 |off (h:¬s.Pc.V<(s.Code.length:Int)) (e:∀R,cW.B l ⟨R⟩ s=some (.inl 3)):Way l s
 |no (x:ap) (hx:lAt s.Code s.Pc.V=some x) (h:s.Pc.V<(s.Code.length:Int)) (e:∀R,cW.B l ⟨R⟩ s=some (.inl 3)):Way l s
 |halt (x:ap) (hx:lAt s.Code s.Pc.V=some x) (h:s.Pc.V<(s.Code.length:Int)) (e:∀R,cW.B l ⟨R⟩ s=some (.inl 1)):Way l s
 |go (x:ap) (m:ah) (y:Int) (hx:lAt s.Code s.Pc.V=some x) (h:s.Pc.V<(s.Code.length:Int)) (op:0<=x.Op/\x.Op<=12) (cn:x.Op=9->0<=x.N/\x.N<=3) (hm:Fine (fun _=>True) (mach l s x y) m) (e:∀R,cW.B l ⟨R⟩ s=(lAt R x.Op>>=fun r=>K l s m r)):Way l s
theorem way{l:ab} {U:List Nat}(h:Nm l U)(hc:chk l U=0){n:Int} {s:aa}(z:RightS n s):Way l s:=by
 obtain⟨y,_,hb⟩:=jY h hc
 have hS:=z.stack
 by_cases h0:s.Pc.V<(s.Code.length:Int)
 ·obtain⟨x,ea,hm⟩:=code_at z h0
  obtain⟨i0,i1⟩:=ins_of (z.ins x hm)
  obtain⟨r,hr,hq⟩:=needs_a (P:=fun _=>True) (a:=mach l s x y) ⟨by show s.Stack.length<=1000;omega,trivial,trivial,trivial,fun _ _=>trivial,fun _ _=>trivial,i0,fun _=>trivial,i1⟩
  have hB:∀R,cW.B l ⟨R⟩ s=(match r with|.inl p7=>some (.inl p7)|.inr y8=>if y8.x_.Op=12 then (some (.inl 1)) else (lAt R y8.x_.Op>>=fun y10=>K l s y8 y10):Option (Pn⊕(aa×Int))):=by
   intro R
   unfold cW.B
   rw[fW,bsome,decide_eq_true h0]
   show (cR.f l>>=_)=_
   rw[hb,bsome,ea,bsome]
   unfold mach at hr
   show (bG.f (⟨l,s,x,⟨false,0,0⟩,⟨false,0,0⟩,⟨false,0,0⟩,0,⟨(y:Int),(y:Int),(y:Int)⟩⟩:ah)>>=_)=_
   rw[hr,bsome]
   cases r<;>rfl
  cases r with
  |inl p=>
   have hp:p=3:=hq
   subst hp
   exact .no x ea h0 hB
  |inr m=>
   have hq:Fine (fun _=>True) (mach l s x y) m:=hq
   have hx:m.x_=x:=hq.x
   by_cases h12:x.Op=12
   ·refine .halt x ea h0 fun R=>?_
    rw[hB R]
    show (if m.x_.Op=12 then _ else _)=_
    rw[hx,if_pos h12]
   ·refine .go x m y ea h0 i0 i1 hq fun R=>?_
    rw[hB R]
    show (if m.x_.Op=12 then _ else _)=_
    rw[hx,if_neg h12]
 ·refine .off h0 fun R=>?_
  unfold cW.B
  rw[fW,bsome,decide_eq_false h0];rfl
def Went(n:Int)(s:aa):Pn⊕(aa×Int)->Prop
 |.inl p=>p=1\/p=2\/p=3
 |.inr (t,q)=>q=0/\rightS n t=true/\t.Code=s.Code/\t.Mem.length=s.Mem.length/\t.Stack.length<=s.Stack.length+1/\(t.Out=s.Out\/∃x,t.Out=s.Out++[x])
theorem K_m{l:ab} {U:List Nat}(h:Nm l U)(hc:chk l U=0){n:Int} {s:aa}(z:RightS n s){x:ap} {m:ah} {y:Int}(op:0<=x.Op/\x.Op<=12)(cn:x.Op=9->0<=x.N/\x.N<=3)(hm:Fine (fun _=>True) (mach l s x y) m){row:aE}(h1:row.May.length<=900)(h2:row.Res.length<=900)(h3:row.Pc.length<=900):
  ∃r,K l s m row=some r/\Went (l.Up.length:Int) s r/\(∀p,r=.inl p->p=2\/p=3):=by
 have es:m.s_=s:=hm.s
 have ex:m.x_=x:=hm.x
 have zs:=z.stack
 have zm:=z.mem
 have zo:=z.out
 have zc:=z.code
 unfold K
 obtain⟨b,q,e1⟩:=cond_any h (r:=row.May) (labels:=[s.Pc.L,m.one_.x0_,m.one_.x1_,m.one_.x2_]) h1 (by simp)
 rw[e1,bsome]
 cases b with
 |false=>exact⟨_,rfl,.inr (.inl rfl),fun p hp=>by cases hp;exact .inl rfl⟩
 |true=>
  show∃r,(cT.f l row.Res _>>=_)=some r/\_
  obtain⟨v,q2,e2⟩:=ln h (r:=row.Res) (labels:=[s.Pc.L,m.one_.x0_,m.one_.x1_,m.one_.x2_]) h2 (by simp)
  obtain⟨w,q3,e3⟩:=ln h (r:=row.Pc) (labels:=[s.Pc.L,m.one_.x0_,m.one_.x1_,m.one_.x2_]) h3 (by simp)
  obtain⟨r,e4,k⟩:=does_m (m:=m) (by rw[es];omega) (by rw[es];omega) (by rw[es];omega) hm.lo (by rw[es];exact hm.hi) (fun w=>by rw[ex] at w;exact hm.c w) (fun w=>by rw[ex] at w⊢;exact⟨(cn w).1,hm.g w⟩) v
  have k1:r.s_.Code=s.Code:=by rw[k.code,es]
  have k2:r.s_.Mem.length=s.Mem.length:=by rw[k.mem,es]
  have k3:r.s_.Stack.length<=s.Stack.length+1:=by have:=k.st;rw[es] at this;exact this
  have k4:r.s_.Out=s.Out\/∃x,r.s_.Out=s.Out++[x]:=by have:=k.out;rw[es] at this;exact this
  have k5:r.s_.Out.length<=1000:=by
   rcases k4 with e|⟨x,e⟩<;>rw[e]
   ·omega
   ·rw[List.length_append,List.length_singleton];omega
  rw[e2,bsome,e3,bsome,e4,bsome,jF h hc (s:=⟨⟨r.s_.Pc.V,w⟩,r.s_.Code,r.s_.Mem,r.s_.Stack,r.s_.Out⟩) ⟨by show r.s_.Code.length<=1000;rw[k1];omega,by show r.s_.Mem.length<=1000;omega,by show r.s_.Stack.length<=1000;omega,k5⟩,bsome,fW,bsome]
  cases hR:rightS (l.Up.length:Int) (⟨⟨r.s_.Pc.V,w⟩,r.s_.Code,r.s_.Mem,r.s_.Stack,r.s_.Out⟩:aa) with
  |false=>exact⟨_,rfl,.inr (.inr rfl),fun p hp=>by cases hp;exact .inr rfl⟩
  |true=>exact⟨_,rfl,⟨rfl,hR,k1,k2,k3,k4⟩,fun p hp=>by cases hp⟩
theorem B_m{l:ab} {U:List Nat}(h:Nm l U)(hc:chk l U=0){n:Int} {s:aa}(z:RightS n s){R:List aE}(hF:Few R)(h13:R.length=13):∃r,cW.B l ⟨R⟩ s=some r/\Went (l.Up.length:Int) s r:=by
 cases way h hc z with
 |off _ e=>exact⟨_,e R,.inr (.inr rfl)⟩
 |no x hx _ e=>exact⟨_,e R,.inr (.inr rfl)⟩
 |halt x hx _ e=>exact⟨_,e R,.inl rfl⟩
 |go x m y hx h0 op cn hm e=>
  have eo:x.Op=((x.Op.toNat:Nat):Int):=by omega
  have hlt:x.Op.toNat<R.length:=by omega
  have hmem:=List.getElem_mem hlt
  obtain⟨r,e1,e2,_⟩:=K_m h hc z op cn hm (row:=R[x.Op.toNat]) (by have:=hF.may _ hmem;omega) (by have:=hF.res _ hmem;omega) (by have:=hF.pc _ hmem;omega)
  refine⟨r,?_,e2⟩
  rw[e R,eo,bx hlt,bsome];exact e1
end Go.Proofs.YtmjcpkmongafnaaGreatDoor.Ss
namespace Go.Proofs.YtmjcpkmongafnaaGreatDoor.Ss
open Go Go.Proofs.YtmjcpkmongafnaaGreatDoor.Ab Go.Proofs.YtmjcpkmongafnaaGreatDoor.TT
theorem kj{x:List am}(hx:x.length<=1000):bv.f x x=some true:=by
 unfold bv.f
 have:∀(d k:Nat),x.length=k+d->bv.l0 x x (k:Int)=some (.inr ()):=by
  intro d
  induction d with
  |zero=>intro k h;rw[bv.l0,if_neg (by omega)]
  |succ d ih=>intro k h;rw[bv.l0,if_pos (by omega),bx (by omega),bsome,bsome,if_pos rfl,wS (by omega)];exact ih (k+1) (by omega)
 rw[if_pos rfl,show bv.l0 x x 0=_ from this x.length 0 (by omega)];rfl
theorem kl{x:aa}(z:Sz x):bZ.f x x=some true:=by
 unfold bZ.f
 have:∀(d k:Nat),x.Stack.length=k+d->bZ.l0 x x (k:Int)=some (.inr ()):=by
  have hx:=z.stack
  intro d
  induction d with
  |zero=>intro k h;rw[bZ.l0,if_neg (by omega)]
  |succ d ih=>intro k h;rw[bZ.l0,if_pos (by omega),bx (by omega),bsome,bsome,if_pos rfl,wS (by omega)];exact ih (k+1) (by omega)
 rw[if_pos rfl,same_self z.code,bsome,if_neg (by decide),kj z.mem,bsome,if_neg (by decide),kj z.out,bsome,if_neg (by decide),decide_eq_true rfl,bsome,if_neg (by decide),show bZ.l0 x x 0=_ from this x.Stack.length 0 (by omega)];rfl
end Go.Proofs.YtmjcpkmongafnaaGreatDoor.Ss
namespace Go.Proofs.YtmjcpkmongafnaaGreatDoor.Ss
open Go Go.Proofs.YtmjcpkmongafnaaGreatDoor.Ab Go.Proofs.YtmjcpkmongafnaaGreatDoor.TT
noncomputable def mayO(l:ab)(U:List Nat)(R:List aE)(s:aa):Int:=if chk l U=0 then (if (chT R).2=0 then (if rightS (l.Up.length:Int) s=true then 0 else 1) else (chT R).2) else chk l U
def nilS:aa:=⟨⟨0,0⟩,[],[],[],[]⟩
theorem one_no{l:ab} {U:List Nat}(h:Nm l U){R:List aE}(hF:Few R){s:aa}(z:Sz s)(hm:mayO l U R s≠0):dM.f l ⟨R⟩ s=some (nilS,0,mayO l U R s):=by
 unfold mayO at hm⊢
 unfold dM.f
 rw[il h,bsome]
 by_cases hc:chk l U=0
 ·rw[if_pos hc,if_pos hc,lp hF,bsome]
  by_cases hT:(chT R).2=0
  ·rw[if_pos hT,if_pos hT,jF h hc z,bsome]
   rw[if_pos hc,if_pos hT] at hm
   cases hr:rightS (l.Up.length:Int) s with
   |false=>rfl
   |true=>rw[hr] at hm;exact absurd rfl hm
  ·rw[if_neg hT,if_neg hT];rfl
 ·rw[if_neg hc,if_neg hc];rfl
theorem jw{l:ab} {U:List Nat} {R:List aE} {s:aa}(hm:mayO l U R s=0):chk l U=0/\(chT R).2=0/\rightS (l.Up.length:Int) s=true:=by
 unfold mayO at hm
 by_cases hc:chk l U=0
 ·rw[if_pos hc] at hm
  by_cases hT:(chT R).2=0
  ·rw[if_pos hT] at hm
   cases hr:rightS (l.Up.length:Int) s with
   |false=>rw[hr] at hm;cases hm
   |true=>exact⟨hc,hT,rfl⟩
  ·rw[if_neg hT] at hm;exact absurd hm hT
 ·rw[if_neg hc] at hm;exact absurd hm hc
theorem one_yes{l:ab} {U:List Nat}(h:Nm l U){R:List aE}(hF:Few R){s:aa}(z:Sz s)(hm:mayO l U R s=0){r:Pn⊕(aa×Int)}(hb:cW.B l ⟨R⟩ s=some r):dM.f l ⟨R⟩ s=some ((finD s r).1,(finD s r).2,0):=by
 obtain⟨hc,hT,hr⟩:=jw hm
 unfold dM.f cW.f
 rw[il h,bsome,if_pos hc,lp hF,bsome,if_pos hT,jF h hc z,bsome,hr,if_neg (by decide),hb,bsome,bsome]
structure Stays(n:Int)(s t:aa)(q:Int):Prop where
 right:rightS n t=true
 code:t.Code=s.Code
 mem:t.Mem.length=s.Mem.length
 out:t.Out=s.Out\/∃x,t.Out=s.Out++[x]
 st:t.Stack.length<=s.Stack.length+1
 q:q=0\/(q=1\/q=2\/q=3)/\t=s
theorem stays{n:Int} {s:aa}(hr:rightS n s=true){r:Pn⊕(aa×Int)}(w:Went n s r):Stays n s (finD s r).1 (finD s r).2:=by
 cases r with
 |inl p=>
  rcases w with rfl|rfl|rfl
  ·exact⟨hr,rfl,rfl,.inl rfl,Nat.le_succ _,.inr ⟨.inl rfl,rfl⟩⟩
  ·exact⟨hr,rfl,rfl,.inl rfl,Nat.le_succ _,.inr ⟨.inr (.inl rfl),rfl⟩⟩
  ·exact⟨hr,rfl,rfl,.inl rfl,Nat.le_succ _,.inr ⟨.inr (.inr rfl),rfl⟩⟩
 |inr p=>
  obtain⟨t,q⟩:=p
  obtain⟨h0,h1,h2,h3,h4,h5⟩:=w
  exact⟨h1,h2,h3,h5,h4,.inl h0⟩
end Go.Proofs.YtmjcpkmongafnaaGreatDoor.Ss
namespace Go.Proofs.YtmjcpkmongafnaaGreatDoor.Ss
open Go Go.Proofs.YtmjcpkmongafnaaGreatDoor.Ab Go.Proofs.YtmjcpkmongafnaaGreatDoor.TT
def N0:aq:=⟨false,⟨false,0,0⟩,⟨false,0,0⟩,⟨false,0,0⟩,0,0,0,0⟩
theorem ins_n{n:Int} {x:ap}(h:insB n x=true):(x.Op=7->x.N=0)/\(x.Op=10->0<=x.N/\x.N<=1):=by
 unfold insB at h
 by_cases c1:x.Op=1
 ·exact⟨fun w=>by omega,fun w=>by omega⟩
 ·rw[if_neg c1] at h
  obtain⟨a,b,_,d⟩:=of_decide_eq_true h
  refine⟨fun w=>?_,fun w=>?_⟩
  ·rw[if_neg (by omega),if_neg (by omega),if_neg (by omega)] at d
   exact d
  ·rw[if_neg (by omega),if_neg (by omega),if_pos w] at d
   exact d
theorem atom_r{s:aa}(hn:s.Stack.length<=1000){d:Nat}(hd:d<=1000):dS.f s (d:Int)=some (okT s.Stack d):=by
 unfold dS.f okT
 have e1:IntKind.i64.wrap ((s.Stack.length:Int)-1)=(s.Stack.length:Int)-1:=wrapZ (by omega) (by omega)
 have e2:IntKind.i64.wrap ((s.Stack.length:Int)-1-(d:Int))=(s.Stack.length:Int)-1-(d:Int):=wrapZ (by omega) (by omega)
 rw[e1,e2]
 by_cases h:d<s.Stack.length
 ·have e3:(s.Stack.length:Int)-1-(d:Int)=((s.Stack.length-1-d:Nat):Int):=by omega
  rw[if_pos (by omega),e3,bx (by omega),bsome,bsome,sl_at h,decide_eq_true h]
  cases hr:s.Stack[s.Stack.length-1-d].Ret<;>rfl
 ·rw[if_neg (by omega),bsome,decide_eq_false h];rfl
def takeB(S:List al):Nat->Nat->Bool
 |_,0=>true
 |i,k+1=>okT S i&&takeB S (i+1) k
theorem l0_r{s:aa} {x:ap} {k:Nat}(ht:bJ.f x=some (k:Int))(hn:s.Stack.length<=1000)(hk:k<=900):∀d i:Nat,k=i+d->aY.l0 s x (i:Int)=some (if takeB s.Stack i d=true then .inr () else .inl N0)
 |0,i,e=>by
  rw[aY.l0,ht,bsome,if_neg (by omega)];rfl
 |d+1,i,e=>by
  rw[aY.l0,ht,bsome,if_pos (by omega),atom_r hn (by omega),bsome]
  unfold takeB
  cases h0:okT s.Stack i with
  |false=>rfl
  |true=>
   rw[Bool.true_and]
   show aY.l0 s x (IntKind.i64.wrap ((i:Int)+1))=_
   rw[wS (by omega)]
   exact l0_r ht hn hk d (i+1) (by omega)
theorem l4_r{s:aa} {x:ap}(hn:s.Stack.length<=1000):∀d i:Nat,x.N=((i+d:Nat):Int)->i+d<=900->aY.l4 s x (i:Int)=some (if callB s.Stack i d=true then .inr () else .inl N0)
 |0,i,e,hb=>by
  rw[aY.l4,if_neg (by omega)];rfl
 |d+1,i,e,hb=>by
  have e1:IntKind.i64.wrap (1+(i:Int))=((1+i:Nat):Int):=by rw[wrapZ (by omega) (by omega)];omega
  rw[aY.l4,if_pos (by omega),e1,atom_r hn (by omega),bsome]
  unfold callB
  cases h0:okT s.Stack (1+i) with
  |false=>rfl
  |true=>
   rw[Bool.true_and]
   show aY.l4 s x (IntKind.i64.wrap ((i:Int)+1))=_
   rw[wS (by omega)]
   exact l4_r hn d (i+1) (by omega) (by omega)
theorem l7{s:aa}(hn:s.Stack.length<=1000):∀k,k<=s.Stack.length->cv.l0 s ((k:Int)-1)=some (if 0<frU s.Stack k then .inl ((frU s.Stack k:Int)-1) else .inr ())
 |0,_=>by
  rw[cv.l0,if_neg (by omega)];rfl
 |k+1,h=>by
  have e:((k+1:Nat):Int)-1=(k:Int):=by omega
  rw[e,cv.l0,if_pos (by omega),bx (by omega),bsome]
  unfold frU
  rw[getD_is (by omega)]
  cases hr:s.Stack[k].Ret with
  |true=>rw[if_pos rfl,if_pos rfl,if_pos (by omega),e]
  |false=>
   rw[if_neg ff,if_neg ff,wrapZ (by omega) (by omega)]
   exact l7 hn k (by omega)
theorem frame_r{s:aa}(hn:s.Stack.length<=1000){k:Nat}(hk:k<=s.Stack.length):cv.f s (k:Int)=some ((frU s.Stack k:Int)-1):=by
 unfold cv.f
 rw[wrapZ (by omega) (by omega),l7 hn k hk,bsome]
 by_cases h:0<frU s.Stack k
 ·rw[if_pos h]
 ·rw[if_neg h]
  have:frU s.Stack k=0:=by omega
  rw[this];rfl
theorem top_at{S:List al}(hn:S.length<=1000)(h:0<S.length):lAt S (IntKind.i64.wrap ((S.length:Int)-1))=some (sl S 0):=by
 have e:IntKind.i64.wrap ((S.length:Int)-1)=((S.length-1-0:Nat):Int):=by rw[wrapZ (by omega) (by omega)];omega
 rw[e,bx (by omega),sl_at h]
theorem snd_at{S:List al}(hn:S.length<=1000)(h:1<S.length):lAt S (IntKind.i64.wrap ((S.length:Int)-2))=some (sl S 1):=by
 have e:IntKind.i64.wrap ((S.length:Int)-2)=((S.length-1-1:Nat):Int):=by rw[wrapZ (by omega) (by omega)];omega
 rw[e,bx (by omega),sl_at h]
def zS:al:=⟨false,0,0⟩
def nX(S:List al)(k:Nat)(y:Int):aq:=⟨false,if 0<k then sl S 0 else zS,if 1<k then sl S 1 else zS,zS,if 0<k then (sl S 0).L else y,if 1<k then (sl S 1).L else y,y,(S.length:Int)-(k:Int)⟩
def needsT(a1:aa)(y1:ap)(x27:aq):Option aq:=
 ((((if y1.Op=1 then (some (.inr (⟨true,x27.A,x27.B,x27.R,y1.L,x27.Two,x27.Three,x27.Below⟩:aq))) else (((if y1.Op=5 then (some (decide (y1.Op=5))) else (some (decide (y1.Op=6))):Option Bool)>>=fun x138=>if x138=true then (((if x27.A.V<0 then (some true) else (some (decide (x27.A.V>=(a1.Mem.length:Int)))):Option Bool)>>=fun x142=>if x142=true then (some (.inl (⟨false,⟨false,0,0⟩,⟨false,0,0⟩,⟨false,0,0⟩,0,0,0,0⟩:aq))) else (if y1.Op=5 then (lAt a1.Mem x27.A.V>>=fun y146=>some (.inr (⟨true,x27.A,x27.B,x27.R,x27.One,y146.L,x27.Three,x27.Below⟩:aq))) else (lAt a1.Mem x27.A.V>>=fun y147=>some (.inr (⟨true,x27.A,x27.B,x27.R,x27.One,x27.Two,y147.L,x27.Below⟩:aq)))))) else (((if y1.Op=7 then (some (decide (y1.Op=7))) else (some (decide (y1.Op=9))):Option Bool)>>=fun x149=>if x149=true then (((if x27.A.V<0 then (some true) else (some (decide (x27.A.V>12))):Option Bool)>>=fun x153=>if x153=true then (some (.inl (⟨false,⟨false,0,0⟩,⟨false,0,0⟩,⟨false,0,0⟩,0,0,0,0⟩:aq))) else ((aY.l4 a1 y1 0>>=fun o=>match o with|.inl r=>some (.inl r)|.inr ()=>some (.inr (⟨true,x27.A,x27.B,x27.R,x27.One,x27.Two,x27.Three,x27.Below⟩:aq)))))) else (if y1.Op=10 then (cv.f a1 x27.Below>>=fun y167=>if y167<0 then (some (.inl (⟨false,⟨false,0,0⟩,⟨false,0,0⟩,⟨false,0,0⟩,0,0,0,0⟩:aq))) else (lAt a1.Stack y167>>=fun y169=>some (.inr (⟨true,x27.A,x27.B,y169,x27.One,y169.L,x27.Three,y167⟩:aq)))) else (some (.inr (⟨true,x27.A,x27.B,x27.R,x27.One,x27.Two,x27.Three,x27.Below⟩:aq)))))))):Option (aq⊕aq))>>=fun o=>match o with|.inl r=>some (.inl r)|.inr x135=>some (.inr x135)):Option (aq⊕aq))>>=fun o=>match o with|.inl r=>some r|.inr x100=>some x100)
theorem jZ{l:ab} {s:aa} {x:ap} {y:Int} {k:Nat}(hx:lAt s.Code s.Pc.V=some x)(hb:bA.f l=some y)(ht:bJ.f x=some (k:Int))(hk:k<=2)(hn:s.Stack.length<=1000):
  aY.f l s=(if takeB s.Stack 0 k=true then needsT s x (nX s.Stack k y) else some N0):=by
 unfold aY.f
 have h0:=l0_r (s:=s) ht hn (by omega) k 0 (by omega)
 rw[show ((0:Nat):Int)=0 from rfl] at h0
 have ew:IntKind.i64.wrap ((s.Stack.length:Int)-(k:Int))=(s.Stack.length:Int)-(k:Int):=wrapZ (by omega) (by omega)
 rw[hx,bsome,hb,bsome,ht,bsome,h0,bsome,ew]
 cases hB:takeB s.Stack 0 k with
 |false=>rw[if_neg ff,if_neg ff]
 |true=>
  rw[if_pos rfl,if_pos rfl]
  match k,hk with
  |0,_=>rfl
  |1,_=>
   have h1:0<s.Stack.length:=by
    unfold takeB at hB
    rw[Bool.and_eq_true] at hB
    exact okT_lt hB.1
   rw[bsome,if_pos (show ((1:Nat):Int)>0 by decide),top_at hn h1];rfl
  |2,_=>
   have h1:1<s.Stack.length:=by
    unfold takeB at hB
    rw[Bool.and_eq_true] at hB
    have h2:=hB.2
    unfold takeB at h2
    rw[Bool.and_eq_true] at h2
    exact okT_lt h2.1
   rw[bsome,if_pos (show ((2:Nat):Int)>0 by decide),top_at hn (by omega),bsome,bsome,bsome,if_pos (show ((2:Nat):Int)>1 by decide),snd_at hn h1];rfl
end Go.Proofs.YtmjcpkmongafnaaGreatDoor.Ss
namespace Go.Proofs.YtmjcpkmongafnaaGreatDoor.Ss
open Go Go.Proofs.YtmjcpkmongafnaaGreatDoor.Ab Go.Proofs.YtmjcpkmongafnaaGreatDoor.TT
def mOf(l:ab)(s:aa)(x:ap)(n:aq):ah:=⟨l,s,x,n.A,n.B,n.R,n.Below,⟨n.One,n.Two,n.Three⟩⟩
def Two(l:ab)(s:aa)(x:ap)(p:Option (Pn⊕ah))(q:Option aq):Prop:=
 ∃n,q=some n/\p=some (if n.Is=true then .inr (mOf l s x n) else .inl 3)
theorem gi{l:ab} {s:aa} {x:ap} {c:Prop}[Decidable c]{e:Option (Pn⊕ah)} {m:ah} {n:aq}(h:e=some (if c then .inr m else .inl 3))(hn:n.Is=true)(hm:mOf l s x n=m):Two l s x (e>>=fun z=>match z with|.inl p=>some (.inl p)|.inr y=>some (.inr y)) (if c then some n else some N0):=by
 rw[h,bsome]
 by_cases q:c
 ·rw[if_pos q,if_pos q]
  exact⟨n,rfl,by rw[if_pos hn,hm]⟩
 ·rw[if_neg q,if_neg q]
  exact⟨N0,rfl,rfl⟩
section
variable{l:ab} {s:aa} {x:ap} {y:Int}(hx:lAt s.Code s.Pc.V=some x)(hb:bA.f l=some y)(hn:s.Stack.length<=1000)
include hx hb hn
theorem tk0(h:bJ.f x=some 0):aY.f l s=needsT s x (nX s.Stack 0 y):=by
 rw[jZ hx hb (k:=0) h (by omega) hn];rfl
theorem tk1(h:bJ.f x=some 1):aY.f l s=if okT s.Stack 0=true then needsT s x (nX s.Stack 1 y) else some N0:=by
 rw[jZ hx hb (k:=1) h (by omega) hn]
 unfold takeB takeB
 rw[Bool.and_true]
theorem tk2(h:bJ.f x=some 2):aY.f l s=if okT s.Stack 0=true/\okT s.Stack 1=true then needsT s x (nX s.Stack 2 y) else some N0:=by
 rw[jZ hx hb (k:=2) h (by omega) hn]
 unfold takeB takeB takeB
 rw[Bool.and_true]
 cases okT s.Stack 0<;>cases okT s.Stack 1<;>rfl
end
theorem fL{x:ap} {c k:Int}(h:x.Op=c)(h10:c≠10)(hl:lAt ([0,0,1,2,2,1,2,1,1,1,0,1,0]:List Int) c=some k):bJ.f x=some k:=by
 unfold bJ.f
 rw[h,if_neg h10,hl,bsome]
theorem bad_mem{m:List am} {v:Int}:((if v<0 then (some true) else (some (decide (v>=(m.length:Int)))):Option Bool))=some (!decide (0<=v/\v<(m.length:Int))):=by
 by_cases h:v<0
 ·rw[if_pos h,decide_eq_false (by omega)];rfl
 ·rw[if_neg h]
  by_cases q:v>=(m.length:Int)
  ·rw[decide_eq_true q,decide_eq_false (by omega)];rfl
  ·rw[decide_eq_false q,decide_eq_true (by omega)];rfl
theorem bad_pla{v:Int}:((if v<0 then (some true) else (some (decide (v>12))):Option Bool))=some (!plaB v):=by
 unfold plaB
 by_cases h:v<0
 ·rw[if_pos h,decide_eq_false (by omega)];rfl
 ·rw[if_neg h]
  by_cases q:v>12
  ·rw[decide_eq_true q,decide_eq_false (by omega)];rfl
  ·rw[decide_eq_false q,decide_eq_true (by omega)];rfl
section
variable{s:aa} {x:ap} {n:aq}
theorem nt_el(h1:x.Op≠1)(h5:x.Op≠5)(h6:x.Op≠6)(h7:x.Op≠7)(h9:x.Op≠9)(h10:x.Op≠10):needsT s x n=some ⟨true,n.A,n.B,n.R,n.One,n.Two,n.Three,n.Below⟩:=by
 unfold needsT
 rw[if_neg h1,if_neg h5,decide_eq_false h6,bsome,if_neg ff,if_neg h7,decide_eq_false h9,bsome,if_neg ff,if_neg h10];rfl
theorem nt_1(h1:x.Op=1):needsT s x n=some ⟨true,n.A,n.B,n.R,x.L,n.Two,n.Three,n.Below⟩:=by
 unfold needsT
 rw[if_pos h1];rfl
theorem nt_5(h:x.Op=5):needsT s x n=if 0<=n.A.V/\n.A.V<(s.Mem.length:Int) then some ⟨true,n.A,n.B,n.R,n.One,(mm s n.A.V).L,n.Three,n.Below⟩ else some N0:=by
 unfold needsT
 rw[if_neg (show ¬x.Op=1 by omega),if_pos h,decide_eq_true h,bsome,if_pos rfl,bad_mem,bsome]
 by_cases q:0<=n.A.V/\n.A.V<(s.Mem.length:Int)
 ·rw[decide_eq_true q,if_neg (show ¬(!true)=true by decide),if_pos q,if_pos h,mm_at q.1 q.2];rfl
 ·rw[decide_eq_false q,if_pos (show (!false)=true by decide),if_neg q];rfl
theorem nt_6(h:x.Op=6):needsT s x n=if 0<=n.A.V/\n.A.V<(s.Mem.length:Int) then some ⟨true,n.A,n.B,n.R,n.One,n.Two,(mm s n.A.V).L,n.Below⟩ else some N0:=by
 unfold needsT
 rw[if_neg (show ¬x.Op=1 by omega),if_neg (show ¬x.Op=5 by omega),decide_eq_true h,bsome,if_pos rfl,bad_mem,bsome]
 by_cases q:0<=n.A.V/\n.A.V<(s.Mem.length:Int)
 ·rw[decide_eq_true q,if_neg (show ¬(!true)=true by decide),if_pos q,if_neg (show ¬x.Op=5 by omega),mm_at q.1 q.2];rfl
 ·rw[decide_eq_false q,if_pos (show (!false)=true by decide),if_neg q];rfl
theorem nt_79(hn:s.Stack.length<=1000){k:Nat}(hk:x.N=(k:Int))(hb:k<=900)(h:x.Op=7\/x.Op=9):needsT s x n=if plaB n.A.V=true/\callB s.Stack 0 k=true then some ⟨true,n.A,n.B,n.R,n.One,n.Two,n.Three,n.Below⟩ else some N0:=by
 unfold needsT
 have e:((if x.Op=7 then (some (decide (x.Op=7))) else (some (decide (x.Op=9))):Option Bool))=some true:=by
  rcases h with h|h
  ·rw[if_pos h,decide_eq_true h]
  ·rw[if_neg (by omega),decide_eq_true h]
 have q4:=l4_r (s:=s) (x:=x) hn k 0 (by rw[Nat.zero_add];exact hk) (by omega)
 rw[show ((0:Nat):Int)=0 from rfl] at q4
 rw[if_neg (show ¬x.Op=1 by omega),if_neg (show ¬x.Op=5 by omega),decide_eq_false (show ¬x.Op=6 by omega),bsome,if_neg ff,e,bsome,if_pos rfl,bad_pla,bsome,q4,bsome]
 cases plaB n.A.V with
 |false=>rfl
 |true=>cases callB s.Stack 0 k<;>rfl
theorem nt_10(hn:s.Stack.length<=1000){k:Nat}(hk:n.Below=(k:Int))(hb:k<=s.Stack.length)(h:x.Op=10):needsT s x n=if 0<frU s.Stack k then some ⟨true,n.A,n.B,s.Stack.getD (frU s.Stack k-1) ⟨true,0,0⟩,n.One,(s.Stack.getD (frU s.Stack k-1) ⟨true,0,0⟩).L,n.Three,(frU s.Stack k:Int)-1⟩ else some N0:=by
 unfold needsT
 have hf:=frU_le s.Stack k
 rw[if_neg (show ¬x.Op=1 by omega),if_neg (show ¬x.Op=5 by omega),decide_eq_false (show ¬x.Op=6 by omega),bsome,if_neg ff,if_neg (show ¬x.Op=7 by omega),decide_eq_false (show ¬x.Op=9 by omega),bsome,if_neg ff,if_pos h,hk,frame_r hn hb,bsome]
 by_cases q:0<frU s.Stack k
 ·have e:(frU s.Stack k:Int)-1=((frU s.Stack k-1:Nat):Int):=by omega
  rw[if_neg (show ¬(frU s.Stack k:Int)-1<0 by omega),if_pos q,e,bx (show frU s.Stack k-1<s.Stack.length by omega),bsome,getD_is (show frU s.Stack k-1<s.Stack.length by omega)];rfl
 ·rw[if_pos (show (frU s.Stack k:Int)-1<0 by omega),if_neg q];rfl
end
end Go.Proofs.YtmjcpkmongafnaaGreatDoor.Ss
namespace Go.Proofs.YtmjcpkmongafnaaGreatDoor.Ss
open Go Go.Proofs.YtmjcpkmongafnaaGreatDoor.Ab Go.Proofs.YtmjcpkmongafnaaGreatDoor.TT
theorem nX0{S:List al} {y:Int}:nX S 0 y=⟨false,zS,zS,zS,y,y,y,(S.length:Int)⟩:=by
 unfold nX
 rw[if_neg (by decide),if_neg (by decide),if_neg (by decide),if_neg (by decide),show ((0:Nat):Int)=0 from rfl,Int.sub_zero]
theorem nX1{S:List al} {y:Int}:nX S 1 y=⟨false,sl S 0,zS,zS,(sl S 0).L,y,y,(S.length:Int)-1⟩:=rfl
theorem nX2{S:List al} {y:Int}:nX S 2 y=⟨false,sl S 0,sl S 1,zS,(sl S 0).L,(sl S 1).L,y,(S.length:Int)-2⟩:=rfl
theorem jG{α:Type} {a b c:Prop}[Decidable a][Decidable b][Decidable c](h:c↔a/\b){X Y:α}:(if a then (if b then X else Y) else Y)=if c then X else Y:=by
 by_cases ha:a
 ·by_cases hb:b
  ·rw[if_pos ha,if_pos hb,if_pos (h.2 ⟨ha,hb⟩)]
  ·rw[if_pos ha,if_neg hb,if_neg (fun q=>hb (h.1 q).2)]
 ·rw[if_neg ha,if_neg (fun q=>ha (h.1 q).1)]
section
variable{l:ab} {s:aa} {x:ap} {y:Int}(hx:lAt s.Code s.Pc.V=some x)(hb:bA.f l=some y)(hn:s.Stack.length<=1000)
include hx hb hn
theorem needs_two(op:0<=x.Op/\x.Op<=12)(n7:x.Op=7->x.N=0)(n9:x.Op=9->0<=x.N/\x.N<=3)(n10:x.Op=10->0<=x.N/\x.N<=1):Two l s x (bG.f (mach l s x y)) (aY.f l s):=by
 have hn':(topM (mach l s x y)).s_.Stack.length<=1000:=hn
 unfold bG.f
 show Two l s x (if x.Op=0 then _ else (if x.Op=12 then _ else (if x.Op=1 then _ else (if x.Op=2 then _ else (if x.Op=11 then _ else (if x.Op=3 then _ else (if x.Op=4 then _ else (if x.Op=5 then _ else (if x.Op=6 then _ else (if x.Op=7 then _ else (if x.Op=8 then _ else (if x.Op=9 then _ else (if x.Op=10 then _ else _))))))))))))) _
 by_cases c0:x.Op=0
 ·rw[if_pos c0,tk0 hx hb hn (fL (c:=0) c0 (by decide) rfl),nt_el (by omega) (by omega) (by omega) (by omega) (by omega) (by omega),nX0]
  exact⟨_,rfl,rfl⟩
 rw[if_neg c0]
 by_cases c12:x.Op=12
 ·rw[if_pos c12,tk0 hx hb hn (fL (c:=12) c12 (by decide) rfl),nt_el (by omega) (by omega) (by omega) (by omega) (by omega) (by omega),nX0]
  exact⟨_,rfl,rfl⟩
 rw[if_neg c12]
 by_cases c1:x.Op=1
 ·rw[if_pos c1,tk0 hx hb hn (fL (c:=1) c1 (by decide) rfl),nt_1 c1,nX0]
  exact⟨_,rfl,rfl⟩
 rw[if_neg c1]
 by_cases c2:x.Op=2
 ·rw[if_pos c2,tk1 hx hb hn (fL (c:=2) c2 (by decide) rfl),nt_el (by omega) (by omega) (by omega) (by omega) (by omega) (by omega),nX1]
  exact gi (f9 hn') rfl rfl
 rw[if_neg c2]
 by_cases c11:x.Op=11
 ·rw[if_pos c11,tk1 hx hb hn (fL (c:=11) c11 (by decide) rfl),nt_el (by omega) (by omega) (by omega) (by omega) (by omega) (by omega),nX1]
  exact gi (f9 hn') rfl rfl
 rw[if_neg c11]
 by_cases c3:x.Op=3
 ·rw[if_pos c3,tk2 hx hb hn (fL (c:=3) c3 (by decide) rfl),nt_el (by omega) (by omega) (by omega) (by omega) (by omega) (by omega),nX2]
  exact gi (jv hn') rfl rfl
 rw[if_neg c3]
 by_cases c4:x.Op=4
 ·rw[if_pos c4,tk2 hx hb hn (fL (c:=4) c4 (by decide) rfl),nt_el (by omega) (by omega) (by omega) (by omega) (by omega) (by omega),nX2]
  exact gi (jv hn') rfl rfl
 rw[if_neg c4]
 have hC:okC (firstM (topM (mach l s x y)))=decide (0<=(sl s.Stack 0).V/\(sl s.Stack 0).V<(s.Mem.length:Int)):=rfl
 by_cases c5:x.Op=5
 ·rw[if_pos c5,tk1 hx hb hn (fL (c:=5) c5 (by decide) rfl),nt_5 c5,nX1]
  rw[jG (c:=okT (topM (mach l s x y)).s_.Stack 0=true/\okC (firstM (topM (mach l s x y)))=true) (by rw[hC,decide_eq_true_iff];exact Iff.rfl)]
  exact gi (loads_m hn') rfl rfl
 rw[if_neg c5]
 by_cases c6:x.Op=6
 ·rw[if_pos c6,tk2 hx hb hn (fL (c:=6) c6 (by decide) rfl),nt_6 c6,nX2]
  rw[jG (c:=(okT (topM (mach l s x y)).s_.Stack 0=true/\okT (topM (mach l s x y)).s_.Stack 1=true)/\okC (firstM (topM (mach l s x y)))=true) (by rw[hC,decide_eq_true_iff];exact Iff.rfl)]
  exact gi (lZ hn') rfl rfl
 rw[if_neg c6]
 by_cases c7:x.Op=7
 ·rw[if_pos c7,tk1 hx hb hn (fL (c:=7) c7 (by decide) rfl),nt_79 hn (k:=0) (n7 c7) (by omega) (.inl c7),nX1]
  rw[jG (c:=okT (topM (mach l s x y)).s_.Stack 0=true/\plaB (sl (topM (mach l s x y)).s_.Stack 0).V=true) (by exact⟨fun q=>⟨q.1,q.2,rfl⟩,fun q=>⟨q.1,q.2.1⟩⟩)]
  exact gi (goes_m hn') rfl rfl
 rw[if_neg c7]
 by_cases c8:x.Op=8
 ·rw[if_pos c8,tk1 hx hb hn (fL (c:=8) c8 (by decide) rfl),nt_el (by omega) (by omega) (by omega) (by omega) (by omega) (by omega),nX1]
  exact gi (f9 hn') rfl rfl
 rw[if_neg c8]
 by_cases c9:x.Op=9
 ·obtain⟨q0,q3⟩:=n9 c9
  have e:x.N=((x.N.toNat:Nat):Int):=by omega
  rw[if_pos c9,tk1 hx hb hn (fL (c:=9) c9 (by decide) rfl),nt_79 hn e (by omega) (.inr c9),nX1]
  rw[jG (c:=(okT (topM (mach l s x y)).s_.Stack 0=true/\plaB (sl (topM (mach l s x y)).s_.Stack 0).V=true)/\callB (topM (mach l s x y)).s_.Stack 0 x.N.toNat=true) (by exact⟨fun q=>⟨q.1.1,q.1.2,q.2⟩,fun q=>⟨⟨q.1,q.2.1⟩,q.2.2⟩⟩)]
  exact gi (calls_m (m:=topM (mach l s x y)) hn' e (by omega)) rfl rfl
 rw[if_neg c9]
 have c10:x.Op=10:=by omega
 rw[if_pos c10]
 have r:=lg (m:=topM (mach l s x y)) hn'
 have ht:bJ.f x=some x.N:=by unfold bJ.f;rw[if_pos c10]
 obtain⟨q0,q1⟩:=n10 c10
 by_cases cN:x.N=1
 ·rw[if_pos (show (topM (mach l s x y)).x_.N=1 from cN)] at r
  rw[tk1 hx hb hn (by rw[ht,cN])]
  cases h0:okT s.Stack 0 with
  |false=>
   rw[if_neg ff]
   refine⟨N0,rfl,?_⟩
   have r':aG.f (topM (mach l s x y))=some (.inl 3):=by
    rw[r,if_neg (fun q=>by have q1:okT s.Stack 0=true:=q.1;rw[h0] at q1;cases q1)]
   show (aG.f (topM (mach l s x y))>>=_)=_
   rw[r'];rfl
  |true=>
   have hp:=okT_lt h0
   rw[if_pos rfl,nX1,nt_10 (n:=⟨false,sl s.Stack 0,zS,zS,(sl s.Stack 0).L,y,y,(s.Stack.length:Int)-1⟩) hn (k:=s.Stack.length-1) (by show (s.Stack.length:Int)-1=_;omega) (by omega) c10]
   have r':aG.f (topM (mach l s x y))=some (if 0<frU s.Stack (s.Stack.length-1) then .inr (retM (firstM (topM (mach l s x y))) (frU s.Stack (s.Stack.length-1))) else .inl 3):=by
    rw[r]
    congr 1
    have e1:(okT (topM (mach l s x y)).s_.Stack 0=true/\0<frU (topM (mach l s x y)).s_.Stack ((topM (mach l s x y)).s_.Stack.length-1))↔0<frU s.Stack (s.Stack.length-1):=⟨fun q=>q.2,fun q=>⟨h0,q⟩⟩
    by_cases q:0<frU s.Stack (s.Stack.length-1)
    ·rw[if_pos (e1.2 q),if_pos q];rfl
    ·rw[if_neg (fun w=>q (e1.1 w)),if_neg q]
   exact gi r' rfl rfl
 ·have c00:x.N=0:=by omega
  rw[if_neg (show ¬(topM (mach l s x y)).x_.N=1 from cN)] at r
  rw[tk0 hx hb hn (by rw[ht,c00]),nX0,nt_10 (n:=⟨false,zS,zS,zS,y,y,y,(s.Stack.length:Int)⟩) hn (k:=s.Stack.length) rfl (Nat.le_refl _) c10]
  exact gi r rfl rfl
end
end Go.Proofs.YtmjcpkmongafnaaGreatDoor.Ss
namespace Go.Proofs.YtmjcpkmongafnaaGreatDoor.Ss
open Go Go.Proofs.YtmjcpkmongafnaaGreatDoor.Ab Go.Proofs.YtmjcpkmongafnaaGreatDoor.TT
def memS(s:aa)(x:ap)(n:aq)(v:Int):List am:=if x.Op=6 then s.Mem.set n.A.V.toNat ⟨n.B.V,v⟩ else s.Mem
def restS(s:aa)(n:aq):List al:=lCut s.Stack 0 n.Below
def stackS(s:aa)(x:ap)(n:aq)(v:Int):List al:=
 if x.Op=1 then restS s n++[⟨false,x.N,v⟩] else if x.Op=3 then restS s n++[⟨false,IntKind.i64.wrap (n.B.V+n.A.V),v⟩] else if x.Op=4 then restS s n++[⟨false,IntKind.i64.wrap (n.B.V-n.A.V),v⟩] else if x.Op=5 then restS s n++[⟨false,(mm s n.A.V).V,v⟩]
 else if x.Op=9 then lCut s.Stack 0 (n.Below-x.N)++[⟨true,IntKind.i64.wrap (s.Pc.V+1),s.Pc.L⟩]++lCut s.Stack (n.Below-x.N) n.Below else if x.Op=10 then (if x.N=1 then restS s n++[⟨false,n.A.V,v⟩] else restS s n) else restS s n
def nextS(s:aa)(x:ap)(n:aq):Int:=if x.Op=7\/x.Op=9 then n.A.V else if x.Op=10 then n.R.V else if x.Op=8/\n.A.V≠0 then x.N else IntKind.i64.wrap (s.Pc.V+1)
def outS(s:aa)(x:ap)(n:aq)(v:Int):List am:=if x.Op=11 then s.Out++[⟨n.A.V,v⟩] else s.Out
theorem bind_x{e:Option (ah×Int)} {m:ah} {p:Int}(h:e=some (m,p)):(e>>=fun o=>match o with|(x28,x29)=>some (⟨x28.l_,⟨⟨x29,x28.s_.Pc.L⟩,x28.s_.Code,x28.s_.Mem,x28.s_.Stack,x28.s_.Out⟩,x28.x_,x28.a_,x28.b_,x28.r_,x28.below_,x28.one_⟩:ah))=some ⟨m.l_,⟨⟨p,m.s_.Pc.L⟩,m.s_.Code,m.s_.Mem,m.s_.Stack,m.s_.Out⟩,m.x_,m.a_,m.b_,m.r_,m.below_,m.one_⟩:=by
 rw[h];rfl
def stS(s:aa)(x:ap)(n:aq)(v:Int):aa:=⟨⟨nextS s x n,s.Pc.L⟩,s.Code,memS s x n v,stackS s x n v,outS s x n v⟩
theorem does_x{l:ab} {s:aa} {x:ap} {n:aq}(hn:s.Stack.length<=900)(hm:s.Mem.length<=900)(ho:s.Out.length<=900)(lo:0<=n.Below)(hi:n.Below<=(s.Stack.length:Int))(c:x.Op=5\/x.Op=6->0<=n.A.V/\n.A.V<(s.Mem.length:Int))(g:x.Op=9->0<=x.N/\x.N<=n.Below)(v:Int):
  ∃r,dn.f (mOf l s x n) v=some r/\r.s_=stS s x n v:=by
 have hc:=jb (xs:=s.Stack) (b:=n.Below)
 have hB:100000<=big:=by decide
 have hput:∀(z:Int),bP.f (⟨l,⟨s.Pc,s.Code,s.Mem,lCut s.Stack 0 n.Below,s.Out⟩,x,n.A,n.B,n.R,n.Below,⟨n.One,n.Two,n.Three⟩⟩:ah) z v=some ⟨l,⟨s.Pc,s.Code,s.Mem,lCut s.Stack 0 n.Below++[⟨false,z,v⟩],s.Out⟩,x,n.A,n.B,n.R,n.Below,⟨n.One,n.Two,n.Three⟩⟩:=fun z=>put_m (show (lCut s.Stack 0 n.Below).length<=1000 by omega) z v
 unfold dn.f
 show∃r,(if (0:Int)<=n.Below/\n.Below<=(s.Stack.length:Int) then (bB.f (lCut s.Stack 0 n.Below)>>=_) else _)=some r/\_
 rw[if_pos ⟨lo,hi⟩,clone_s (by omega),bsome]
 have fin:∀(e:Option (ah×Int)) (m:ah) (p:Int),e=some (m,p)->(⟨⟨p,m.s_.Pc.L⟩,m.s_.Code,m.s_.Mem,m.s_.Stack,m.s_.Out⟩:aa)=stS s x n v->∃r,(e>>=fun o=>match o with|(x28,x29)=>some (⟨x28.l_,⟨⟨x29,x28.s_.Pc.L⟩,x28.s_.Code,x28.s_.Mem,x28.s_.Stack,x28.s_.Out⟩,x28.x_,x28.a_,x28.b_,x28.r_,x28.below_,x28.one_⟩:ah))=some r/\r.s_=stS s x n v:=fun e m p h1 h2=>⟨_,bind_x h1,h2⟩
 refine fin _ ⟨l,⟨s.Pc,s.Code,memS s x n v,stackS s x n v,outS s x n v⟩,x,n.A,n.B,n.R,n.Below,⟨n.One,n.Two,n.Three⟩⟩ (nextS s x n) ?_ rfl
 show (if x.Op=1 then _ else if x.Op=3 then _ else if x.Op=4 then _ else if x.Op=5 then _ else if x.Op=6 then _ else if x.Op=11 then _ else if x.Op=7 then _ else if x.Op=8 then _ else if x.Op=9 then _ else if x.Op=10 then _ else _)=_
 have nx:x.Op≠7->x.Op≠9->x.Op≠10->x.Op≠8->nextS s x n=IntKind.i64.wrap (s.Pc.V+1):=fun a b c d=>by
  unfold nextS
  rw[if_neg (fun w=>by omega),if_neg c,if_neg (fun w=>d w.1)]
 have mx:x.Op≠6->memS s x n v=s.Mem:=fun a=>by unfold memS;rw[if_neg a]
 have ox:x.Op≠11->outS s x n v=s.Out:=fun a=>by unfold outS;rw[if_neg a]
 have sx:x.Op≠1->x.Op≠3->x.Op≠4->x.Op≠5->x.Op≠9->x.Op≠10->stackS s x n v=lCut s.Stack 0 n.Below:=fun a b c d e f=>by
  unfold stackS
  rw[if_neg a,if_neg b,if_neg c,if_neg d,if_neg e,if_neg f];rfl
 by_cases c1:x.Op=1
 ·rw[if_pos c1,nx (by omega) (by omega) (by omega) (by omega),mx (by omega),ox (by omega)]
  have hs:stackS s x n v=lCut s.Stack 0 n.Below++[⟨false,x.N,v⟩]:=by unfold stackS;rw[if_pos c1];rfl
  rw[hs]
  show (bP.f (⟨l,⟨s.Pc,s.Code,s.Mem,lCut s.Stack 0 n.Below,s.Out⟩,x,n.A,n.B,n.R,n.Below,⟨n.One,n.Two,n.Three⟩⟩:ah) x.N v>>=_)=_
  rw[hput];rfl
 rw[if_neg c1]
 by_cases c3:x.Op=3
 ·rw[if_pos c3,nx (by omega) (by omega) (by omega) (by omega),mx (by omega),ox (by omega)]
  have hs:stackS s x n v=lCut s.Stack 0 n.Below++[⟨false,IntKind.i64.wrap (n.B.V+n.A.V),v⟩]:=by unfold stackS;rw[if_neg c1,if_pos c3];rfl
  rw[hs]
  show (bP.f (⟨l,⟨s.Pc,s.Code,s.Mem,lCut s.Stack 0 n.Below,s.Out⟩,x,n.A,n.B,n.R,n.Below,⟨n.One,n.Two,n.Three⟩⟩:ah) (IntKind.i64.wrap (n.B.V+n.A.V)) v>>=_)=_
  rw[hput];rfl
 rw[if_neg c3]
 by_cases c4:x.Op=4
 ·rw[if_pos c4,nx (by omega) (by omega) (by omega) (by omega),mx (by omega),ox (by omega)]
  have hs:stackS s x n v=lCut s.Stack 0 n.Below++[⟨false,IntKind.i64.wrap (n.B.V-n.A.V),v⟩]:=by unfold stackS;rw[if_neg c1,if_neg c3,if_pos c4];rfl
  rw[hs]
  show (bP.f (⟨l,⟨s.Pc,s.Code,s.Mem,lCut s.Stack 0 n.Below,s.Out⟩,x,n.A,n.B,n.R,n.Below,⟨n.One,n.Two,n.Three⟩⟩:ah) (IntKind.i64.wrap (n.B.V-n.A.V)) v>>=_)=_
  rw[hput];rfl
 rw[if_neg c4]
 by_cases c5:x.Op=5
 ·obtain⟨k1,k2⟩:=c (.inl c5)
  rw[if_pos c5,nx (by omega) (by omega) (by omega) (by omega),mx (by omega),ox (by omega)]
  have hs:stackS s x n v=lCut s.Stack 0 n.Below++[⟨false,(mm s n.A.V).V,v⟩]:=by unfold stackS;rw[if_neg c1,if_neg c3,if_neg c4,if_pos c5];rfl
  rw[hs]
  show (lAt s.Mem n.A.V>>=_)=_
  rw[mm_at k1 k2,bsome]
  show (bP.f (⟨l,⟨s.Pc,s.Code,s.Mem,lCut s.Stack 0 n.Below,s.Out⟩,x,n.A,n.B,n.R,n.Below,⟨n.One,n.Two,n.Three⟩⟩:ah) (mm s n.A.V).V v>>=_)=_
  rw[hput];rfl
 rw[if_neg c5]
 by_cases c6:x.Op=6
 ·obtain⟨k1,k2⟩:=c (.inr c6)
  have hmS:memS s x n v=s.Mem.set n.A.V.toNat ⟨n.B.V,v⟩:=by unfold memS;rw[if_pos c6]
  rw[if_pos c6,nx (by omega) (by omega) (by omega) (by omega),hmS,ox (by omega),sx c1 c3 c4 c5 (by omega) (by omega)]
  show (aQ.f s.Mem>>=_)=_
  rw[jE (by omega),bsome]
  show (lAt s.Mem n.A.V>>=_)=_
  rw[mm_at k1 k2];rfl
 rw[if_neg c6]
 by_cases c11:x.Op=11
 ·have hoS:outS s x n v=s.Out++[⟨n.A.V,v⟩]:=by unfold outS;rw[if_pos c11]
  rw[if_pos c11,nx (by omega) (by omega) (by omega) (by omega),mx (by omega),hoS,sx c1 c3 c4 c5 (by omega) (by omega)]
  show (aQ.f s.Out>>=_)=_
  rw[jE (by omega),bsome]
  show (if (s.Out.length+([(⟨n.A.V,v⟩:am)]:List am).length)*16<=big then _ else _)=_
  rw[if_pos (by simp;omega)];rfl
 rw[if_neg c11]
 by_cases c7:x.Op=7
 ·have hx:nextS s x n=n.A.V:=by unfold nextS;rw[if_pos (.inl c7)]
  rw[if_pos c7,hx,mx (by omega),ox (by omega),sx c1 c3 c4 c5 (by omega) (by omega)];rfl
 rw[if_neg c7]
 by_cases c8:x.Op=8
 ·rw[if_pos c8,mx (by omega),ox (by omega),sx c1 c3 c4 c5 (by omega) (by omega)]
  show (if n.A.V=0 then _ else _)=_
  by_cases ca:n.A.V=0
  ·have hx:nextS s x n=IntKind.i64.wrap (s.Pc.V+1):=by unfold nextS;rw[if_neg (by omega),if_neg (by omega),if_neg (fun w=>w.2 ca)]
   rw[if_pos ca,hx];rfl
  ·have hx:nextS s x n=x.N:=by unfold nextS;rw[if_neg (by omega),if_neg (by omega),if_pos ⟨c8,ca⟩]
   rw[if_neg ca,hx];rfl
 rw[if_neg c8]
 by_cases c9:x.Op=9
 ·obtain⟨g0,g1⟩:=g c9
  have e:IntKind.i64.wrap (n.Below-x.N)=n.Below-x.N:=wrapZ (by omega) (by omega)
  have hx:nextS s x n=n.A.V:=by unfold nextS;rw[if_pos (.inr c9)]
  have hs:stackS s x n v=lCut s.Stack 0 (n.Below-x.N)++[⟨true,IntKind.i64.wrap (s.Pc.V+1),s.Pc.L⟩]++lCut s.Stack (n.Below-x.N) n.Below:=by unfold stackS;rw[if_neg c1,if_neg c3,if_neg c4,if_neg c5,if_pos c9]
  rw[if_pos c9,hx,mx (by omega),ox (by omega),hs]
  show (if (0:Int)<=IntKind.i64.wrap (n.Below-x.N)/\IntKind.i64.wrap (n.Below-x.N)<=n.Below/\n.Below<=(s.Stack.length:Int) then (if (0:Int)<=IntKind.i64.wrap (n.Below-x.N)/\IntKind.i64.wrap (n.Below-x.N)<=(s.Stack.length:Int) then (aA.f ([lCut s.Stack 0 (IntKind.i64.wrap (n.Below-x.N)),([(⟨true,IntKind.i64.wrap (s.Pc.V+1),s.Pc.L⟩:al)]:List al),lCut s.Stack (IntKind.i64.wrap (n.Below-x.N)) n.Below]:List (List al))>>=_) else _) else _)=_
  rw[e,if_pos (by omega),if_pos (by omega),ll (by simp) (by
   intro z hz
   simp only[List.mem_cons,List.not_mem_nil,or_false] at hz
   rcases hz with rfl|rfl|rfl<;>simp[lCut]<;>omega),bsome]
  rw[show ([lCut s.Stack 0 (n.Below-x.N),([(⟨true,IntKind.i64.wrap (s.Pc.V+1),s.Pc.L⟩:al)]:List al),lCut s.Stack (n.Below-x.N) n.Below]:List (List al)).flatten=lCut s.Stack 0 (n.Below-x.N)++[⟨true,IntKind.i64.wrap (s.Pc.V+1),s.Pc.L⟩]++lCut s.Stack (n.Below-x.N) n.Below by simp]
  rfl
 rw[if_neg c9]
 by_cases c10:x.Op=10
 ·have hx:nextS s x n=n.R.V:=by unfold nextS;rw[if_neg (by omega),if_pos c10]
  rw[if_pos c10,hx,mx (by omega),ox (by omega)]
  show (if x.N=1 then _ else _)=_
  by_cases cn:x.N=1
  ·have hs:stackS s x n v=lCut s.Stack 0 n.Below++[⟨false,n.A.V,v⟩]:=by unfold stackS;rw[if_neg c1,if_neg c3,if_neg c4,if_neg c5,if_neg c9,if_pos c10,if_pos cn];rfl
   rw[if_pos cn,hs]
   show (bP.f (⟨l,⟨s.Pc,s.Code,s.Mem,lCut s.Stack 0 n.Below,s.Out⟩,x,n.A,n.B,n.R,n.Below,⟨n.One,n.Two,n.Three⟩⟩:ah) n.A.V v>>=_)=_
   rw[hput];rfl
  ·have hs:stackS s x n v=lCut s.Stack 0 n.Below:=by unfold stackS;rw[if_neg c1,if_neg c3,if_neg c4,if_neg c5,if_neg c9,if_pos c10,if_neg cn];rfl
   rw[if_neg cn,hs];rfl
 rw[if_neg c10,nx (by omega) (by omega) (by omega) (by omega),mx (by omega),ox (by omega),sx c1 c3 c4 c5 c9 c10];rfl
end Go.Proofs.YtmjcpkmongafnaaGreatDoor.Ss
namespace Go.Proofs.YtmjcpkmongafnaaGreatDoor.Ss
open Go Go.Proofs.YtmjcpkmongafnaaGreatDoor.Ab Go.Proofs.YtmjcpkmongafnaaGreatDoor.TT
section
variable{s:aa} {x:ap} {n:aq}(hx:lAt s.Code s.Pc.V=some x)
include hx
theorem next_r:ee.f s n=some (nextS s x n):=by
 unfold ee.f nextS
 rw[hx,bsome]
 have e:((if x.Op=7 then (some true) else (some (decide (x.Op=9))):Option Bool))=some (decide (x.Op=7\/x.Op=9)):=by
  by_cases h:x.Op=7
  ·rw[if_pos h,decide_eq_true (.inl h)]
  ·rw[if_neg h]
   by_cases q:x.Op=9
   ·rw[decide_eq_true q,decide_eq_true (.inr q)]
   ·rw[decide_eq_false q,decide_eq_false (fun w=>w.elim h q)]
 have e2:((if x.Op=8 then (some (!decide (n.A.V=0))) else (some false):Option Bool))=some (decide (x.Op=8/\n.A.V≠0)):=by
  by_cases h:x.Op=8
  ·rw[if_pos h]
   by_cases q:n.A.V=0
   ·rw[decide_eq_true q,decide_eq_false (fun w=>w.2 q)];rfl
   ·rw[decide_eq_false q,decide_eq_true ⟨h,q⟩];rfl
  ·rw[if_neg h,decide_eq_false (fun w=>h w.1)]
 rw[e,bsome]
 by_cases h:x.Op=7\/x.Op=9
 ·rw[decide_eq_true h,if_pos rfl,if_pos h]
 ·rw[decide_eq_false h,if_neg ff,if_neg h]
  by_cases q:x.Op=10
  ·rw[if_pos q,if_pos q]
  ·rw[if_neg q,if_neg q,e2,bsome]
   by_cases w:x.Op=8/\n.A.V≠0
   ·rw[decide_eq_true w,if_pos rfl,if_pos w]
   ·rw[decide_eq_false w,if_neg ff,if_neg w]
def memL(op:Bool)(v:Int)(b:am):List am->Nat->List am
 |[],_=>[]
 |a::r,k=>(if op=true/\(k:Int)=v then b else a)::memL op v b r (k+1)
omit hx in
theorem memL_set{v:Nat} {b:am}:∀{m:List am} {k:Nat},memL true ((k+v:Nat):Int) b m k=m.set v b
 |[],k=>rfl
 |a::r,k=>by
  unfold memL
  cases v with
  |zero=>
   have h:∀(r:List am) (j:Nat),k<j->memL true ((k+0:Nat):Int) b r j=r:=by
    intro r
    induction r with
    |nil=>intro j _;rfl
    |cons a r ih=>
     intro j hj
     unfold memL
     rw[if_neg (fun w=>by have:=w.2;omega),ih (j+1) (by omega)]
   rw[if_pos ⟨rfl,by omega⟩,h r (k+1) (by omega)];rfl
  |succ v=>
   have e:((k+(v+1):Nat):Int)=((k+1+v:Nat):Int):=by omega
   rw[if_neg (fun w=>by have:=w.2;omega),e,memL_set (v:=v) (m:=r) (k:=k+1)];rfl
omit hx in
theorem memL_no{v:Int} {b:am}:∀{m:List am} {k:Nat},memL false v b m k=m
 |[],k=>rfl
 |a::r,k=>by
  unfold memL
  rw[if_neg (fun w=>by cases w.1),memL_no]
theorem mem_l0{v:Int}(hm:s.Mem.length<=900):∀(d k:Nat) (acc:List am),s.Mem.length=k+d->acc.length=k->cx.l0 s n v acc (k:Int)=some (acc++memL (decide (x.Op=6)) n.A.V ⟨n.B.V,v⟩ (s.Mem.drop k) k)
 |0,k,acc,e,ha=>by
  rw[cx.l0,if_neg (by omega),List.drop_of_length_le (by omega)]
  unfold memL
  rw[List.append_nil]
 |d+1,k,acc,e,ha=>by
  have hk:k<s.Mem.length:=by omega
  have hB:100000<=big:=by decide
  have ih:=fun z=>mem_l0 (v:=v) hm d (k+1) (acc++[z]) (by omega) (by simp[ha])
  rw[cx.l0,if_pos (by omega),bx hk,bsome,hx,bsome,List.drop_eq_getElem_cons hk]
  unfold memL
  have e2:((if x.Op=6 then (some (decide ((k:Int)=n.A.V))) else (some false):Option Bool))=some (decide (decide (x.Op=6)=true/\(k:Int)=n.A.V)):=by
   by_cases h:x.Op=6
   ·rw[if_pos h]
    congr 1
    exact decide_eq_decide.2 ⟨fun w=>⟨decide_eq_true h,w⟩,fun w=>w.2⟩
   ·rw[if_neg h,decide_eq_false (fun w=>h (of_decide_eq_true w.1))]
  rw[e2,bsome]
  by_cases w:decide (x.Op=6)=true/\(k:Int)=n.A.V
  ·rw[if_pos w,decide_eq_true w,if_pos rfl,if_pos (by simp;omega),bsome,wS (by omega),ih,List.append_assoc];rfl
  ·rw[if_neg w,decide_eq_false w,if_neg ff,if_pos (by simp;omega),bsome,wS (by omega),ih,List.append_assoc];rfl
theorem mem_r{v:Int}(hm:s.Mem.length<=900)(h6:x.Op=6->0<=n.A.V):cx.f s n v=some (memS s x n v):=by
 unfold cx.f memS
 have h:=mem_l0 hx (n:=n) (v:=v) hm s.Mem.length 0 [] (by omega) rfl
 rw[show ((0:Nat):Int)=0 from rfl,List.nil_append,List.drop_zero] at h
 rw[h,bsome]
 by_cases q:x.Op=6
 ·have e:n.A.V=((0+n.A.V.toNat:Nat):Int):=by have:=h6 q;omega
  rw[if_pos q,decide_eq_true q]
  conv=>lhs;rw[e]
  rw[memL_set]
 ·rw[if_neg q,decide_eq_false q,memL_no]
omit hx in
theorem with_r{S:List al} {z:al}(h:S.length<=900):ck.f S z=some (S++[z])/\dV.f S z=some (S++[z]):=by
 have hB:100000<=big:=by decide
 unfold ck.f dV.f
 rw[if_pos (by simp;omega),if_pos (by simp;omega)]
 exact⟨rfl,rfl⟩
omit hx in
theorem cut_cut{S:List al} {a b:Int}(h0:0<=a)(h1:a<=b)(h2:b<=(S.length:Int)):lCut (lCut S 0 b) 0 a=lCut S 0 a/\lCut (lCut S 0 b) a ((lCut S 0 b).length:Int)=lCut S a b:=by
 have hl:(lCut S 0 b).length=b.toNat:=by simp[lCut];omega
 rw[hl]
 unfold lCut
 constructor
 ·simp only[Int.toNat_zero,List.drop_zero,Nat.sub_zero,List.take_take]
  congr 1;omega
 ·simp only[Int.toNat_zero,List.drop_zero,Nat.sub_zero,List.drop_take,List.take_take]
  congr 1
  omega
theorem stack_rx{v:Int}(hn:s.Stack.length<=900)(lo:0<=n.Below)(hi:n.Below<=(s.Stack.length:Int))(c:x.Op=5->0<=n.A.V/\n.A.V<(s.Mem.length:Int))(g:x.Op=9->0<=x.N/\x.N<=n.Below):dN.f s n v=some (stackS s x n v):=by
 have hc:=jb (xs:=s.Stack) (b:=n.Below)
 have hB:100000<=big:=by decide
 have hW:∀z,ck.f (lCut s.Stack 0 n.Below) z=some (lCut s.Stack 0 n.Below++[z]):=fun z=>(with_r (by omega)).1
 unfold dN.f stackS restS
 rw[hx,bsome,if_pos ⟨lo,hi⟩]
 by_cases c1:x.Op=1
 ·rw[if_pos c1,if_pos c1,hW];rfl
 rw[if_neg c1,if_neg c1]
 by_cases c3:x.Op=3
 ·rw[if_pos c3,if_pos c3,hW];rfl
 rw[if_neg c3,if_neg c3]
 by_cases c4:x.Op=4
 ·rw[if_pos c4,if_pos c4,hW];rfl
 rw[if_neg c4,if_neg c4]
 by_cases c5:x.Op=5
 ·obtain⟨k1,k2⟩:=c c5
  rw[if_pos c5,if_pos c5,mm_at k1 k2,bsome,hW];rfl
 rw[if_neg c5,if_neg c5]
 by_cases c9:x.Op=9
 ·obtain⟨g0,g1⟩:=g c9
  have e:IntKind.i64.wrap (n.Below-x.N)=n.Below-x.N:=wrapZ (by omega) (by omega)
  obtain⟨q1,q2⟩:=cut_cut (S:=s.Stack) (a:=n.Below-x.N) (b:=n.Below) (by omega) (by omega) hi
  have hl:(lCut s.Stack 0 n.Below).length=n.Below.toNat:=by simp[lCut];omega
  have hA:(lCut s.Stack 0 (n.Below-x.N)).length<=900:=Nat.le_trans jb hn
  have hD:(lCut s.Stack (n.Below-x.N) n.Below).length<=900:=by simp[lCut];omega
  rw[if_pos c9,if_pos c9,e,if_pos (by omega),q1,(with_r hA).2,bsome,if_pos (by omega),q2,if_pos (by simp only[List.length_append,List.length_singleton];omega)];rfl
 rw[if_neg c9,if_neg c9]
 by_cases c10:x.Op=10
 ·rw[if_pos c10,if_pos c10]
  by_cases cn:x.N=1
  ·rw[if_pos cn,if_pos cn,hW];rfl
  ·rw[if_neg cn,if_neg cn];rfl
 ·rw[if_neg c10,if_neg c10];rfl
end
end Go.Proofs.YtmjcpkmongafnaaGreatDoor.Ss
namespace Go.Proofs.YtmjcpkmongafnaaGreatDoor.Ss
open Go Go.Proofs.YtmjcpkmongafnaaGreatDoor.Ab Go.Proofs.YtmjcpkmongafnaaGreatDoor.TT
theorem iL{n:Nat} {a:Int}(h:labB (n:Int) a=true):inn n a=true:=by
 have:=of_decide_eq_true h
 unfold inn
 rw[decide_eq_true this.1,decide_eq_true this.2];rfl
structure Labs(n:Int)(s:aa):Prop where
 pc:labB n s.Pc.L=true
 st:∀x∈s.Stack,labB n x.L=true
 me:∀x∈s.Mem,labB n x.L=true
theorem labs_of{n:Int} {s:aa}(h:rightS n s=true):Labs n s:=by
 unfold rightS at h
 simp only[Bool.and_eq_true] at h
 obtain⟨⟨⟨⟨⟨⟨h1,h2⟩,h3⟩,⟨h4,h5⟩,h6⟩,h7⟩,h8⟩,h9⟩:=h
 refine⟨h3,fun x hx=>?_,fun x hx=>?_⟩
 ·have:=List.all_eq_true.1 h8 x hx
  unfold okS at this
  rw[Bool.and_eq_true] at this
  exact this.1
 ·have:=List.all_eq_true.1 h7 x hx
  unfold okA at this
  rw[Bool.and_eq_true] at this
  exact this.2
theorem ins_l{n:Int} {x:ap}(h:insB n x=true)(h1:x.Op=1):labB n x.L=true:=by
 unfold insB at h
 rw[if_pos h1] at h
 have:=of_decide_eq_true h
 unfold labB
 exact decide_eq_true ⟨this.2.2.1,this.2.2.2⟩
section
variable{l:ab} {U:List Nat}(h:Nm l U)(hc:chk l U=0)
include h hc
theorem judged{labels:List Int}(h4:labels.length=4)(ha:labels.all (inn U.length)=true){r:List Int} {b:Bool}(hr:right r=some b):
  (b=false->∃c:Bool,dU.f l r labels=some (c,0)/\bM.f l r labels=some ⟨c,0,0⟩)/\(b=true->∃v:Int,cT.f l r labels=some (v,0)/\bM.f l r labels=some ⟨false,v,0⟩):=by
 obtain⟨E,hn,hle,hJ,hM,hb,ht,_⟩:=je_of h hc h4 ha
 have R:=je_ref h hc hn hle hJ hM hb ht
 obtain⟨t,h1,h2,h3,h40⟩:=jX hr
 subst h3
 have hm:mayS l U t.flat labels b=0:=by
  unfold mayS okL
  rw[if_pos hc,if_pos hr,decide_eq_true h4,ha];rfl
 constructor
 ·intro e
  subst e
  refine⟨(ev E t).1,cond_is h E h1 h2 (by omega) (by omega) hm,?_⟩
  rw[lq E R h1 (by omega)]
  unfold vis via
  rw[h2];rfl
 ·intro e
  subst e
  refine⟨((ev E t).2:Int),l6 h E h1 h2 (by omega) (by omega) hm,?_⟩
  rw[lq E R h1 (by omega)]
  unfold vis via
  rw[h2];rfl
theorem bots:∃y:Nat,y<U.length/\cR.f l=some ((y:Int),0)/\bA.f l=some (y:Int):=by
 obtain⟨y0,⟨hy,_⟩,_⟩:=jY h hc
 have h0:inn U.length 0=true:=by
  have:=io (n:=U.length) (k:=0) (by omega)
  simpa using this
 obtain⟨E,hn,hle,hJ,hM,hb,ht,_⟩:=je_of h hc (labels:=[0,0,0,0]) rfl (by simp[h0])
 have R:=je_ref h hc hn hle hJ hM hb ht
 exact⟨E.bot,by rw[<-hn];exact E.hbot.1,E.hbot.2,R.rbot⟩
end
def TT(s:aa)(x:ap)(n:aq)(v w:Int):aa:=⟨⟨nextS s x n,w⟩,s.Code,memS s x n v,stackS s x n v,outS s x n v⟩
def KR(a0:ab)(a2:aa)(y2:aq)(y3:ap)(y6:aE):Option aP:=
 bM.f a0 y6.May ([a2.Pc.L,y2.One,y2.Two,y2.Three]:List Int)>>=fun y7=>if (!y7.Is)=true then (some (⟨a2,2⟩:aP)) else (bM.f a0 y6.Res ([a2.Pc.L,y2.One,y2.Two,y2.Three]:List Int)>>=fun y9=>cx.f a2 y2 y9.A>>=fun y10=>dN.f a2 y2 y9.A>>=fun y11=>ee.f a2 y2>>=fun y12=>bM.f a0 y6.Pc ([a2.Pc.L,y2.One,y2.Two,y2.Three]:List Int)>>=fun y13=>if y3.Op=11 then (if (([]:List am).length+a2.Out.length)*16<=big then (if ((([]:List am)++a2.Out).length+([(⟨y2.A.V,y9.A⟩:am)]:List am).length)*16<=big then (cu.f a0 (⟨⟨y12,y13.A⟩,a2.Code,y10,y11,(([]:List am)++a2.Out)++([(⟨y2.A.V,y9.A⟩:am)]:List am)⟩:aa)>>=fun y17=>if (!y17)=true then (some (⟨a2,3⟩:aP)) else (some (⟨⟨⟨y12,y13.A⟩,a2.Code,y10,y11,(([]:List am)++a2.Out)++([(⟨y2.A.V,y9.A⟩:am)]:List am)⟩,0⟩:aP))) else none) else none) else (cu.f a0 (⟨⟨y12,y13.A⟩,a2.Code,y10,y11,a2.Out⟩:aa)>>=fun y19=>if (!y19)=true then (some (⟨a2,3⟩:aP)) else (some (⟨⟨⟨y12,y13.A⟩,a2.Code,y10,y11,a2.Out⟩,0⟩:aP))))
structure Can(s:aa)(x:ap)(n:aq):Prop where
 lo:0<=n.Below
 hi:n.Below<=(s.Stack.length:Int)
 c:x.Op=5\/x.Op=6->0<=n.A.V/\n.A.V<(s.Mem.length:Int)
 g:x.Op=9->0<=x.N/\x.N<=n.Below
theorem TT_sz{l:ab} {s:aa} {x:ap} {n:aq} {v w:Int} {N:Int}(z:RightS N s)(C:Can s x n):Sz (TT s x n v w):=by
 have zs:=z.stack
 have zm:=z.mem
 have zo:=z.out
 have zc:=z.code
 obtain⟨d,d1,d2⟩:=does_x (l:=l) (x:=x) (n:=n) (by omega:s.Stack.length<=900) (by omega) (by omega) C.lo C.hi C.c C.g v
 obtain⟨d',d1',k⟩:=does_m (m:=mOf l s x n) (by show s.Stack.length<=900;omega) (by show s.Mem.length<=900;omega) (by show s.Out.length<=900;omega) C.lo C.hi (fun q=>decide_eq_true (C.c q)) C.g v
 rw[d1] at d1'
 obtain rfl:=Option.some.inj d1'
 have k2:(memS s x n v).length=s.Mem.length:=by have:=k.mem;rw[d2] at this;exact this
 have k3:(stackS s x n v).length<=s.Stack.length+1:=by have:=k.st;rw[d2] at this;exact this
 refine⟨by show s.Code.length<=1000;omega,by show (memS s x n v).length<=1000;omega,by show (stackS s x n v).length<=1000;omega,?_⟩
 show (outS s x n v).length<=1000
 unfold outS
 split
 ·rw[List.length_append,List.length_singleton];omega
 ·omega
section
variable{l:ab} {U:List Nat}(h:Nm l U)(hc:chk l U=0){s:aa} {x:ap} {n:aq}(z:RightS (l.Up.length:Int) s)(C:Can s x n){row:aE} {c:Bool} {v w:Int}
include h hc z C
theorem K_eq(c1:dU.f l row.May [s.Pc.L,n.One,n.Two,n.Three]=some (c,0))(v1:cT.f l row.Res [s.Pc.L,n.One,n.Two,n.Three]=some (v,0))(w1:cT.f l row.Pc [s.Pc.L,n.One,n.Two,n.Three]=some (w,0)):
  K l s (mOf l s x n) row=some (if c=true then (if rightS (l.Up.length:Int) (TT s x n v w)=true then .inr (TT s x n v w,0) else .inl 3) else .inl 2):=by
 have zs:=z.stack
 have zm:=z.mem
 have zo:=z.out
 obtain⟨d,d1,d2⟩:=does_x (l:=l) (x:=x) (n:=n) (by omega:s.Stack.length<=900) (by omega) (by omega) C.lo C.hi C.c C.g v
 unfold K
 show (dU.f l row.May [s.Pc.L,n.One,n.Two,n.Three]>>=_)=_
 rw[c1,bsome]
 cases c with
 |false=>rfl
 |true=>
  show (cT.f l row.Res [s.Pc.L,n.One,n.Two,n.Three]>>=_)=_
  rw[v1,bsome]
  show (cT.f l row.Pc [s.Pc.L,n.One,n.Two,n.Three]>>=_)=_
  rw[w1,bsome,d1,bsome,d2]
  show (dW.f l (TT s x n v w)>>=_)=_
  rw[jF h hc (TT_sz (l:=l) z C),bsome,fW,bsome]
  cases rightS (l.Up.length:Int) (TT s x n v w)<;>rfl
theorem KR_eq(hx:lAt s.Code s.Pc.V=some x)(c1:bM.f l row.May [s.Pc.L,n.One,n.Two,n.Three]=some ⟨c,0,0⟩)(v1:bM.f l row.Res [s.Pc.L,n.One,n.Two,n.Three]=some ⟨false,v,0⟩)(w1:bM.f l row.Pc [s.Pc.L,n.One,n.Two,n.Three]=some ⟨false,w,0⟩):
  KR l s n x row=some (if c=true then (if rightS (l.Up.length:Int) (TT s x n v w)=true then ⟨TT s x n v w,0⟩ else ⟨s,3⟩) else ⟨s,2⟩):=by
 have zs:=z.stack
 have zm:=z.mem
 have zo:=z.out
 have hB:100000<=big:=by decide
 have zz:=TT_sz (l:=l) (v:=v) (w:=w) z C
 unfold KR
 rw[c1,bsome]
 cases c with
 |false=>rfl
 |true=>
  rw[if_neg (show ¬(!true)=true by decide),if_pos rfl,v1,bsome]
  show (cx.f s n v>>=fun y10=>dN.f s n v>>=_)=_
  rw[mem_r hx (by omega) (fun q=>(C.c (.inr q)).1),bsome,stack_rx hx (by omega) C.lo C.hi (fun q=>C.c (.inl q)) C.g,bsome,next_r hx,bsome,w1,bsome]
  by_cases h11:x.Op=11
  ·have e:(⟨⟨nextS s x n,w⟩,s.Code,memS s x n v,stackS s x n v,([]++s.Out)++[(⟨n.A.V,v⟩:am)]⟩:aa)=TT s x n v w:=by unfold TT outS;rw[if_pos h11];rfl
   rw[if_pos h11,if_pos (show (([]:List am).length+s.Out.length)*16<=big by simp;omega),if_pos (show ((([]:List am)++s.Out).length+([(⟨n.A.V,v⟩:am)]:List am).length)*16<=big by simp;omega)]
   show (cu.f l (⟨⟨nextS s x n,w⟩,s.Code,memS s x n v,stackS s x n v,([]++s.Out)++[(⟨n.A.V,v⟩:am)]⟩:aa)>>=fun y17=>if (!y17)=true then some (⟨s,3⟩:aP) else some (⟨(⟨⟨nextS s x n,w⟩,s.Code,memS s x n v,stackS s x n v,([]++s.Out)++[(⟨n.A.V,v⟩:am)]⟩:aa),0⟩:aP))=_
   rw[e,j0 zz,bsome]
   cases rightS (l.Up.length:Int) (TT s x n v w)<;>rfl
  ·have e:(⟨⟨nextS s x n,w⟩,s.Code,memS s x n v,stackS s x n v,s.Out⟩:aa)=TT s x n v w:=by unfold TT outS;rw[if_neg h11]
   rw[if_neg h11]
   show (cu.f l (⟨⟨nextS s x n,w⟩,s.Code,memS s x n v,stackS s x n v,s.Out⟩:aa)>>=fun y19=>if (!y19)=true then some (⟨s,3⟩:aP) else some (⟨(⟨⟨nextS s x n,w⟩,s.Code,memS s x n v,stackS s x n v,s.Out⟩:aa),0⟩:aP))=_
   rw[e,j0 zz,bsome]
   cases rightS (l.Up.length:Int) (TT s x n v w)<;>rfl
end
theorem stepR{l:ab} {R:List aE} {s:aa} {n:aq} {x:ap}(h0:s.Pc.V<(s.Code.length:Int))(hx:lAt s.Code s.Pc.V=some x)(hN:aY.f l s=some n):
  dJ.f l ⟨R⟩ s=(if (!n.Is)=true then (some (⟨s,3⟩:aP)) else (if x.Op=12 then (some (⟨s,1⟩:aP)) else (lAt R x.Op>>=fun y6=>KR l s n x y6))):=by
 unfold dJ.f KR
 rw[if_neg (show ¬s.Pc.V>=(s.Code.length:Int) by omega),hN,bsome,hx,bsome]
theorem stepP{l:ab} {R:List aE} {s:aa} {n:aq} {x:ap} {y:Int}(h0:s.Pc.V<(s.Code.length:Int))(hx:lAt s.Code s.Pc.V=some x)(hb:cR.f l=some (y,0))(hP:bG.f (mach l s x y)=some (if n.Is=true then .inr (mOf l s x n) else .inl 3)):
  cW.B l ⟨R⟩ s=(if (!n.Is)=true then some (.inl 3) else (if x.Op=12 then some (.inl 1) else (lAt R x.Op>>=fun y6=>K l s (mOf l s x n) y6))):=by
 unfold cW.B
 rw[fW,bsome,decide_eq_true h0,if_pos rfl]
 show (cR.f l>>=_)=_
 rw[hb,bsome,hx,bsome]
 show (bG.f (mach l s x y)>>=_)=_
 rw[hP,bsome]
 cases n.Is<;>rfl
section
variable{l:ab} {U:List Nat}(h:Nm l U)(hc:chk l U=0)
include h hc
theorem step_ref{s:aa}(hr:rightS (l.Up.length:Int) s=true){R:List aE}(hF:Few R)(hT:(chT R).2=0):
  ∃r o,cW.B l ⟨R⟩ s=some r/\dJ.f l ⟨R⟩ s=some o/\(finD s r).1=o.S/\(finD s r).2=o.What:=by
 have z:=rs_of hr
 have L:=labs_of hr
 have zs:=z.stack
 obtain⟨h13,_,hRr,_⟩:=chT_zero hT
 by_cases h0:s.Pc.V<(s.Code.length:Int)
 ·obtain⟨x,ea,hm⟩:=code_at z h0
  have hi:=z.ins x hm
  obtain⟨i0,i1⟩:=ins_of hi
  obtain⟨n7,n10⟩:=ins_n hi
  obtain⟨y,hy,hb,hbr⟩:=bots h hc
  have hyl:labB (l.Up.length:Int) (y:Int)=true:=by
   unfold labB
   rw[h.n]
   exact decide_eq_true ⟨by omega,by omega⟩
  obtain⟨n,hN,hP⟩:=needs_two (l:=l) ea hbr (by omega) i0 n7 i1 n10
  obtain⟨rr,hrr,hq⟩:=needs_a (P:=fun v=>labB (l.Up.length:Int) v=true) (a:=mach l s x (y:Int)) ⟨by show s.Stack.length<=1000;omega,hyl,hyl,hyl,L.st,L.me,i0,fun w=>ins_l hi w,i1⟩
  rw[stepP h0 ea hb hP,stepR h0 ea hN]
  cases hI:n.Is with
  |false=>exact⟨_,_,rfl,rfl,rfl,rfl⟩
  |true=>
   rw[if_neg (show ¬(!true)=true by decide),if_neg (show ¬(!true)=true by decide)]
   rw[hI,if_pos rfl] at hP
   rw[hP] at hrr
   obtain rfl:=Option.some.inj hrr
   have F:Fine (fun v=>labB (l.Up.length:Int) v=true) (mach l s x (y:Int)) (mOf l s x n):=hq
   by_cases h12:x.Op=12
   ·rw[if_pos h12,if_pos h12]
    exact⟨_,_,rfl,rfl,rfl,rfl⟩
   ·rw[if_neg h12,if_neg h12]
    have eo:x.Op=((x.Op.toNat:Nat):Int):=by omega
    have hlt:x.Op.toNat<R.length:=by omega
    have hla:lAt R x.Op=some R[x.Op.toNat]:=by
     have:=bx (xs:=R) hlt
     rwa [<-eo] at this
    have hrow:=hRr _ (List.getElem_mem hlt)
    rw[hla,bsome,bsome]
    generalize R[x.Op.toNat]=row at hrow
    have hlabs:([s.Pc.L,n.One,n.Two,n.Three]:List Int).all (inn U.length)=true:=by
     have e:(l.Up.length:Int)=(U.length:Int):=by rw[h.n]
     have a1:=L.pc
     have a2:labB (l.Up.length:Int) n.One=true:=F.o0
     have a3:labB (l.Up.length:Int) n.Two=true:=F.o1
     have a4:labB (l.Up.length:Int) n.Three=true:=F.o2
     rw[e] at a1 a2 a3 a4
     simp[iL a1,iL a2,iL a3,iL a4]
    obtain⟨c,c1,c2⟩:=(judged h hc (labels:=[s.Pc.L,n.One,n.Two,n.Three]) rfl hlabs hrow.may).1 rfl
    obtain⟨v,v1,v2⟩:=(judged h hc (labels:=[s.Pc.L,n.One,n.Two,n.Three]) rfl hlabs hrow.res).2 rfl
    obtain⟨w,w1,w2⟩:=(judged h hc (labels:=[s.Pc.L,n.One,n.Two,n.Three]) rfl hlabs hrow.pc).2 rfl
    have C:Can s x n:=⟨F.lo,F.hi,fun q=>of_decide_eq_true (F.c q),fun q=>⟨(i1 q).1,F.g q⟩⟩
    rw[K_eq h hc z C c1 v1 w1,KR_eq h hc z C ea c2 v2 w2]
    refine⟨_,_,rfl,rfl,?_⟩
    cases c with
    |false=>exact⟨rfl,rfl⟩
    |true=>
     rw[if_pos rfl,if_pos rfl]
     cases rightS (l.Up.length:Int) (TT s x n v w) with
     |false=>exact⟨rfl,rfl⟩
     |true=>exact⟨rfl,rfl⟩
 ·unfold cW.B dJ.f
  rw[fW,bsome,decide_eq_false h0,if_neg ff,if_pos (show s.Pc.V>=(s.Code.length:Int) by omega)]
  exact⟨_,_,rfl,rfl,rfl,rfl⟩
end
theorem may_r{l:ab} {U:List Nat}(h:Nm l U){R:List aE}(hF:Few R){s:aa}(z:Sz s):eS.f l ⟨R⟩ s=some (mayO l U R s):=by
 unfold eS.f mayO
 rw[mH h,bsome]
 by_cases hc:chk l U=0
 ·rw[if_pos hc,if_pos hc,l9 hF,bsome]
  by_cases hT:(chT R).2=0
  ·rw[if_pos hT,if_pos hT,j0 z,bsome]
   cases rightS (l.Up.length:Int) s<;>rfl
  ·rw[if_neg hT,if_neg hT,bsome]
 ·rw[if_neg hc,if_neg hc]
end Go.Proofs.YtmjcpkmongafnaaGreatDoor.Ss
namespace Go.Proofs.YtmjcpkmongafnaaGreatDoor.Ss
open Go Go.Proofs.YtmjcpkmongafnaaGreatDoor.Ab Go.Proofs.YtmjcpkmongafnaaGreatDoor.TT
structure StepOk(l:ab)(R:List aE)(st:aa->aa×Int)(G:aa->Prop):Prop where
 one:∀s,G s->dM.f l ⟨R⟩ s=some ((st s).1,(st s).2,0)
 next:∀s,G s->G (st s).1
 sz:∀s,G s->Sz s
theorem step_ok{l:ab} {U:List Nat}(h:Nm l U){R:List aE}(hF:Few R)(hc:chk l U=0)(hT:(chT R).2=0):∃st,StepOk l R st (fun s=>rightS (l.Up.length:Int) s=true):=by
 refine⟨fun s=>match dM.f l ⟨R⟩ s with|some (t,q,_)=>(t,q)|none=>(s,3),?_⟩
 have key:∀s,rightS (l.Up.length:Int) s=true->∃t q,dM.f l ⟨R⟩ s=some (t,q,0)/\rightS (l.Up.length:Int) t=true:=by
  intro s hr
  have zr:=rs_of hr
  have hm:mayO l U R s=0:=by unfold mayO;rw[if_pos hc,if_pos hT,if_pos hr]
  obtain⟨r,hb,w⟩:=B_m h hc zr hF (chT_zero hT).1
  exact⟨_,_,one_yes h hF zr.sz hm hb,(stays hr w).right⟩
 refine⟨fun s hs=>?_,fun s hs=>?_,fun s hs=>(rs_of hs).sz⟩
 ·obtain⟨t,q,e,_⟩:=key s hs
  simp only[e]
 ·obtain⟨t,q,e,w⟩:=key s hs
  simp only[e];exact w
def runL(st:aa->aa×Int):Nat->aa->List aa×Int
 |0,s=>([s],0)
 |k+1,s=>if (st s).2=0 then (s::(runL st k (st s).1).1,(runL st k (st s).1).2) else ([s],(st s).2)
section
variable{st:aa->aa×Int}
theorem runL_len:∀(k:Nat) (s:aa),1<=(runL st k s).1.length/\(runL st k s).1.length<=k+1
 |0,s=>⟨Nat.le_refl _,Nat.le_refl _⟩
 |k+1,s=>by
  have:=runL_len k (st s).1
  unfold runL
  split
  ·simp only[List.length_cons];omega
  ·simp only[List.length_singleton];omega
theorem runL_all{G:aa->Prop}(hn:∀s,G s->G (st s).1):∀(k:Nat) (s:aa),G s->∀x∈(runL st k s).1,G x
 |0,s,h,x,hx=>by
  obtain rfl:=List.mem_singleton.1 hx
  exact h
 |k+1,s,h,x,hx=>by
  unfold runL at hx
  split at hx
  ·rcases List.mem_cons.1 hx with rfl|hx
   ·exact h
   ·exact runL_all hn k _ (hn s h) x hx
  ·obtain rfl:=List.mem_singleton.1 hx
   exact h
end
theorem ma{w:Int} {acc:List aa}(h:acc.length<=1000)(x:aa)(q:Int):yOf ci.y0 ((w,acc),0) x q=some (true,((q,acc++[x]),0)):=by
 have hB:200000<=big:=by decide
 show ci.y0 (w,acc) x q=_
 unfold ci.y0
 rw[if_pos (by simp;omega)]
section
variable{l:ab} {R:List aE} {st:aa->aa×Int} {G:aa->Prop}(K:StepOk l R st G)
include K
theorem lr{k:Nat}(hk:k<=900):∀(d i:Nat) (s:aa) (w:Int) (acc:List aa),G s->k=i+d->acc.length<=i->
  (bt.l0 (yOf ci.y0) (k:Int) l ⟨R⟩ s ((w,acc),0) (i:Int)>>=fun o=>match o with|.inl r=>some r|.inr (x22,x23)=>yOf ci.y0 x23 x22 0>>=fun y43=>some y43.2)=some (((runL st d s).2,acc++(runL st d s).1),0)
 |0,i,s,w,acc,hs,e,ha=>by
  rw[bt.l0,if_neg (by omega),bsome]
  show (yOf ci.y0 ((w,acc),0) s 0>>=_)=_
  rw[ma (by omega),bsome];rfl
 |d+1,i,s,w,acc,hs,e,ha=>by
  rw[bt.l0,if_pos (by omega)]
  show ((dM.f l ⟨R⟩ s>>=_)>>=_)=_
  rw[K.one s hs,bsome]
  show (((yOf ci.y0 ((w,acc),0) s (st s).2>>=_)>>=_)>>=_)=_
  rw[ma (by omega),bsome]
  show (((if (!true)=true then _ else _)>>=_)>>=_)=_
  rw[if_neg (show ¬(!true)=true by decide),bsome]
  by_cases q:(st s).2=0
  ·have hq:runL st (d+1) s=(s::(runL st d (st s).1).1,(runL st d (st s).1).2):=by
    show (if (st s).2=0 then _ else _)=_
    rw[if_pos q]
   show ((if (!decide ((st s).2=0))=true then _ else bt.l0 (yOf ci.y0) (k:Int) l ⟨R⟩ (st s).1 (((st s).2,acc++[s]),0) (IntKind.i64.wrap ((i:Int)+1)))>>=_)=_
   rw[decide_eq_true q,if_neg (by decide),wS (by omega),lr hk d (i+1) (st s).1 _ _ (K.next s hs) (by omega) (by simp;omega),hq]
   simp
  ·have hq:runL st (d+1) s=([s],(st s).2):=by
    show (if (st s).2=0 then _ else _)=_
    rw[if_neg q]
   show ((if (!decide ((st s).2=0))=true then some (Sum.inl (((st s).2,acc++[s]),0)) else _)>>=_)=_
   rw[decide_eq_false q,if_pos (by decide),bsome,hq]
theorem run_eq{s:aa}(hs:G s){k:Nat}(hk:k<=40):ci.f l ⟨R⟩ s (k:Int)=some ((runL st k s).1,(runL st k s).2,0):=by
 unfold ci.f fl.f
 rw[K.one s hs,bsome,if_pos rfl,if_neg (by omega),bsome,decide_eq_false (show ¬(k:Int)>40 by omega),if_neg (by decide),bsome,if_pos rfl]
 unfold fk.f
 rw[bsome]
 show (bt.f (yOf ci.y0) ((0,[]),0) (k:Int) l ⟨R⟩ s>>=_)=_
 have h:=lr K (k:=k) (by omega) k 0 s 0 [] hs (by omega) (Nat.le_refl _)
 rw[show ((0:Nat):Int)=0 from rfl] at h
 have h2:bt.f (yOf ci.y0) ((0,[]),0) (k:Int) l ⟨R⟩ s=some (((runL st k s).2,[]++(runL st k s).1),0):=by
  refine Eq.trans ?_ h
  unfold bt.f
  refine congrArg (fun F=>bt.l0 (yOf ci.y0) (k:Int) l ⟨R⟩ s ((0,[]),0) 0>>=F) (funext fun o=>?_)
  rcases o with r|⟨x22,x23⟩<;>rfl
 rw[h2,bsome,if_pos rfl];rfl
end
abbrev LastT:=aa×Int×Int×Int×(List ap)×(List am)×(List al)×(List am)
def lastT(s:aa)(q:Int):LastT:=(s,q,s.Pc.V,s.Pc.L,s.Code,s.Mem,s.Stack,s.Out)
theorem yieldL{a:LastT}(x:aa)(q:Int):yOf cJ.y0 (a,0) x q=some (true,(lastT x q,0)):=rfl
def lastS(st:aa->aa×Int):Nat->aa->aa
 |0,s=>s
 |k+1,s=>if (st s).2=0 then lastS st k (st s).1 else s
section
variable{l:ab} {R:List aE} {st:aa->aa×Int} {G:aa->Prop}(K:StepOk l R st G)
include K
theorem last_l0{k:Nat}(hk:k<=900):∀(d i:Nat) (s:aa) (a:LastT),G s->k=i+d->
  (bt.l0 (yOf cJ.y0) (k:Int) l ⟨R⟩ s (a,0) (i:Int)>>=fun o=>match o with|.inl r=>some r|.inr (x22,x23)=>yOf cJ.y0 x23 x22 0>>=fun y43=>some y43.2)=some (lastT (lastS st d s) (runL st d s).2,0)
 |0,i,s,a,hs,e=>by
  rw[bt.l0,if_neg (by omega),bsome]
  show (yOf cJ.y0 (a,0) s 0>>=_)=_
  rw[yieldL,bsome];rfl
 |d+1,i,s,a,hs,e=>by
  rw[bt.l0,if_pos (by omega)]
  show ((dM.f l ⟨R⟩ s>>=_)>>=_)=_
  rw[K.one s hs,bsome]
  show (((yOf cJ.y0 (a,0) s (st s).2>>=_)>>=_)>>=_)=_
  rw[yieldL,bsome]
  show (((if (!true)=true then _ else _)>>=_)>>=_)=_
  rw[if_neg (show ¬(!true)=true by decide),bsome]
  by_cases q:(st s).2=0
  ·have hq:runL st (d+1) s=(s::(runL st d (st s).1).1,(runL st d (st s).1).2):=by
    show (if (st s).2=0 then _ else _)=_
    rw[if_pos q]
   have hl:lastS st (d+1) s=lastS st d (st s).1:=by
    show (if (st s).2=0 then _ else _)=_
    rw[if_pos q]
   show ((if (!decide ((st s).2=0))=true then _ else bt.l0 (yOf cJ.y0) (k:Int) l ⟨R⟩ (st s).1 (lastT s (st s).2,0) (IntKind.i64.wrap ((i:Int)+1)))>>=_)=_
   rw[decide_eq_true q,if_neg (by decide),wS (by omega),last_l0 hk d (i+1) (st s).1 _ (K.next s hs) (by omega),hq,hl]
  ·have hq:runL st (d+1) s=([s],(st s).2):=by
    show (if (st s).2=0 then _ else _)=_
    rw[if_neg q]
   have hl:lastS st (d+1) s=s:=by
    show (if (st s).2=0 then _ else _)=_
    rw[if_neg q]
   show ((if (!decide ((st s).2=0))=true then some (Sum.inl (lastT s (st s).2,0)) else _)>>=_)=_
   rw[decide_eq_false q,if_pos (by decide),bsome,hq,hl]
theorem last_eq{s:aa}(hs:G s){k:Nat}(hk:k<=40):cJ.f l ⟨R⟩ s (k:Int)=some (lastS st k s,(runL st k s).2,0):=by
 unfold cJ.f fl.f
 rw[K.one s hs,bsome,if_pos rfl,if_neg (by omega),bsome,decide_eq_false (show ¬(k:Int)>40 by omega),if_neg (by decide),bsome,if_pos rfl]
 unfold fk.f
 rw[bsome]
 show (bt.f (yOf cJ.y0) (lastT s 0,0) (k:Int) l ⟨R⟩ s>>=_)=_
 have h:=last_l0 K (k:=k) (by omega) k 0 s (lastT s 0) hs (by omega)
 rw[show ((0:Nat):Int)=0 from rfl] at h
 have h2:bt.f (yOf cJ.y0) (lastT s 0,0) (k:Int) l ⟨R⟩ s=some (lastT (lastS st k s) (runL st k s).2,0):=by
  refine Eq.trans ?_ h
  unfold bt.f
  refine congrArg (fun F=>bt.l0 (yOf cJ.y0) (k:Int) l ⟨R⟩ s (lastT s 0,0) 0>>=F) (funext fun o=>?_)
  rcases o with r|⟨x22,x23⟩<;>rfl
 rw[h2,bsome,if_pos rfl];rfl
theorem run_far{s:aa}(hs:G s){f:Int}(hf:f<0\/f>40):ci.f l ⟨R⟩ s f=some ([],0,1)/\cJ.f l ⟨R⟩ s f=some (nilS,0,1):=by
 have e:((if f<0 then (some true) else (some (decide (f>40))):Option Bool))=some true:=by
  by_cases q:f<0
  ·rw[if_pos q]
  ·rw[if_neg q,decide_eq_true (by omega)]
 unfold ci.f cJ.f fl.f
 rw[K.one s hs,bsome,if_pos rfl,e,bsome,if_pos rfl,bsome]
 exact⟨rfl,rfl⟩
end
theorem last_no{l:ab} {U:List Nat}(h:Nm l U){R:List aE}(hF:Few R){s:aa}(z:Sz s)(hm:mayO l U R s≠0)(k:Int):cJ.f l ⟨R⟩ s k=some (nilS,0,mayO l U R s):=by
 unfold cJ.f fl.f
 rw[one_no h hF z hm,bsome]
 show ((if mayO l U R s=0 then _ else some (mayO l U R s))>>=_)=_
 rw[if_neg hm,bsome,if_neg hm];rfl
structure StepRef(l:ab)(R:List aE)(st:aa->aa×Int)(G:aa->Prop):Prop where
 ref:∀s,G s->dJ.f l ⟨R⟩ s=some ⟨(st s).1,(st s).2⟩
theorem steps{l:ab} {U:List Nat}(h:Nm l U){R:List aE}(hF:Few R)(hc:chk l U=0)(hT:(chT R).2=0):∃st,StepOk l R st (fun s=>rightS (l.Up.length:Int) s=true)/\StepRef l R st (fun s=>rightS (l.Up.length:Int) s=true):=by
 obtain⟨st,K⟩:=step_ok h hF hc hT
 refine⟨st,K,⟨fun s hs=>?_⟩⟩
 obtain⟨r,o,h1,h2,h3,h4⟩:=step_ref h hc hs hF hT
 have hm:mayO l U R s=0:=by unfold mayO;rw[if_pos hc,if_pos hT,if_pos hs]
 have e1:=one_yes h hF (rs_of hs).sz hm h1
 rw[K.one s hs] at e1
 have e2:=Option.some.inj e1
 have a1:(st s).1=(finD s r).1:=congrArg (fun x=>x.1) e2
 have a2:(st s).2=(finD s r).2:=congrArg (fun x=>x.2.1) e2
 rw[h2,a1,a2,h3,h4]
section
variable{l:ab} {R:List aE} {st:aa->aa×Int} {G:aa->Prop}(K:StepOk l R st G)(F:StepRef l R st G)
include K F
theorem ref_l0{k:Nat}(hk:k<=900):∀(d i:Nat) (s:aa) (w:Int) (acc:List aa),G s->k=i+d->acc.length<=i->(d=0->w=0)->
  (cG.l0 l ⟨R⟩ (k:Int) s w (acc++[s]) (i:Int)>>=fun o=>match o with|.inl r=>some r|.inr (x14,x15,x16)=>some (⟨x16,x15⟩:dj))=some ⟨acc++(runL st d s).1,(runL st d s).2⟩
 |0,i,s,w,acc,hs,e,ha,hw=>by
  rw[cG.l0,if_neg (by omega),bsome]
  show some (⟨acc++[s],w⟩:dj)=_
  rw[hw rfl];rfl
 |d+1,i,s,w,acc,hs,e,ha,hw=>by
  have hB:200000<=big:=by decide
  rw[cG.l0,if_pos (by omega),F.ref s hs,bsome]
  show ((if (st s).2=0 then (if ((acc++[s]).length+([(st s).1]:List aa).length)*112<=big then cG.l0 l ⟨R⟩ (k:Int) (st s).1 (st s).2 ((acc++[s])++[(st s).1]) (IntKind.i64.wrap ((i:Int)+1)) else none) else some (Sum.inl (⟨acc++[s],(st s).2⟩:dj)))>>=_)=_
  by_cases q:(st s).2=0
  ·have hq:runL st (d+1) s=(s::(runL st d (st s).1).1,(runL st d (st s).1).2):=by
    show (if (st s).2=0 then _ else _)=_
    rw[if_pos q]
   rw[if_pos q,if_pos (by simp;omega),wS (by omega),ref_l0 hk d (i+1) (st s).1 _ (acc++[s]) (K.next s hs) (by omega) (by simp;omega) (fun _=>q),hq]
   simp
  ·have hq:runL st (d+1) s=([s],(st s).2):=by
    show (if (st s).2=0 then _ else _)=_
    rw[if_neg q]
   rw[if_neg q,bsome,hq]
theorem ref_run{s:aa}(hs:G s){k:Nat}(hk:k<=40):cG.f l ⟨R⟩ s (k:Int)=some ⟨(runL st k s).1,(runL st k s).2⟩:=by
 unfold cG.f
 have h:=ref_l0 K F (k:=k) (by omega) k 0 s 0 [] hs (by omega) (Nat.le_refl _) (fun _=>rfl)
 rw[show ((0:Nat):Int)=0 from rfl] at h
 have hB:200000<=big:=by decide
 rw[if_pos (show (([]:List aa).length+([s]:List aa).length)*112<=big by simp;omega)]
 exact h
end
end Go.Proofs.YtmjcpkmongafnaaGreatDoor.Ss
namespace Go.Proofs.YtmjcpkmongafnaaGreatDoor.Ss
open Go Go.Proofs.YtmjcpkmongafnaaGreatDoor.Ab Go.Proofs.YtmjcpkmongafnaaGreatDoor.TT
def seeB(U:List Nat)(o a:Int):Bool:=le U a.toNat o.toNat
section
variable{l:ab} {U:List Nat}(h:Nm l U)(hc:chk l U=0)
include h hc
theorem mb{a o:Int}(ha:inn U.length a=true)(ho:inn U.length o=true):dq.f l a o=some (seeB U o a,0)/\au.f l a o=some (seeB U o a):=by
 obtain⟨i,rfl,hi⟩:=kG ha
 obtain⟨j,rfl,hj⟩:=kG ho
 exact⟨(yes2 h hc hi hj).1,(yes2r h hc hi hj).1⟩
end
theorem gD{α:Type} {xs:List α} {i:Nat}(h:i<xs.length):xs.drop i=xs[i]::xs.drop (i+1):=List.drop_eq_getElem_cons h
section
variable{xs:List aa} {g:aa->Option Bool} {p:aa->Bool}
theorem idx_l0(hx:xs.length<=1000)(hg:∀x∈xs,g x=some (p x)):∀d i,xs.length=i+d->
  ((xs.drop i).filter (fun x=> !p x)=xs.drop i/\aD.l0 xs g (i:Int)=some (.inr ()))\/
  ∃k,i<=k/\k<xs.length/\aD.l0 xs g (i:Int)=some (.inl (k:Int))/\(xs.drop i).filter (fun x=> !p x)=(xs.drop i).take (k-i)++(xs.drop (k+1)).filter (fun x=> !p x)
 |0,i,e=>by
  refine .inl ⟨?_,?_⟩
  ·rw[List.drop_eq_nil_of_le (by omega)];rfl
  ·rw[aD.l0,if_neg (by omega)]
 |d+1,i,e=>by
  have hi:i<xs.length:=by omega
  have e1:aD.l0 xs g (i:Int)=if p xs[i]=true then some (.inl (i:Int)) else aD.l0 xs g ((i+1:Nat):Int):=by
   rw[aD.l0,if_pos (by omega),bx hi,bsome,hg _ (List.getElem_mem hi),bsome,wS (by omega)]
  rw[e1,gD hi]
  cases q:p xs[i] with
  |true=>
   refine .inr ⟨i,Nat.le_refl _,hi,?_,?_⟩
   ·rw[if_pos rfl]
   ·rw[Nat.sub_self,List.filter_cons_of_neg (by simp[q])];rfl
  |false=>
   rw[if_neg (by decide)]
   rcases idx_l0 hx hg d (i+1) (by omega) with ⟨h1,h2⟩|⟨k,k1,k2,k3,k4⟩
   ·refine .inl ⟨?_,h2⟩
    rw[List.filter_cons_of_pos (by simp[q]),h1]
   ·refine .inr ⟨k,by omega,k2,k3,?_⟩
    rw[List.filter_cons_of_pos (by simp[q]),k4,show k-i=(k-(i+1))+1 by omega];rfl
theorem del_l0:∀(d i w:Nat) (v:List aa),v.length=i+d->w<i->v.length<=1000->(∀x∈v.drop i,g x=some (p x))->
  ∃v' w':_,av.l0 g v (w:Int) (i:Int)=some (v',((w':Nat):Int))/\v'.length=v.length/\w'<=v.length/\v'.take w'=v.take w++(v.drop i).filter (fun x=> !p x)
 |0,i,w,v,e,hw,hn,hg=>by
  refine⟨v,w,?_,rfl,by omega,?_⟩
  ·rw[av.l0,if_neg (by omega)]
  ·rw[List.drop_eq_nil_of_le (by omega)];simp
 |d+1,i,w,v,e,hw,hn,hg=>by
  have hi:i<v.length:=by omega
  have hx:v[i]∈v.drop i:=by rw[gD hi];exact List.mem_cons_self
  have ht:∀x∈v.drop (i+1),g x=some (p x):=fun x h=>hg x (by rw[gD hi];exact List.mem_cons_of_mem _ h)
  cases q:p v[i] with
  |true=>
   obtain⟨v',w',a1,a2,a3,a4⟩:=del_l0 d (i+1) w v (by omega) (by omega) hn ht
   refine⟨v',w',?_,a2,a3,?_⟩
   ·rw[av.l0,if_pos (by omega),bx hi,bsome,hg _ hx,bsome,q,if_neg (by decide),bsome]
    show av.l0 g v (w:Int) (IntKind.i64.wrap ((i:Int)+1))=_
    rw[wS (by omega),a1]
   ·rw[a4,gD hi,List.filter_cons_of_neg (by simp[q])]
  |false=>
   have hd:(v.set w v[i]).drop (i+1)=v.drop (i+1):=by rw[List.drop_set_of_lt (by omega)]
   obtain⟨v',w',a1,a2,a3,a4⟩:=del_l0 d (i+1) (w+1) (v.set w v[i]) (by rw[List.length_set];omega) (by omega) (by rw[List.length_set];omega) (by rw[hd];exact ht)
   rw[List.length_set] at a2 a3
   refine⟨v',w',?_,a2,a3,?_⟩
   ·rw[av.l0,if_pos (by omega),bx hi,bsome,hg _ hx,bsome,q,if_pos (by decide),bx (show w<v.length by omega),bsome,bsome]
    show av.l0 g (v.set (w:Int).toNat v[i]) (IntKind.i64.wrap ((w:Int)+1)) (IntKind.i64.wrap ((i:Int)+1))=_
    rw[wS (by omega),wS (by omega),Int.toNat_natCast,a1]
   ·rw[a4,hd,gD hi,List.filter_cons_of_pos (by simp[q]),List.take_succ_eq_append_getElem (by rw[List.length_set];omega),List.getElem_set_self,List.take_set_of_le (Nat.le_refl _)];simp
theorem del_eq(hx:xs.length<=1000)(hg:∀x∈xs,g x=some (p x)):av.f xs g=some (xs.filter (fun x=> !p x)):=by
 have i0:=idx_l0 hx hg xs.length 0 (by omega)
 rw[List.drop_zero,show ((0:Nat):Int)=0 from rfl] at i0
 unfold av.f aD.f
 rcases i0 with ⟨h1,h2⟩|⟨k,k1,k2,k3,k4⟩
 ·rw[h2,bsome]
  show ((some (-1):Option Int)>>=_)=_
  rw[bsome,if_pos rfl,h1]
 ·rw[k3,bsome]
  show ((some (k:Int):Option Int)>>=_)=_
  rw[bsome,if_neg (by omega),wS (by omega)]
  obtain⟨v',w',a1,a2,a3,a4⟩:=del_l0 (g:=g) (p:=p) (xs.length-(k+1)) (k+1) k xs (by omega) (by omega) hx (fun x h=>hg x (List.mem_of_mem_drop h))
  rw[a1,bsome]
  show (if (0:Int)<=(w':Int)/\(w':Int)<=(v'.length:Int) then _ else none)=_
  rw[if_pos (by omega),Int.toNat_natCast]
  have hl:(v'.take w'++List.replicate (v'.length-w') (⟨(⟨0,0⟩:am),[],[],[],[]⟩:aa)).length=v'.length:=by simp;omega
  rw[if_pos (by rw[hl];omega),List.take_append_of_le_length (by simp;omega),List.take_of_length_le (by simp;omega),a4,k4,Nat.sub_zero]
end
end Go.Proofs.YtmjcpkmongafnaaGreatDoor.Ss
namespace Go.Proofs.YtmjcpkmongafnaaGreatDoor.Ss
open Go Go.Proofs.YtmjcpkmongafnaaGreatDoor.Ab Go.Proofs.YtmjcpkmongafnaaGreatDoor.TT
theorem alive20:reticentlaw20_alive.f=some true:=(it (k:=60)).h _ (by kernel_rfl)
theorem pc_inn{l:ab} {U:List Nat}(h:Nm l U){s:aa}(hs:rightS (l.Up.length:Int) s=true):inn U.length s.Pc.L=true:=by
 rw[<-h.n]
 exact iL (labs_of hs).pc
section
variable{l:ab} {U:List Nat}(h:Nm l U)(hc:chk l U=0){o:Int}(ho:inn U.length o=true)
include h hc ho
theorem mI{t:aZ} {f:Int} {a b s:aa}(hs:rightS (l.Up.length:Int) s=true):bE.f ⟨l,t,o,f,a,b⟩ s=some (seeB U o s.Pc.L):=by
 unfold bE.f
 rw[(mb h hc (pc_inn h hs) ho).1,bsome]
theorem ref_sees{t:aZ} {f:Int} {s:aa}(hs:rightS (l.Up.length:Int) s=true):eI.f ⟨l,t,o,f⟩ s=some (seeB U o s.Pc.L):=by
 unfold eI.f fh.f
 rw[(mb h hc (pc_inn h hs) ho).2,bsome,bsome]
def seenL(U:List Nat)(o:Int)(xs:List aa):List aa:=xs.filter fun x=>seeB U o x.Pc.L
theorem mJ{R:List aE} {st:aa->aa×Int}(K:StepOk l R st (fun s=>rightS (l.Up.length:Int) s=true)){a b s:aa}(hs:rightS (l.Up.length:Int) s=true){k:Nat}(hk:k<=40):
  dm.f ⟨l,⟨R⟩,o,(k:Int),a,b⟩ s=some (seenL U o (runL st k s).1):=by
 have L:=runL_len (st:=st) k s
 unfold dm.f
 rw[run_eq K hs hk,bsome]
 have hg:∀x∈(runL st k s).1,(fun z0=>dr.f z0 (⟨l,⟨R⟩,o,(k:Int),a,b⟩:ce)) x=some (!seeB U o x.Pc.L):=fun x hx=>by
  show dr.f x _=_
  unfold dr.f
  rw[mI h hc ho (runL_all K.next k s hs x hx),bsome]
 rw[del_eq (by omega) hg,bsome]
 simp only[Bool.not_not,seenL]
theorem iI{t:aZ} {f:Int} {xs:List aa} {q:Int}(hx:xs.length<=1000)(hG:∀x∈xs,rightS (l.Up.length:Int) x=true):∀(d i:Nat) (acc:List aa),xs.length=i+d->acc.length<=i->
  cj.l0 ⟨l,t,o,f⟩ ⟨xs,q⟩ acc (i:Int)=some (acc++seenL U o (xs.drop i))
 |0,i,acc,e,ha=>by
  rw[cj.l0,if_neg (by show ¬(i:Int)<(xs.length:Int);omega),List.drop_eq_nil_of_le (by omega)];simp[seenL]
 |d+1,i,acc,e,ha=>by
  have hi:i<xs.length:=by omega
  have hB:200000<=big:=by decide
  rw[cj.l0,if_pos (by show (i:Int)<(xs.length:Int);omega)]
  show (((lAt xs (i:Int)>>=_)>>=_):Option _)=_
  rw[bx hi,bsome,ref_sees h hc ho (hG _ (List.getElem_mem hi)),bsome,gD hi]
  cases q':seeB U o xs[i].Pc.L with
  |true=>
   rw[if_pos rfl,if_pos (by simp;omega),bsome,wS (by omega),iI hx hG d (i+1) _ (by omega) (by simp;omega)]
   unfold seenL
   rw[List.filter_cons_of_pos (p:=fun x:aa=>seeB U o x.Pc.L) q'];simp
  |false=>
   rw[if_neg ff,bsome,wS (by omega),iI hx hG d (i+1) _ (by omega) (by omega)]
   unfold seenL
   rw[List.filter_cons_of_neg (p:=fun x:aa=>seeB U o x.Pc.L) (by rw[q'];decide)]
theorem ref_seen{R:List aE} {st:aa->aa×Int}(K:StepOk l R st (fun s=>rightS (l.Up.length:Int) s=true))(F:StepRef l R st (fun s=>rightS (l.Up.length:Int) s=true)){s:aa}(hs:rightS (l.Up.length:Int) s=true){k:Nat}(hk:k<=40):
  cj.f ⟨l,⟨R⟩,o,(k:Int)⟩ s=some (seenL U o (runL st k s).1):=by
 have L:=runL_len (st:=st) k s
 unfold cj.f
 rw[ref_run K F hs hk,bsome]
 have e:=iI h hc ho (t:=⟨R⟩) (f:=(k:Int)) (q:=(runL st k s).2) (show (runL st k s).1.length<=1000 by omega) (fun x hx=>runL_all K.next k s hs x hx) _ 0 [] (Nat.zero_add _).symm (Nat.le_refl _)
 rw[show ((0:Nat):Int)=0 from rfl] at e
 rw[e,bsome];rfl
end
theorem far_b(f:Int):((if f<0 then (some true) else (some (decide (f>40))):Option Bool))=some (decide (f<0\/f>40)):=by
 by_cases q:f<0
 ·rw[if_pos q,decide_eq_true (.inl q)]
 ·rw[if_neg q]
  congr 1
  simp[q]
theorem obs_b{n:Nat}(o:Int):((if o<0 then (some true) else (some (decide (o>=(n:Int)))):Option Bool))=some (!inn n o):=by
 unfold inn
 by_cases q:o<0
 ·rw[if_pos q,decide_eq_false (show ¬0<=o by omega)];rfl
 ·rw[if_neg q,decide_eq_true (show 0<=o by omega)]
  congr 1
  by_cases r:o<(n:Int)
  ·rw[decide_eq_true r,decide_eq_false (by omega)];rfl
  ·rw[decide_eq_false r,decide_eq_true (by omega)];rfl
noncomputable def fuelO(l:ab)(U:List Nat)(R:List aE)(s:aa)(f:Int):Int:=if mayO l U R s=0 then (if f<0\/f>40 then 1 else 0) else mayO l U R s
theorem fuel_r{l:ab} {U:List Nat}(h:Nm l U){R:List aE}(hF:Few R){s:aa}(z:Sz s)(f:Int):eJ.f l ⟨R⟩ s f=some (fuelO l U R s f):=by
 unfold eJ.f fuelO
 rw[may_r h hF z,bsome]
 by_cases q:mayO l U R s=0
 ·rw[if_pos q,if_pos q,far_b,bsome]
  by_cases r:f<0\/f>40
  ·rw[decide_eq_true r,if_pos rfl,if_pos r]
  ·rw[decide_eq_false r,if_neg ff,if_neg r,q]
 ·rw[if_neg q,if_neg q,bsome,if_neg ff]
theorem lu{a b:List aa->Int} {xs:List aa} {e:Int}(h:∀x∈xs,Sz x)(hl:xs.length<=1000):∀(d i:Nat),xs.length=i+d->bu.l0 (xs,e) xs (i:Int)=some (.inr ())/\bu.l1 (xs,e) xs (i:Int)=some (.inr ())
 |0,i,he=>by
  rw[bu.l0,bu.l1,if_neg (by show ¬(i:Int)<(xs.length:Int);omega),if_neg (by show ¬(i:Int)<(xs.length:Int);omega)]
  exact⟨rfl,rfl⟩
 |d+1,i,he=>by
  have hi:i<xs.length:=by omega
  rw[bu.l0,bu.l1,if_pos (by show (i:Int)<(xs.length:Int);omega),if_pos (by show (i:Int)<(xs.length:Int);omega)]
  rw[show lAt (xs,e).1 (i:Int)=some xs[i] from bx hi,bsome,bsome,kl (h _ (List.getElem_mem _)),bsome,if_neg (by decide),bsome,bsome,kl (h _ (List.getElem_mem _)),bsome,if_neg (by decide),wS (by omega)]
  exact lu (a:=a) (b:=b) h hl d (i+1) (by omega)
theorem seens{l:ab} {t:aZ} {o f:Int} {s:aa}(hl:∃H cs,(kR aj).reps H cs l):bu.f l t o s f=some true:=by
 obtain⟨l',U,e,h⟩:=few_eq hl
 obtain⟨S,es,z⟩:=cut_eq s
 obtain⟨R0⟩:=t
 have hF:=tfew_ok (R:=R0)
 unfold bu.f
 rw[e,bsome,tfew_eq,bsome,es,bsome]
 generalize fewR R0=R at hF
 have key:fm.f l' ⟨R⟩ o S f=(if fuelO l' U R S f=0 then (if inn l'.Up.length o=true then fm.f l' ⟨R⟩ o S f else some ([],9)) else some ([],fuelO l' U R S f)):=by
  by_cases hm:mayO l' U R S=0
  ·obtain⟨hc,hT,hr⟩:=jw hm
   obtain⟨st,K,F⟩:=steps h hF hc hT
   have hr':rightS (l'.Up.length:Int) S=true:=hr
   unfold fuelO
   rw[if_pos hm]
   by_cases hf:f<0\/f>40
   ·rw[if_pos hf,if_neg (by decide)]
    unfold fm.f
    rw[(run_far K hr' hf).2,bsome];rfl
   ·rw[if_neg hf,if_pos rfl]
    cases ho:inn l'.Up.length o with
    |true=>rw[if_pos rfl]
    |false=>
     rw[if_neg ff]
     have en:f=((f.toNat:Nat):Int):=by omega
     unfold fm.f
     rw[en,last_eq K hr' (show f.toNat<=40 by omega),bsome,if_pos rfl,obs_b,ho,bsome];rfl
  ·have e2:fuelO l' U R S f=mayO l' U R S:=if_neg hm
   rw[e2,if_neg hm]
   unfold fm.f
   rw[last_no h hF z hm,bsome]
   show (if mayO l' U R S=0 then _ else some (([]:List aa),mayO l' U R S))=_
   rw[if_neg hm]
 rw[key,fuel_r h hF z]
 by_cases hq:fuelO l' U R S f=0
 ·rw[if_pos hq]
  cases ho:inn l'.Up.length o with
  |true=>
   rw[if_pos rfl]
   have hm:mayO l' U R S=0:=by
    unfold fuelO at hq
    by_cases q:mayO l' U R S=0
    ·exact q
    ·rw[if_neg q] at hq;exact absurd hq q
   have hf:¬(f<0\/f>40):=by
    unfold fuelO at hq
    rw[if_pos hm] at hq
    intro q
    rw[if_pos q] at hq
    exact absurd hq (by decide)
   obtain⟨hc,hT,hr⟩:=jw hm
   obtain⟨st,K,F⟩:=steps h hF hc hT
   have hr':rightS (l'.Up.length:Int) S=true:=hr
   have en:f=((f.toNat:Nat):Int):=by omega
   have hk:f.toNat<=40:=by omega
   have ho':inn U.length o=true:=by rw[<-h.n];exact ho
   generalize f.toNat=k at en hk
   subst en
   have L:=runL_len (st:=st) k S
   have L2:(seenL U o (runL st k S).1).length<=(runL st k S).1.length:=List.length_filter_le _ _
   have A:∀x∈seenL U o (runL st k S).1,Sz x:=fun x hx=>K.sz x (runL_all K.next k S hr' x (List.mem_filter.1 hx).1)
   have e1:fm.f l' ⟨R⟩ o S (k:Int)=some (seenL U o (runL st k S).1,0):=by
    unfold fm.f
    rw[last_eq K hr' hk,bsome,if_pos rfl,obs_b,ho,bsome,if_neg (by decide),mJ h hc ho' K hr' hk,bsome]
   rw[e1,bsome,bsome,if_pos hq,obs_b,ho,bsome,if_neg (by decide),if_pos hq,ref_seen h hc ho' K F hr' hk,bsome]
   have s0:=lu (a:=fun _=>0) (b:=fun _=>0) (e:=0) A (by omega) _ 0 (Nat.zero_add _).symm
   rw[show ((0:Nat):Int)=0 from rfl] at s0
   show ((if (0:Int)=0 then (if ((seenL U o (runL st k S).1).length:Int)=((seenL U o (runL st k S).1).length:Int) then (reticentlaw20_alive.f>>=_) else _) else _)>>=_)=_
   rw[if_pos rfl,if_pos rfl,alive20,bsome,bsome,if_neg (by decide),s0.2];rfl
  |false=>
   rw[if_neg ff,bsome,bsome,if_pos hq,obs_b,ho,bsome,if_pos (show (!false)=true from rfl),if_neg (show ¬(9:Nat)=0 by decide),alive20,bsome,if_pos rfl];rfl
 ·rw[if_neg hq,bsome,bsome,if_neg hq,bsome,if_neg ff,if_neg hq,alive20,bsome,if_pos rfl]
  show ((if fuelO l' U R S f=fuelO l' U R S f then (some (decide ((([]:List aa).length:Int)=0))) else _)>>=_)=_
  rw[if_pos rfl];rfl
end Go.Proofs.YtmjcpkmongafnaaGreatDoor.Ss
