import Derived.Test.YtmegdednaimgcaaDoorAb14
set_option linter.unusedVariables false
set_option linter.unusedSimpArgs false
namespace Go.Proofs.YtmegdednaimgcaaDoor.Ab
open Go Go.RowKit

def sClo (f : FuncId) (caps : List Sig) : Sig := ⟨fun H v => ∃ cs : List Value, v = .func (.func f) #[] cs.toArray ∧ Sats caps H cs, fun h ⟨cs, e, k⟩ => ⟨cs, e, sats_mono h k⟩⟩
section
variable {P : Program} {x y : Operand} {i j : Env} {dst : Option Nat} {ty : TypeId} {pos : String} {af : Array Edge} {gd : Option (Nat × Bool)} {R : List Res}
theorem oMkC {f : FuncId} {xs : List Operand} {cs : Array Operand} {caps : List Sig} (hx : cs.toList = xs) (h : Opds xs caps i) : OkP P ⟨dst, .makeFunc (.func f) #[] cs, ty, pos, af, gd⟩ i (.d (sClo f caps)) := okV fun g w a hA hi => by
  refine ⟨.func (.func f) #[] (cs.map a.eval), by simp [execOp, Instr.makeFunc], xs.map a.eval, ?_, opds_sats h hi⟩
  subst hx
  congr 1
  apply Array.ext'
  simp
end

def Free (H : FH) (w : World) (bs : List Nat) : Prop := ∀ b ∈ bs, H b = none ∧ b < w.heap.size
def Turn {σ : Type} (A : Abs σ) (s' : σ) (H : FH) (w : World) (bs : List Nat) (H' : FH) (w' : World) : Prop :=
  ∃ bs', Keep (fun b => b ∈ bs) H w H' w' ∧ A.p s' H' w' bs' ∧ ∀ b ∈ bs', H' b = none ∧ b < w'.heap.size ∧ (b ∈ bs ∨ w.heap.size ≤ b)
def YieldP {σ α β : Type} (P : Program) (A : Abs σ) (y : σ → α → β → Option (Bool × σ)) (sa : α → Sig) (sb : β → Sig) (l : Nat) (H : FH) : Prop :=
  ∀ s a b r s', y s a b = some (r, s') → ∀ H1 w bs va vb, FH.le H H1 → Agree H1 w → A.p s H1 w bs → Free H1 w bs → (sa a).p H1 va → (sb b).p H1 vb →
    ∃ fn tmps assign body, (Instr.yield l #[va, vb]).run P w = .ok (.round l fn tmps assign body) w ∧
      RoundIn (FR none) 0 P l fn tmps assign body w (fun e w' => ∃ H', e = .returned (.bool r) ∧ Turn A s' H1 w bs H' w')
def sYield {σ α β : Type} (P : Program) (A : Abs σ) (y : σ → α → β → Option (Bool × σ)) (sa : α → Sig) (sb : β → Sig) : Sig :=
  ⟨fun H v => ∃ l, v = .func (.yield l) #[] #[] ∧ YieldP P A y sa sb l H, fun h ⟨l, e, k⟩ => ⟨l, e, fun s a b r s' hy H1 w bs va vb hl => k s a b r s' hy H1 w bs va vb (h.trans hl)⟩⟩
def FnY {α β : Type} (P : Program) (f : FuncId) (sa : α → Sig) (sb : β → Sig) (caps : List Sig) (F : {σ : Type} → (σ → α → β → Option (Bool × σ)) → σ → Option σ) : Prop :=
  ∀ (σ : Type) (A : Abs σ) (y : σ → α → β → Option (Bool × σ)) (s s' : σ), F y s = some s' → ∀ (H : FH) (w : World) (bs : List Nat) (args : List Value),
    Agree H w → Sats (sYield P A y sa sb :: caps) H args → A.p s H w bs → Free H w bs →
    Calls P f args.toArray w (fun e w' => ∃ v H', e = .returned v ∧ Turn A s' H w bs H' w')
def RetY {σ : Type} (A : Abs σ) (s' : σ) (H : FH) (w : World) (bs : List Nat) : Ending → World → Prop := fun e w' => ∃ v H', e = .returned v ∧ Turn A s' H w bs H' w'

theorem oYield {σ α β : Type} {P : Program} {A : Abs σ} {yf : σ → α → β → Option (Bool × σ)} {sa : α → Sig} {sb : β → Sig} {s s' : σ} {a0 : α} {b0 : β} {r : Bool} {x y z : Operand} {ix iy iz : Env} {n id id' : Nat} {dst : Option Nat} {ts : Array TypeId} {ty : TypeId} {pos : String} {af : Array Edge} {gd : Option (Nat × Bool)} {R : List Res} {rd : Option Nat}
    (hr : R[n]? = some (.abs id A s)) (hy : yf s a0 b0 = some (r, s')) (h : Opd x (.d (sYield P A yf sa sb)) ix) (h1 : Opd y (.d (sa a0)) iy) (h2 : Opd z (.d (sb b0)) iz) :
    OkL rd P ⟨dst, .call ⟨.value x, #[y, z], ts⟩, ty, pos, af, gd⟩ (ix ++ (iy ++ iz)) R (.d (kB.sig r)) [id'] (R.set n (.abs id' A s')) := by
  intro X H0 w0 g w a K Q hk hi ho hn hK
  obtain ⟨l, e, hY⟩ := h g a (satI_l hi)
  have e1 := h1 g a (satI_l (satI_r hi))
  have e2 := h2 g a (satI_r (satI_r hi))
  obtain ⟨bs, hbs, hp⟩ := ho.get hr
  have hat := ho.at_ _ (List.mem_of_getElem? hr)
  have hblk : ∀ b ∈ bs, (Res.abs id A s).block g b := fun b hb => ⟨bs, hbs, hb⟩
  obtain ⟨fn, tmps, assign, body, hrun, hround⟩ := hY s a0 b0 r s' hy g.H w bs _ _ (FH.le.refl _) hk.agree hp (fun b hb => ⟨(hat b (hblk b hb)).1, (hat b (hblk b hb)).2.1⟩) e1 e2
  refine ⟨fun _ _ => trivial, ?_⟩
  rw [Oper.semAt_eq _ _ _ (fun c hc => by cases hc)]
  rw [show (execOp a.eval ⟨dst, .call ⟨.value x, #[y, z], ts⟩, ty, pos, af, gd⟩).run P w = .ok (.round l fn tmps assign body) w by
    simp only [execOp, resolve, e, Deferred.ofValue, Sem.run_bind, Sem.run_pure, Result.andThen_ok, invoke, List.map_toArray, List.map_cons, List.map_nil]
    simpa using hrun]
  refine ⟨fun he => by simp [FR, Fence.wide] at he, RoundIn.mono (F := FR rd) hround ?_⟩
  rintro e' w' ⟨H', rfl, bs', k, hp', hf'⟩
  have hid := hn id' (List.mem_singleton.2 rfl)
  have hle : G.le g ⟨H', (g.name id' (encB bs')).nm⟩ := ⟨k.le hk.agree, (name_le hid).2⟩
  refine hK (.bool r) ⟨H', (g.name id' (encB bs')).nm⟩ w' (hk.step k (fun b hb => (hat b (hblk b hb)).2.2)) hle (fun j e hj => ?_) (kB_sig.2 rfl) ?_
  · show (g.name id' (encB bs')).nm j = none
    rw [name_ne (fun hji => hj (by rw [hji]; exact List.mem_singleton.2 rfl))]; exact e
  · refine ho.put hr hle k.size (fun b hb hH hne => k.block b hb (fun hm => hne (hblk b hm))) (fun b hb hH hne => (k.old b hb (fun hm => absurd (hblk b hm) hne)).trans hH) ⟨bs', name_get .., hp'⟩ ?_
    · rintro b ⟨bs2, e2, hb2⟩
      have : bs2 = bs' := by
        have h' := name_get g id' (encB bs')
        have e2' : (g.name id' (encB bs')).nm id' = some (encB bs2) := e2
        rw [h'] at e2'
        exact (encB_inj (Option.some.inj e2')).symm
      subst this
      obtain ⟨q1, q2, q3⟩ := hf' b hb2
      refine ⟨q1, q2, ?_, ?_⟩
      · rcases q3 with q3 | q3
        · exact (hat b (hblk b q3)).2.2
        · exact .inr (Nat.le_trans hk.size q3)
      · rcases q3 with q3 | q3
        · exact .inl (hblk b q3)
        · exact .inr q3

theorem fnIntroY {α β : Type} {P : Program} {f : FuncId} {fn : Func} {c : Code} {sa : α → Sig} {sb : β → Sig} {caps : List Sig} {F : {σ : Type} → (σ → α → β → Option (Bool × σ)) → σ → Option σ} (id : Nat)
    (hf : P.funcs[f]? = some fn) (hb : fn.body = some c) (hN' : Nat.ble (caps.length + 1) fn.ntmps = true)
    (h : ∀ (σ : Type) (A : Abs σ) (y : σ → α → β → Option (Bool × σ)) (s s' : σ), F y s = some s' → ∀ bs H0 w0,
      WP ⟨P, fn.ntmps, fun b => b ∈ bs, H0, w0, none, [], fun _ => none, []⟩ c (BP ⟨P, fn.ntmps, fun b => b ∈ bs, H0, w0, none, [], fun _ => none, []⟩ fn (RetY A s' H0 w0 bs)) (paramsAt 0 (sYield P A y sa sb :: caps)) [.abs id A s]) : FnY P f sa sb caps F := by
  have hN := Nat.le_of_ble_eq_true hN'
  intro σ A y s s' hF H w bs args hA hs hp hfr
  have hblk : ∀ b, (Res.abs id A s).block ⟨H, fun j => if j = id then some (encB bs) else none⟩ b → b ∈ bs := by
    rintro b ⟨bs2, e2, hm⟩
    have e2' : some (encB bs) = some (encB bs2) := by simpa using e2
    rw [encB_inj (Option.some.inj e2')]; exact hm
  refine fnEnter (g := ⟨H, fun j => if j = id then some (encB bs) else none⟩) hf hb rfl rfl (h σ A y s s' hF bs H w) ⟨?_, ⟨[], rfl, List.nodup_nil, fun r hr => by cases hr⟩, Keep.refl hA, ?_, ⟨fun r hr => ?_, fun r hr b e => ?_, by simp⟩, fun i hi => by cases hi⟩
  · have := sats_len hs
    simp at this hN ⊢
    omega
  · intro t e hts
    have := sats_at hs 0 [] (List.replicate (fn.ntmps - args.length) undef) rfl t e hts
    have h2 : e.ok ⟨H, fun j => if j = id then some (encB bs) else none⟩ (([] ++ args ++ List.replicate (fn.ntmps - args.length) undef).getD t undef) := Ent.mono (g := ⟨H, fun _ => none⟩) ⟨FH.le.refl _, fun _ _ e => by cases e⟩ this
    simpa [Array.getD_eq_getD_getElem?, List.getD_eq_getElem?_getD, ← Array.getElem?_toList] using h2
  · obtain rfl := List.mem_singleton.1 hr
    exact ⟨bs, by simp, hp⟩
  · obtain rfl := List.mem_singleton.1 hr
    obtain ⟨q1, q2⟩ := hfr b (hblk b e)
    exact ⟨q1, q2, .inl (hblk b e)⟩
theorem pRY {σ : Type} {A : Abs σ} {s' : σ} {C : Cx} {bs : List Nat} {fn : Func} {e : Exit} {Γ : Env} {R : List Res} {n id : Nat} (he : e = .ret ∨ e = .normal) (hX : C.X = fun b => b ∈ bs) (hr : fn.results.toList = []) (hR : R[n]? = some (.abs id A s')) (hrd : C.rd = none := by rfl) (hds : C.ds = [] := by rfl) : Post C (BP C fn (RetY A s' C.H0 C.w0 bs)) e Γ R := by
  refine pLeave he (fun g w tm s => ?_) hrd hds
  have hr' : fn.results = #[] := by apply Array.ext'; simpa using hr
  obtain ⟨bs', hbs, hp⟩ := s.own.get hR
  refine ⟨.tuple #[], by simp [results, hr'], _, g.H, rfl, bs', hX ▸ s.keep, hp, fun b hb => ?_⟩
  obtain ⟨q1, q2, q3⟩ := s.own.at_ _ (List.mem_of_getElem? hR) b ⟨bs', hbs, hb⟩
  rw [hX] at q3
  exact ⟨q1, q2, q3⟩
end Go.Proofs.YtmegdednaimgcaaDoor.Ab
