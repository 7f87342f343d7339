import Derived.Test.YtkcpghpglhamfaaGreatDoorAb12
set_option linter.unusedVariables false
set_option linter.unusedSimpArgs false
namespace Go.Proofs.YtkcpghpglhamfaaGreatDoor.Ab
open Go Go.RowKit
def Flat (s : Sig) : Prop := ∀ (H H' : FH) (v : Value), s.p H v → s.p H' v
def FlatK {α : Type} (d : Kd α) : Prop := ∀ (H H' : FH) (cs : List Value) (x : α), d.reps H cs x → d.reps H' cs x
theorem fS : FlatK kS := fun _ _ _ _ h => h
theorem fK {α : Type} {d : Kd α} (h : FlatK d) {x : α} : Flat (d.sig x) := fun H H' v ⟨cs, hr, e⟩ => ⟨cs, h H H' cs x hr, e⟩
section
variable {P : Program} {x y z : Operand} {i j k3 : Env} {dst : Option Nat} {T T' ty : TypeId} {pos : String} {af : Array Edge} {gd : Option (Nat × Bool)} {R : List Res}
def OpdR (R : List Res) (x : Operand) (s : Sig) (i : Env) : Prop := ∀ (X : Nat → Prop) (B : Nat) (g : G) (w : World) (a : Act), Agree g.H w → SatI i g a → Own X B g w R → s.p (fun b => w.heap[b]?) (a.eval x)
theorem rD {s : Sig} (h : Opd x (.d s) i) : OpdR R x s i := fun X B g w a hA hi _ => s.mono (fun b o e => hA b o e) (h g a hi)
theorem rR {α : Type} {d : Kd α} {xs : List α} {n id t : Nat} {E : TypeId} (hr : R[n]? = some (.row id E d xs)) : OpdR R (.tmp t) ((kL d).sig xs) [(t, .v id)] := fun X B g w a hA hi ho => by
  obtain ⟨v, cells, hv, hrow, hro, hbig⟩ := ho.get hr
  have ex : g.nm id = some (a.tmps.getD t undef) := hi (t, .v id) (List.mem_cons_self ..)
  rw [hv] at ex
  cases ex
  show ((kL d).sig xs).p _ (a.tmps.getD t undef)
  generalize a.tmps.getD t undef = v at *
  rcases hrow.2 with ⟨rfl, hn⟩ | ⟨b, cap, cur, rfl, _, hb, hnc, hcm, hcs, htk⟩
  · obtain rfl := List.eq_nil_of_length_eq_zero hn
    exact kL_sig.2 ⟨none, 0, rfl, Nat.le_refl _, by omega, hbig, .inl rfl⟩
  · refine kL_sig.2 ⟨some ⟨b, 0, none⟩, cap, rfl, hnc, by unfold maxLen at hcm; omega, hbig, .inr ⟨b, 0, cur, E, (0, 0), rfl, hb, ?_⟩⟩
    rw [List.drop_zero, htk]
    exact hro.mono (fun b o e => hA b o e)
def OpdsR (R : List Res) : List Operand → List Sig → Env → Prop
  | [], [], i => i = []
  | x :: xs, s :: ss, i => ∃ a b, i = a ++ b ∧ OpdR R x s a ∧ OpdsR R xs ss b
  | _, _, _ => False
theorem rn0 : OpdsR R [] [] [] := rfl
theorem rc1 {xs : List Operand} {s : Sig} {ss : List Sig} {a b : Env} (h : OpdR R x s a) (k : OpdsR R xs ss b) : OpdsR R (x :: xs) (s :: ss) (a ++ b) := ⟨a, b, rfl, h, k⟩
theorem opdsR_sats {X : Nat → Prop} {B : Nat} {w : World} {g : G} {a : Act} (hA : Agree g.H w) (ho : Own X B g w R) : ∀ {xs : List Operand} {ss : List Sig} {i : Env}, OpdsR R xs ss i → SatI i g a → Sats ss (fun b => w.heap[b]?) (xs.map a.eval)
  | [], [], _, _, _ => rfl
  | x :: xs, s :: ss, i, ⟨p, q, e, h, k⟩, hi => by
    subst e
    exact ⟨a.eval x, xs.map a.eval, rfl, h X B g w a hA (satI_l hi) ho, opdsR_sats hA ho k (satI_r hi)⟩
theorem oCallB {f : FuncId} {xs : List Operand} {as_ : Array Operand} {ts : Array TypeId} {ins : List Sig} {out : Sig} (hx : as_.toList = xs) (hf : FnA P f ins out) (hfl : Flat out) (hb : bodied P f) (h : OpdsR R xs ins i) : Ok P ⟨dst, .call ⟨.value (.func f), as_, ts⟩, ty, pos, af, gd⟩ i R (.d out) none R := by
  intro X H0 w0 g w a K Q hk hi ho hn hK
  obtain ⟨fn, hfn, hb'⟩ := Option.map_eq_some_iff.1 hb
  simp only [Bool.and_eq_true, Bool.not_eq_true', beq_eq_false_iff_ne, ne_eq] at hb'
  unfold Oper.wp
  have hr : (execOp a.eval ⟨dst, .call ⟨.value (.func f), as_, ts⟩, ty, pos, af, gd⟩).run P w = .ok (.enter f (xs.map a.eval).toArray) w := by
    have hm : as_.map a.eval = (xs.map a.eval).toArray := by
      subst hx
      apply Array.ext'
      simp
    have hbn : fn.body.isNone = false := by simpa using hb'.1
    have hc : (callFunc f (xs.map a.eval).toArray).run P w = .ok (.enter f (xs.map a.eval).toArray) w := by
      simp only [callFunc, program, Sem.run_bind, Sem.run, Sem.run_pure', Result.andThen_ok, hfn]
      rw [if_neg (by simpa using hb'.2), if_neg (by simp [hbn])]
      rfl
    simp only [execOp, resolve, Act.eval, Deferred.ofValue, Sem.run_bind, Sem.run_pure, Result.andThen_ok, invoke]
    rw [show (#[] ++ Array.map (Act.eval a) as_) ++ #[] = (xs.map a.eval).toArray by simp [hm]]
    exact hc
  rw [hr]
  refine (hf (fun b => w.heap[b]?) w _ ⟨hk.agree.base.mono (fun b o e => hk.agree b o e), fun b o e => e⟩ (opdsR_sats hk.agree ho h hi)).mono ?_
  rintro e w' ⟨v, H', rfl, hk', hv⟩
  have hk2 : Keep No g.H w g.H w' := ⟨hk'.os, hk'.tape, hk'.output, hk'.size, hk'.block, fun _ _ _ => rfl, ⟨hk.agree.base, fun b o e => (hk'.block b (hk.agree.lt e) (fun x => x)).trans (hk.agree b o e)⟩⟩
  exact hK v g w' (hk.step hk2 (fun i hi => hi.elim)) (G.le.refl g) (fun i e _ => e) (hfl _ _ _ hv) (ho.keep (G.le.refl g) hk2)

def kN (α : Type) : Kd (List α) := ⟨1, false, fun _ cs x => cs = [.slice none 0 0] ∧ x = [], fun _ h => h, fun h => by rw [h.1]; rfl, fun h c hc => by rw [h.1] at hc; simp at hc; subst hc; rfl, fun _ => rfl⟩
theorem zN {α : Type} (H : FH) : (kN α).reps H [.slice none 0 0] [] := ⟨rfl, rfl⟩
end
section
variable {C : Cx} {Q : Exit → Act → World → Prop} {Γ Γ' : Env} {R R' : List Res}
theorem leafs_swap : ∀ {ls : List Leaf} {g : G} {cs : List Value} {k : Nat} {l l' : Leaf}, ls[k]? = some l → (∀ cs, l.ok g cs → l'.ok g cs) → leafs ls g cs → leafs (ls.set k l') g cs
  | [], _, _, _, _, _, h, _, _ => by simp at h
  | l0 :: ls, g, cs, 0, l, l', h, hl, ⟨c1, c2, e, h1, h2⟩ => by simp at h; subst h; exact ⟨c1, c2, e, hl c1 h1, h2⟩
  | l0 :: ls, g, cs, k + 1, l, l', h, hl, ⟨c1, c2, e, h1, h2⟩ => ⟨c1, c2, e, h1, leafs_swap (k := k) (by simpa using h) hl h2⟩
theorem Own.swap {X : Nat → Prop} {B : Nat} {g : G} {w : World} {n : Nat} {id : Nat} {T : TypeId} {ls : List Leaf} {k : Nat} {l l' : Leaf} (h : Own X B g w R) (hr : R[n]? = some (.box id T ls)) (hk : ls[k]? = some l) (hl : ∀ cs, l.ok g cs → l'.ok g cs) : Own X B g w (R.set n (.box id T (ls.set k l'))) := by
  obtain ⟨b, cs, hb, hh, hlf⟩ := h.get hr
  have hblk : (Res.box id T ls).block g b := by simp only [Res.block, hb]
  refine h.put hr (G.le.refl g) (Nat.le_refl _) (fun _ _ _ _ => rfl) (fun _ _ e _ => e) ⟨b, cs, hb, hh, leafs_swap hk hl hlf⟩ ?_
  intro b' e
  have : b' = b := by simp only [Res.block, hb, Option.some.injEq] at e; exact e.symm
  subst this
  obtain ⟨h1, h2, h3⟩ := h.at_ _ (List.mem_of_getElem? hr) b' hblk
  exact ⟨h1, h2, h3, .inl hblk⟩
theorem dfr_swap {D : List Deferred} {B : Nat} {g : G} {w : World} {n : Nat} {id : Nat} {T : TypeId} {ls ls' : List Leaf} {ds : List Deferred} (hD : Dfr D B g w R ds) (hr : R[n]? = some (.box id T ls)) : Dfr D B g w (R.set n (.box id T ls')) ds := by
  obtain ⟨rs, e, hnd, hq⟩ := hD
  refine ⟨rs, e, hnd, fun q hm => ?_⟩
  obtain ⟨h1, h2, h3, h4⟩ := hq q hm
  refine ⟨h1, h2, h3, fun s hs e' => ?_⟩
  rcases List.mem_or_eq_of_mem_set hs with hs | rfl
  · exact h4 s hs e'
  · exact h4 _ (List.mem_of_getElem? hr) e'
theorem wNilL {α : Type} (d : Kd α) (E : TypeId) (id : Nat) {c : Code} {n k bid : Nat} {T : TypeId} {ls : List Leaf} {u : List α} (hr : R[n]? = some (.box bid T ls)) (hk : ls[k]? = some (.d (kN α) u)) (hf : memB id (C.pi ++ used Γ R) = false) (h : WP C c Q Γ (.row id E d u :: R.set n (.box bid T (ls.set k (.v id))))) : WP C c Q Γ R := by
  intro g w a s
  have s' := s.only
  have hid : (g.only (C.pi ++ used Γ R)).nm id = none := only_none (fun hm => by rw [memB_iff.2 hm] at hf; cases hf)
  have hle : G.le (g.only (C.pi ++ used Γ R)) ((g.only (C.pi ++ used Γ R)).name id (.slice none 0 0)) := name_le hid
  have ho := s'.own.mono hle (Nat.le_refl _) (fun _ _ _ => rfl) (fun _ _ e => e)
  obtain ⟨b, cs, hb, hh, hlf⟩ := s'.own.get hr
  have hu : u = [] := (leafs_at hk hlf).2
  subst hu
  have ho2 := ho.swap (l' := .v id) hr hk (fun cs hc => ⟨.slice none 0 0, name_get .., hc.1, rfl⟩)
  refine h ((g.only (C.pi ++ used Γ R)).name id (.slice none 0 0)) w a ⟨s.size, dfr_swap (n := n + 1) (R := .row id E d [] :: R) (dfr_name s'.own s'.defers hle (fun b e => by simp only [Res.block, name_get, Option.bind_some] at e; cases e)) hr, s'.keep, s'.sat.mono hle, ?_, fun i hi => pin_name s' hid hi (fun hm => by rw [memB_iff.2 (List.mem_append_left _ hm)] at hf; cases hf)⟩
  refine Own.add ho2 ⟨.slice none 0 0, [], name_get .., ⟨by simp, .inl ⟨rfl, rfl⟩⟩, ⟨by simp, by simp⟩, by simp⟩ ?_
  intro b e
  simp only [Res.block, name_get, Option.bind_some] at e
  cases e
end
end Go.Proofs.YtkcpghpglhamfaaGreatDoor.Ab
