import Derived.Test.YtmegdednaimgcaaDoorAb10
set_option linter.unusedVariables false
set_option linter.unusedSimpArgs false
namespace Go.Proofs.YtmegdednaimgcaaDoor.Ab
open Go Go.RowKit
def bodied (P : Program) (f : FuncId) : Prop := ((P.funcs[f]?).map fun fn => fn.body.isSome && !(fn.name == "runtime.NumGoroutine")) = some true
def sFun (P : Program) (Rl : List Sig → Sig → Prop) : Sig := ⟨fun H v => ∃ f cap, v = .func (.func f) #[] cap ∧ bodied P f ∧ ∀ ins out, Rl ins out → ∀ (H' : FH) (w : World) (args : List Value), FH.le H H' → Agree H' w → Sats ins H' args → Calls P f (args.toArray ++ cap) w (Ret No H' w out),
  by
    intro H H' v hl h
    obtain ⟨f, cap, e, hb, k⟩ := h
    exact ⟨f, cap, e, hb, fun ins out hr H'' w args hl' => k ins out hr H'' w args (hl.trans hl')⟩⟩
theorem sats_append : ∀ {a b : List Sig} {H : FH} {vs us : List Value}, Sats a H vs → Sats b H us → Sats (a ++ b) H (vs ++ us)
  | [], _, _, _, _, h, k => by rw [show _ = [] from h]; exact k
  | s :: a, b, H, vs, us, ⟨v, vr, e, h1, h2⟩, k => by subst e; exact ⟨v, vr ++ us, rfl, h1, sats_append h2 k⟩
section
variable {P : Program} {x y z : Operand} {i j k3 : Env} {dst : Option Nat} {T T' ty : TypeId} {pos : String} {af : Array Edge} {gd : Option (Nat × Bool)} {R : List Res}
theorem oMkF {f : FuncId} {xs : List Operand} {cs : Array Operand} {caps : List Sig} {Rl : List Sig → Sig → Prop} (hx : cs.toList = xs) (hb : bodied P f) (hf : ∀ ins out, Rl ins out → FnA P f (ins ++ caps) out) (h : Opds xs caps i) : OkP P ⟨dst, .makeFunc (.func f) #[] cs, ty, pos, af, gd⟩ i (.d (sFun P Rl)) := okV fun g w a hA hi => by
  refine ⟨.func (.func f) #[] (cs.map a.eval), by simp [execOp, Instr.makeFunc], f, cs.map a.eval, rfl, hb, fun ins out hr H' w' args hl hA' hs => ?_⟩
  have hc := opds_sats h hi
  have := hf ins out hr H' w' (args ++ xs.map a.eval) hA' (sats_append hs (sats_mono hl hc))
  rw [show args.toArray ++ cs.map a.eval = (args ++ xs.map a.eval).toArray by subst hx; apply Array.ext'; simp]
  exact this
theorem oFn {f : FuncId} {Rl : List Sig → Sig → Prop} (hb : bodied P f) (hf : ∀ ins out, Rl ins out → FnA P f ins out) : Opd (.func f) (.d (sFun P Rl)) [] := fun g a _ => by
  refine ⟨f, #[], rfl, hb, fun ins out hr H' w' args hl hA' hs => ?_⟩
  have := hf ins out hr H' w' args hA' hs
  simpa using this
theorem oCallV {xs : List Operand} {as_ : Array Operand} {ts : Array TypeId} {ins : List Sig} {out : Sig} {Rl : List Sig → Sig → Prop} (hx : as_.toList = xs) (hr : Rl ins out) (hf : Opd x (.d (sFun P Rl)) i) (h : Opds xs ins j) : OkP P ⟨dst, .call ⟨.value x, as_, ts⟩, ty, pos, af, gd⟩ (i ++ j) (.d out) := by
  intro g w a K Q hA hi hK
  obtain ⟨f, cap, e, hb, k⟩ := hf g a (satI_l hi)
  obtain ⟨fn, hfn, hb'⟩ := Option.map_eq_some_iff.1 hb
  simp only [Bool.and_eq_true, Bool.not_eq_true', beq_eq_false_iff_ne, ne_eq] at hb'
  unfold Oper.wp
  have hrun : (execOp a.eval ⟨dst, .call ⟨.value x, as_, ts⟩, ty, pos, af, gd⟩).run P w = .ok (.enter f ((xs.map a.eval).toArray ++ cap)) w := by
    have hm : as_.map a.eval = (xs.map a.eval).toArray := by
      subst hx
      apply Array.ext'
      simp
    have hbn : fn.body.isNone = false := by simpa using hb'.1
    have hc : ∀ as : Array Value, (callFunc f as).run P w = .ok (.enter f as) w := by
      intro as
      simp only [callFunc, program, Sem.run_bind, Sem.run, Sem.run_pure', Result.andThen_ok, hfn]
      rw [if_neg (by simpa using hb'.2), if_neg (by simp [hbn])]
      rfl
    simp only [execOp, resolve, e, Deferred.ofValue, Sem.run_bind, Sem.run_pure, Result.andThen_ok, invoke]
    rw [show (#[] ++ Array.map (Act.eval a) as_) = (xs.map a.eval).toArray by rw [hm]; simp]
    exact hc _
  rw [hrun]
  refine (k ins out hr g.H w _ (FH.le.refl _) hA (opds_sats h (satI_r hi))).mono ?_
  rintro e' w' ⟨v, H', rfl, hk, hv⟩
  exact hK v H' w' hk hv
end
end Go.Proofs.YtmegdednaimgcaaDoor.Ab
