import Derived.Test.YtmegdednaimgcaaDoorAb11
set_option linter.unusedVariables false
set_option linter.unusedSimpArgs false
namespace Go.Proofs.YtmegdednaimgcaaDoor.Ab
open Go Go.RowKit
def rn (a b i : Nat) : Nat := match Nat.beq i a with | true => b | false => i
def Ent.ren (a b : Nat) : Ent → Ent
  | .d s => .d s
  | .v i => .v (rn a b i)
  | .p i o => .p (rn a b i) o
  | .e i o => .e (rn a b i) o
  | .f l s => .f (l.map (rn a b)) s
def Leaf.ren (a b : Nat) : Leaf → Leaf
  | .d k x => .d k x
  | .v i => .v (rn a b i)
  | .o i => .o (rn a b i)
def Res.ren (a b : Nat) : Res → Res
  | .box i T ls => .box (rn a b i) T (ls.map (Leaf.ren a b))
  | .row i T d xs => .row (rn a b i) T d xs
  | .abs i A s => .abs (rn a b i) A s
def envRen (a b : Nat) (Γ : Env) : Env := Γ.map fun p => (p.1, p.2.ren a b)
def G.ren (g : G) (a b : Nat) : G := ⟨g.H, fun i => if i = b then g.nm a else g.nm i⟩
theorem ren_nm {g : G} {a b i : Nat} (h : i ≠ b) : (g.ren a b).nm (rn a b i) = g.nm i := by
  unfold rn
  cases hb : Nat.beq i a with
  | true => have := Nat.eq_of_beq_eq_true hb; subst this; simp [G.ren]
  | false => simp [G.ren, h]
theorem Ent.ren_ok {e : Ent} {g : G} {v : Value} {a b : Nat} (h : ∀ i ∈ e.ids, i ≠ b) (k : e.ok g v) : (e.ren a b).ok (g.ren a b) v := by
  cases e with
  | d s => exact k
  | v i => exact (ren_nm (h i (by simp [Ent.ids]))).trans k
  | p i o => obtain ⟨c, h1, h2⟩ := k; exact ⟨c, (ren_nm (h i (by simp [Ent.ids]))).trans h1, h2⟩
  | e i o => obtain ⟨c, n, q, h1, h2⟩ := k; exact ⟨c, n, q, (ren_nm (h i (by simp [Ent.ids]))).trans h1, h2⟩
  | f l s =>
    obtain ⟨vs, h1, h2⟩ := k
    refine ⟨vs, ?_, h2⟩
    rw [List.map_map, ← h1]
    exact List.map_congr_left (fun i hi => ren_nm (h i hi))
theorem leafs_ren : ∀ {ls : List Leaf} {g : G} {cs : List Value} {a b : Nat}, (∀ i, i ∈ ls.filterMap Leaf.id → i ≠ b) → leafs ls g cs → leafs (ls.map (Leaf.ren a b)) (g.ren a b) cs
  | [], _, _, _, _, _, h => h
  | .d k x :: ls, _, _, _, _, hL, ⟨c1, c2, e, h1, h2⟩ => ⟨c1, c2, e, h1, leafs_ren hL h2⟩
  | .v i :: ls, _, _, _, _, hL, ⟨c1, c2, e, ⟨v, h0, h1⟩, h2⟩ => ⟨c1, c2, e, ⟨v, (ren_nm (hL i (by simp [Leaf.id]))).trans h0, h1⟩, leafs_ren (fun j hj => hL j (by rw [List.filterMap_cons]; split; exact hj; exact List.mem_cons_of_mem _ hj)) h2⟩
  | .o i :: ls, _, _, _, _, hL, ⟨c1, c2, e, h1, h2⟩ => ⟨c1, c2, e, h1.imp (fun e => e) (fun ⟨v, h0, h1⟩ => ⟨v, (ren_nm (hL i (by simp [Leaf.id]))).trans h0, h1⟩), leafs_ren (fun j hj => hL j (by rw [List.filterMap_cons]; split; exact hj; exact List.mem_cons_of_mem _ hj)) h2⟩
theorem Res.ren_ok {r : Res} {g : G} {w : World} {a b : Nat} (h : ∀ i ∈ r.ids, i ≠ b) (k : r.ok g w) : (r.ren a b).ok (g.ren a b) w := by
  cases r with
  | box i T ls =>
    obtain ⟨c, cs, e, hh, hl⟩ := k
    exact ⟨c, cs, (ren_nm (h i (by simp [Res.ids]))).trans e, hh, leafs_ren (fun j hj => h j (by simp only [Res.ids]; exact List.mem_cons_of_mem _ hj)) hl⟩
  | row i T d xs =>
    obtain ⟨v, cells, e, ho, hr⟩ := k
    exact ⟨v, cells, (ren_nm (h i (by simp [Res.ids]))).trans e, ho, hr⟩
  | abs i A s =>
    obtain ⟨bs, e, hp⟩ := k
    exact ⟨bs, (ren_nm (h i (by simp [Res.ids]))).trans e, hp⟩
theorem Res.ren_block {r : Res} {g : G} {a b : Nat} (h : ∀ i ∈ r.ids, i ≠ b) : (r.ren a b).block (g.ren a b) = r.block g := by
  funext x
  cases r with
  | abs i A s => simp only [Res.block, Res.ren, ren_nm (h i (by simp [Res.ids]))]
  | box i T ls => simp only [Res.block, Res.ren, ren_nm (h i (by simp [Res.ids]))]
  | row i T d xs => simp only [Res.block, Res.ren, ren_nm (h i (by simp [Res.ids]))]
theorem look_ren {a b : Nat} : ∀ {Γ : Env} {t : Nat}, look (envRen a b Γ) t = (look Γ t).map (Ent.ren a b)
  | [], t => rfl
  | (u, e) :: r, t => by
    show look ((u, e.ren a b) :: envRen a b r) t = _
    rw [look_cons, look_cons, look_ren]
    split <;> rfl
section
variable {C : Cx} {Q : Exit → Act → World → Prop} {Γ Γ' : Env} {R R' : List Res}
theorem St.ren {g : G} {w : World} {ac : Act} {a b : Nat} (hb : memB b (C.pi ++ used Γ R) = false) (h : St C Γ R g w ac) : St C (envRen a b Γ) (R.map (Res.ren a b)) (g.ren a b) w ac := by
  have hn : ∀ i ∈ used Γ R, i ≠ b := fun i hi e => by subst e; rw [memB_iff.2 (List.mem_append_right _ hi)] at hb; cases hb
  have hr : ∀ r ∈ R, ∀ i ∈ r.ids, i ≠ b := fun r hr i hi => hn i (List.mem_append_right _ (List.mem_flatMap.2 ⟨r, hr, hi⟩))
  have hpi : ∀ i ∈ C.pi, i ≠ b := fun i hi e => by subst e; rw [memB_iff.2 (List.mem_append_left _ hi)] at hb; cases hb
  refine ⟨h.size, ?_, h.keep, fun t e he => ?_, ⟨fun r hr' => ?_, fun r hr' k e => ?_, ?_⟩, fun i hi => (if_neg (hpi i hi)).trans (h.pin i hi)⟩
  · obtain ⟨rs, e, hnd, hq⟩ := h.defers
    refine ⟨rs, e, hnd, fun q hm => ?_⟩
    obtain ⟨h1, h2, h3, h4⟩ := hq q hm
    refine ⟨h1, h2, h3, fun s hs e' => ?_⟩
    obtain ⟨r0, h0, rfl⟩ := List.mem_map.1 hs
    rw [Res.ren_block (hr r0 h0)] at e'
    exact h4 r0 h0 e'
  · rw [look_ren] at he
    obtain ⟨e0, h0, rfl⟩ := Option.map_eq_some_iff.1 he
    exact Ent.ren_ok (fun i hi => hn i (List.mem_append_left _ (mem_usedE (look_of_mem_nodup h0) hi))) (h.sat t e0 h0)
  · obtain ⟨r0, h0, rfl⟩ := List.mem_map.1 hr'
    exact Res.ren_ok (hr r0 h0) (h.own.ok r0 h0)
  · obtain ⟨r0, h0, rfl⟩ := List.mem_map.1 hr'
    rw [Res.ren_block (hr r0 h0)] at e
    exact h.own.at_ r0 h0 k e
  · rw [List.pairwise_map]
    refine List.Pairwise.imp_of_mem ?_ h.own.apart
    intro r s h1 h2 hrs k e
    rw [Res.ren_block (hr r h1)] at e
    rw [Res.ren_block (hr s h2)]
    exact hrs k e
theorem pRen {e : Exit} (a b : Nat) (hb : memB b (C.pi ++ used Γ R) = false) (h : Post C Q e (envRen a b Γ) (R.map (Res.ren a b))) : Post C Q e Γ R := fun g w ac s => h _ w ac (s.ren hb)
theorem wRen {c : Code} (a b : Nat) (hb : memB b (C.pi ++ used Γ R) = false) (h : WP C c Q (envRen a b Γ) (R.map (Res.ren a b))) : WP C c Q Γ R := fun g w ac s => h _ w ac (s.ren hb)
theorem pSub {e : Exit} (hs : Sub Γ' Γ) (h : Post C Q e Γ' R) : Post C Q e Γ R := fun g w a s => h g w a (s.weak hs)
theorem pDrop {e : Exit} (hs : R'.Sublist R) (h : Post C Q e Γ R') : Post C Q e Γ R := fun g w a s => h g w a ⟨s.size, s.defers.same (fun r hr => hs.subset hr), s.keep, s.sat, s.own.sub hs, s.pin⟩
end
section
variable {rd : Option Nat} {P : Program} {ops : Array Oper} {rest : List Oper} {Γ Γ' : Env} {R R' : List Res} {es : List En} {d : Nat} {op : Op} {ty : TypeId} {pos : String} {af : Array Edge} {out : Ent} {ins : Env}
theorem cgB {j t : Nat} {b y : Bool} (hb : y = b) (hj : (ops[j]?).bind (·.dst) = some t) (ht : look Γ t = some (.d (kB.sig y))) (h : OkP P ⟨some d, op, ty, pos, af, some (j, b)⟩ ins out) (hs : Sub ins Γ) (k : Chain rd P ops rest ((d, out) :: Γ) R es Γ' R') : Chain rd P ops (⟨some d, op, ty, pos, af, some (j, b)⟩ :: rest) Γ R (⟨.pure, (t, .d (kB.sig b)) :: ins, out, [], some d, R, R⟩ :: es) Γ' R' :=
  cg hj (by rw [ht, hb]) h hs k
theorem csB {j t : Nat} {b y : Bool} (hb : y = !b) (hj : (ops[j]?).bind (·.dst) = some t) (ht : look Γ t = some (.d (kB.sig y))) (k : Chain rd P ops rest ((d, .d sU) :: Γ) R es Γ' R') : Chain rd P ops (⟨some d, op, ty, pos, af, some (j, b)⟩ :: rest) Γ R (⟨.skip, [(t, .d (kB.sig (!b)))], .d sU, [], some d, R, R⟩ :: es) Γ' R' :=
  cs hj (by rw [ht, hb]) k
theorem crgB {j t : Nat} {b y : Bool} (hb : y = b) (hj : (ops[j]?).bind (·.dst) = some t) (ht : look Γ t = some (.d (kB.sig y))) (h : Ok P ⟨some d, op, ty, pos, af, some (j, b)⟩ ins R out none R) (hs : Sub ins Γ) (k : Chain rd P ops rest ((d, out) :: Γ) R es Γ' R') : Chain rd P ops (⟨some d, op, ty, pos, af, some (j, b)⟩ :: rest) Γ R (⟨.read, (t, .d (kB.sig b)) :: ins, out, [], some d, R, R⟩ :: es) Γ' R' :=
  crg hj (by rw [ht, hb]) h hs k
variable {dst : Option Nat} {x y c : Operand} {i ic : Env} {gd : Option (Nat × Bool)}
theorem oPkT {e : Ent} {b : Bool} (hb : b = true) (hc : Opd c (.d (kB.sig b)) ic) (h : Opd x e i) : OkP P ⟨dst, .pick c x y, ty, pos, af, gd⟩ (ic ++ i) e := by subst hb; exact oPickT hc h
theorem oPkF {e : Ent} {b : Bool} (hb : b = false) (hc : Opd c (.d (kB.sig b)) ic) (h : Opd y e i) : OkP P ⟨dst, .pick c x y, ty, pos, af, gd⟩ (ic ++ i) e := by subst hb; exact oPickF hc h
theorem tmN {α : Type} {d : Kd α} {t : Nat} : Opd (.tmp t) (.d ((kL d).sig [])) [(t, .d (sV (.slice none 0 0)))] := fun g a h => by
  have hv : a.tmps.getD t undef = .slice none 0 0 := h (t, .d (sV (.slice none 0 0))) (List.mem_cons_self ..)
  exact kL_sig.2 ⟨none, 0, hv, Nat.le_refl _, by omega, by simp [big], .inl rfl⟩
end
theorem nt {p : Prop} [Decidable p] (h : ¬ p) : (!decide p) = true := by rw [decide_eq_false h]; rfl
theorem nf {p : Prop} [Decidable p] (h : p) : (!decide p) = false := by rw [decide_eq_true h]; rfl
theorem s1 {Γ : Env} {t : Nat} {e : Ent} (h : look Γ t = some e) : Sub [(t, e)] Γ := ⟨h, trivial⟩
theorem s2 {Γ : Env} {t u : Nat} {e f : Ent} (h : look Γ t = some e) (k : look Γ u = some f) : Sub [(t, e), (u, f)] Γ := ⟨h, k, trivial⟩
theorem s3 {Γ : Env} {t u v : Nat} {e f q : Ent} (h : look Γ t = some e) (k : look Γ u = some f) (l : look Γ v = some q) : Sub [(t, e), (u, f), (v, q)] Γ := ⟨h, k, l, trivial⟩
end Go.Proofs.YtmegdednaimgcaaDoor.Ab
