import Derived.Test.YtmegdednaimgcaaDoorAb15
set_option linter.unusedVariables false
set_option linter.unusedSimpArgs false
namespace Go.Proofs.YtmegdednaimgcaaDoor.Ab
open Go Go.RowKit

theorem Ent.move {e : Ent} {g g1 : G} {v : Value} (k : e.ok g v) (hH : FH.le g.H g1.H) (hn : ∀ i ∈ e.ids, g1.nm i = g.nm i) : e.ok g1 v := by
  cases e with
  | d s => exact s.mono hH k
  | v i => exact (hn i (by simp [Ent.ids])).trans k
  | p i o => obtain ⟨b, h1, h2⟩ := k; exact ⟨b, (hn i (by simp [Ent.ids])).trans h1, h2⟩
  | e i o => obtain ⟨b, n, c, h1, h2⟩ := k; exact ⟨b, n, c, (hn i (by simp [Ent.ids])).trans h1, h2⟩
  | f ids s => obtain ⟨vs, h1, h2⟩ := k; exact ⟨vs, (List.map_congr_left hn).trans h1, s.mono hH h2⟩
theorem keep_putObj {X : Nat → Prop} {H0 H : FH} {w0 w : World} {l : Nat} (o : Obj) (h : Keep X H0 w0 H w) (hl : X l ∨ w0.heap.size ≤ l) (hH : H l = none) : Keep X H0 w0 H (w.putObj l o) :=
  h.step (Y := fun i => i = l) ⟨rfl, rfl, rfl, Nat.le_of_eq World.putObj_size.symm, fun b hb hx => World.putObj_heap_other hx, fun _ _ _ => rfl, ⟨h.agree.base, fun b o' e => (World.putObj_heap_other (fun e' => by subst e'; rw [hH] at e; cases e)).trans (h.agree b o' e)⟩⟩ (fun i hi => by subst hi; exact hl)
theorem res_blocks {g : G} {w : World} {r : Res} (h : r.ok g w) : ∃ bs : List Nat, ∀ b, b ∈ bs ↔ r.block g b := by
  cases r with
  | box i T ls =>
    obtain ⟨b, cs, e, _⟩ := h
    exact ⟨[b], fun c => by simp [Res.block, e, eq_comm]⟩
  | row i T d xs =>
    obtain ⟨v, cells, e, _⟩ := h
    refine ⟨v.ownBlock.toList, fun c => ?_⟩
    simp only [Res.block, e, Option.bind_some, Option.mem_toList, Option.mem_def]
  | abs i A s =>
    obtain ⟨bs, e, _⟩ := h
    refine ⟨bs, fun c => ⟨fun hc => ⟨bs, e, hc⟩, ?_⟩⟩
    rintro ⟨bs2, e2, hc⟩
    rw [e] at e2
    rw [encB_inj (Option.some.inj e2)]; exact hc
theorem all_blocks {g : G} {w : World} : ∀ {R : List Res}, (∀ r ∈ R, r.ok g w) → ∃ bs : List Nat, ∀ b, b ∈ bs ↔ ∃ r ∈ R, r.block g b
  | [], _ => ⟨[], by simp⟩
  | r :: R, h => by
    obtain ⟨b1, h1⟩ := res_blocks (h r (List.mem_cons_self ..))
    obtain ⟨b2, h2⟩ := all_blocks (fun s hs => h s (List.mem_cons_of_mem _ hs))
    exact ⟨b1 ++ b2, fun b => by simp [h1, h2]⟩

def jOf (js : List Code) : Nat → Option Code
  | 0 => none
  | j + 1 => js[j]?
def yOf {τ α β : Type} (yb : τ → α → β → Option (Bool × (τ × Nat))) : τ × Nat → α → β → Option (Bool × (τ × Nat)) := fun s a b => match s.2 with | 0 => yb s.1 a b | _ + 1 => none
def RB {τ : Type} (C : Cx) (Rs : τ → List Res) (js : List Code) (o : Bool × (τ × Nat)) : Exit → Act → World → Prop
  | .normal, a, w => (o.1 = true ∧ o.2.2 = 0) ∧ ∃ g, St C [] (Rs o.2.1) g w a
  | .ret, a, w => (o.1 = false ∧ o.2.2 ≠ 0 ∧ jOf js o.2.2 = some .ret) ∧ ∃ g, St C [] (Rs o.2.1) g w a
  | .exit i, a, w => (o.1 = false ∧ o.2.2 ≠ 0 ∧ jOf js o.2.2 = some (.exit i)) ∧ ∃ g, St C [] (Rs o.2.1) g w a
  | _, _, _ => False
def QA (C : Cx) (Γ : Env) (R : List Res) : Exit → Act → World → Prop
  | .normal, a, w => ∃ g, St C Γ R g w a
  | _, _, _ => False
section
variable {C : Cx} {Γ Γ' : Env} {R : List Res}
theorem qA (hs : Sub Γ' Γ) : Post C (QA C Γ' R) .normal Γ R := fun g w a s => ⟨g, s.weak hs⟩
theorem subNil : Sub [] Γ := trivial
theorem qN {τ : Type} {Rs : τ → List Res} {js : List Code} {t : τ} : Post C (RB C Rs js (true, t, 0)) .normal Γ (Rs t) := fun g w a s => ⟨⟨rfl, rfl⟩, g, s.weak subNil⟩
theorem qR {τ : Type} {Rs : τ → List Res} {js : List Code} {t : τ} {j : Nat} (hj : js[j]? = some .ret) : Post C (RB C Rs js (false, t, j + 1)) .ret Γ (Rs t) := fun g w a s => ⟨⟨rfl, by simp, hj⟩, g, s.weak subNil⟩
end

def recOf (rec : Loop) (js : List Code) (j : Nat) : Loop := { rec with state := (match j with | 0 => .ready | _ + 1 => .done), pending := jOf js j }
def RAp {τ : Type} (Rs : τ → List Res) (js : List Code) (pi : List Nat) (pv : Nat → Option Value) (l : Nat) (rec : Loop) (s : τ × Nat) (H : FH) (w : World) (bs : List Nat) : Prop :=
  (∃ g : G, g.H = H ∧ (∀ i ∈ pi, g.nm i = pv i) ∧ (∀ r ∈ Rs s.1, r.ok g w) ∧ ((Rs s.1).Pairwise fun r s => ∀ b, r.block g b → ¬ s.block g b) ∧ ∀ r ∈ Rs s.1, ∀ b, r.block g b → b ∈ bs ∧ b ≠ l) ∧
    l ∈ bs ∧ w.heap[l]? = some (.loop (recOf rec js s.2))
def rAbs {τ : Type} (Rs : τ → List Res) (js : List Code) (pi : List Nat) (pv : Nat → Option Value) (l : Nat) (rec : Loop) : Abs (τ × Nat) where
  p := RAp Rs js pi pv l rec
  mono := by
    rintro s H H' w w' bs hle hsz hb ⟨⟨g, rfl, h1, h2, h3, h4⟩, hl, hr⟩
    have hgl : G.le g ⟨H', g.nm⟩ := ⟨hle, fun _ _ e => e⟩
    refine ⟨⟨⟨H', g.nm⟩, rfl, h1, fun r hm => Res.ok_mono hgl hsz (fun b e => hb b (h4 r hm b e).1) (h2 r hm), ?_, fun r hm b e => ?_⟩, hl, (hb l hl).trans hr⟩
    · refine List.Pairwise.imp_of_mem ?_ h3
      intro r s hr hs k b e
      rw [Res.block_mono hgl (h2 r hr)] at e
      rw [Res.block_mono hgl (h2 s hs)]
      exact k b e
    · rw [Res.block_mono hgl (h2 r hm)] at e
      exact h4 r hm b e
theorem round_ok {τ α β : Type} {P : Program} {N : Nat} {Rs : τ → List Res} {Rs2 : τ → α → β → List Res} {js : List Code} {pi : List Nat} {pv : Nat → Option Value} {l : Nat} {rec : Loop} {yb : τ → α → β → Option (Bool × (τ × Nat))} {sa : α → Sig} {sb : β → Sig}
    {p1 p2 : Nat} {Γ : Env} {Γ2 : α → β → Env} {g0 : G} (hps : rec.params = #[p1, p2]) (hne : p1 ≠ p2) (hp1 : p1 < N) (hp2 : p2 < N) (hN : rec.tmps.size = N)
    (hsat : ∀ t e, look Γ t = some e → e.ok g0 (rec.tmps.getD t undef)) (hids : ∀ t e, look Γ t = some e → ∀ i ∈ e.ids, i ∈ pi) (hpv : ∀ i ∈ pi, g0.nm i = pv i)
    (hA : ∀ X H0 w0 t a b, WP ⟨P, N, X, H0, w0, some l, pi, pv, []⟩ rec.assign (QA ⟨P, N, X, H0, w0, some l, pi, pv, []⟩ (Γ2 a b) (Rs2 t a b)) ((p1, .d (sa a)) :: (p2, .d (sb b)) :: Γ) (Rs t))
    (hB : ∀ X H0 w0 t a b o, yb t a b = some o → WP ⟨P, N, X, H0, w0, some l, pi, pv, []⟩ rec.body (RB ⟨P, N, X, H0, w0, some l, pi, pv, []⟩ Rs js o) (Γ2 a b) (Rs2 t a b)) :
    YieldP P (rAbs Rs js pi pv l rec) (yOf yb) sa sb l g0.H := by
  rintro ⟨t, j⟩ a b r ⟨t', j'⟩ hy H1 w bs va vb hle hAg ⟨⟨g, rfl, h1, h2, h3, h4⟩, hl, hrec⟩ hfr hva hvb
  cases j with
  | succ j => cases hy
  | zero =>
  have hy : yb t a b = some (r, t', j') := hy
  refine ⟨_, _, _, _, run_yield hrec (by simp [recOf, hps]), roundIn_of_wpIn (F := FR none) trivial ?_⟩
  have hlt : l < w.heap.size := (hfr l hl).2
  have hHl : g.H l = none := (hfr l hl).1
  -- the assignments
  let C1 : Cx := ⟨P, N, fun b => b ∈ bs ∧ b ≠ l, g.H, w, some l, pi, pv, []⟩
  have s1 : St C1 ((p1, .d (sa a)) :: (p2, .d (sb b)) :: Γ) (Rs t) g w ⟨(((recOf rec js 0).params.zip #[va, vb]).foldl (fun tmps (t, a) => tmps.setIfInBounds t a) (recOf rec js 0).tmps), []⟩ := by
    refine ⟨?_, ⟨[], rfl, List.nodup_nil, fun r hr => by cases hr⟩, Keep.refl hAg, ?_, ⟨h2, fun r hr b e => ?_, h3⟩, h1⟩
    · simp [recOf, hps, hN, C1]
    · intro u e he
      have hg : (((recOf rec js 0).params.zip #[va, vb]).foldl (fun tmps (x : Nat × Value) => tmps.setIfInBounds x.1 x.2) (recOf rec js 0).tmps).getD u undef = if p2 = u then vb else if p1 = u then va else rec.tmps.getD u undef := by
        have hz : ((recOf rec js 0).params.zip #[va, vb]).foldl (fun tmps (x : Nat × Value) => tmps.setIfInBounds x.1 x.2) (recOf rec js 0).tmps = (rec.tmps.setIfInBounds p1 va).setIfInBounds p2 vb := by
          rw [← Array.foldl_toList, Array.toList_zip, show (recOf rec js 0).params = #[p1, p2] from hps]
          rfl
        rw [hz]
        simp only [Array.getD_eq_getD_getElem?, Array.getElem?_setIfInBounds]
        by_cases e2 : p2 = u
        · subst e2; simp [hN, hp2]
        · by_cases e1 : p1 = u
          · subst e1; simp [e2, hN, hp1]
          · simp [e1, e2]
      show e.ok g (Array.getD _ u undef)
      rw [hg]
      rw [look_cons] at he
      by_cases e1 : p1 = u
      · rw [if_pos e1] at he; cases he
        rw [if_neg (fun e2 => hne (e1.trans e2.symm)), if_pos e1]
        exact hva
      · rw [if_neg e1, look_cons] at he
        by_cases e2 : p2 = u
        · rw [if_pos e2] at he; cases he
          rw [if_pos e2]; exact hvb
        · rw [if_neg e2] at he
          rw [if_neg e2, if_neg e1]
          exact Ent.move (hsat u e he) hle (fun i hi => (h1 i (hids u e he i hi)).trans (hpv i (hids u e he i hi)).symm)
    · obtain ⟨q1, q2⟩ := h4 r hr b e
      exact ⟨(hfr b q1).1, (hfr b q1).2, .inl ⟨q1, q2⟩⟩
  refine wpIn_mono (hA _ g.H w t a b g w _ s1) ?_
  intro e a1 w1 he
  cases e with
  | normal =>
    obtain ⟨ga, s2⟩ := he
    have hw1 : w1.heap[l]? = some (.loop (recOf rec js 0)) := (s2.keep.block l hlt (fun h => h.2 rfl)).trans hrec
    have hHa : ga.H l = none := (s2.keep.old l hlt (fun h => absurd rfl h.2)).trans hHl
    have hl1 : l < w1.heap.size := Nat.lt_of_lt_of_le hlt s2.keep.size
    refine ⟨_, run_beginRound hw1 rfl, ?_⟩
    generalize hbusy : ({ recOf rec js 0 with state := .busy } : Loop) = busy
    -- the body
    let C2 : Cx := ⟨P, N, fun b => (b ∈ bs ∨ w.heap.size ≤ b) ∧ b ≠ l, ga.H, w1.putObj l (.loop busy), some l, pi, pv, []⟩
    have hsz : (w1.putObj l (.loop busy)).heap.size = w1.heap.size := World.putObj_size
    have hat : ∀ r ∈ Rs2 t a b, ∀ b, r.block ga b → ga.H b = none ∧ b < w1.heap.size ∧ (b ∈ bs ∨ w.heap.size ≤ b) ∧ b ≠ l := by
      intro r hr b e
      obtain ⟨q1, q2, q3⟩ := s2.own.at_ r hr b e
      rcases q3 with q3 | q3
      · exact ⟨q1, q2, .inl q3.1, q3.2⟩
      · have q3 : w.heap.size ≤ b := q3
        exact ⟨q1, q2, .inr q3, by omega⟩
    have s3 : St C2 (Γ2 a b) (Rs2 t a b) ga (w1.putObj l (.loop busy)) a1 := by
      refine ⟨s2.size, ?_, Keep.refl ⟨s2.keep.agree.base, fun b o e => (World.putObj_heap_other (fun e' => by subst e'; have e : ga.H b = some o := e; rw [hHa] at e; cases e)).trans (s2.keep.agree b o e)⟩, s2.sat, ⟨fun r hr => ?_, fun r hr b e => ?_, s2.own.apart⟩, s2.pin⟩
      · obtain ⟨rs, e, hnd, hq⟩ := s2.defers
        refine ⟨rs, e, hnd, fun q hm => ?_⟩
        obtain ⟨q1, q2, q3, q4⟩ := hq q hm
        exact ⟨(World.putObj_heap_other (fun e' => by subst e'; rw [hw1] at q1; cases q1)).trans q1, q2, Nat.zero_le _, q4⟩
      · exact Res.ok_mono (G.le.refl ga) (Nat.le_of_eq hsz.symm) (fun b e => World.putObj_heap_other (hat r hr b e).2.2.2) (s2.own.ok r hr)
      · obtain ⟨q1, q2, q3, q4⟩ := hat r hr b e
        exact ⟨q1, by rw [hsz]; exact q2, .inl ⟨q3, q4⟩⟩
    have k12 : Keep (fun b => b ∈ bs) g.H w ga.H (w1.putObj l (.loop busy)) := keep_putObj _ (s2.keep.mono fun i _ h => h.1) (.inl hl) hHa
    refine wpIn_mono (hB _ ga.H _ t a b _ hy ga _ a1 s3) ?_
    intro e3 a3 w3 h3'
    -- what is common to all ends
    have fin : ∀ (gb : G) (jump : Option Code), St C2 [] (Rs t') gb w3 a3 → jump = jOf js j' → (r = jump.isNone) → (jump = none ↔ j' = 0) →
        ∃ v w', (Instr.endRound l jump).run P w3 = .ok v w' ∧ ∃ H', Ending.returned v = .returned (.bool r) ∧ Turn (rAbs Rs js pi pv l rec) (t', j') g.H w bs H' w' := by
      intro gb jump sb' hj hr hj0
      have hl2 : l < (w1.putObj l (.loop busy)).heap.size := by rw [hsz]; exact hl1
      have hw3 : w3.heap[l]? = some (.loop busy) := (sb'.keep.block l hl2 (fun h => h.2 rfl)).trans (World.putObj_heap_same hl1)
      have hHb : gb.H l = none := (sb'.keep.old l hl2 (fun h => absurd rfl h.2)).trans hHa
      refine ⟨_, _, run_endRound jump hw3, gb.H, by rw [hr], ?_⟩
      have k13 : Keep (fun b => b ∈ bs) g.H w gb.H w3 := k12.step sb'.keep (fun i hi => hi.1)
      generalize hlast : ({ busy with state := if jump.isNone then .ready else .done, pending := jump } : Loop) = last
      have hlast' : last = recOf rec js j' := by
        subst hlast; subst hbusy
        cases j' with
        | zero =>
          obtain rfl := hj0.2 rfl
          simp [recOf, jOf]
        | succ j' =>
          cases jump with
          | none => exact absurd (hj0.1 rfl) (by omega)
          | some c => simp [recOf, ← hj]
      obtain ⟨bs1, hbs1⟩ := all_blocks sb'.own.ok
      have hsz3 : (w3.putObj l (.loop last)).heap.size = w3.heap.size := World.putObj_size
      have hbat : ∀ r ∈ Rs t', ∀ b, r.block gb b → gb.H b = none ∧ b < w3.heap.size ∧ (b ∈ bs ∨ w.heap.size ≤ b) ∧ b ≠ l := by
        intro r hr b e
        obtain ⟨q1, q2, q3⟩ := sb'.own.at_ r hr b e
        rcases q3 with q3 | q3
        · exact ⟨q1, q2, q3.1, q3.2⟩
        · have q3 : (w1.putObj l (.loop busy)).heap.size ≤ b := q3
          have hww : w.heap.size ≤ w1.heap.size := s2.keep.size
          rw [hsz] at q3
          exact ⟨q1, q2, .inr (by omega), by omega⟩
      have hl3 : l < w3.heap.size := Nat.lt_of_lt_of_le hl2 sb'.keep.size
      refine ⟨l :: bs1, keep_putObj _ k13 (.inl hl) hHb, ⟨⟨gb, rfl, sb'.pin, fun r hr => Res.ok_mono (G.le.refl gb) (Nat.le_of_eq hsz3.symm) (fun b e => World.putObj_heap_other (hbat r hr b e).2.2.2) (sb'.own.ok r hr), sb'.own.apart, fun r hr b e => ⟨List.mem_cons_of_mem _ ((hbs1 b).2 ⟨r, hr, e⟩), (hbat r hr b e).2.2.2⟩⟩, List.mem_cons_self .., by rw [World.putObj_heap_same hl3, hlast']⟩, ?_⟩
      intro b hb
      rcases List.mem_cons.1 hb with rfl | hb
      · exact ⟨hHb, by rw [hsz3]; exact hl3, .inl hl⟩
      · obtain ⟨r', hr', e⟩ := (hbs1 b).1 hb
        obtain ⟨q1, q2, q3, _⟩ := hbat r' hr' b e
        exact ⟨q1, by rw [hsz3]; exact q2, q3⟩
    cases e3 with
    | normal =>
      obtain ⟨⟨e1, e2⟩, gb, sb'⟩ := h3'
      have e1 : r = true := e1
      have e2 : j' = 0 := e2
      exact fin gb none sb' (by rw [e2]; rfl) e1 ⟨fun _ => e2, fun _ => rfl⟩
    | ret =>
      obtain ⟨⟨e1, e2, e3⟩, gb, sb'⟩ := h3'
      have e1 : r = false := e1
      exact fin gb (some .ret) sb' e3.symm e1 ⟨fun h => (by cases h), fun h => absurd h e2⟩
    | exit i =>
      obtain ⟨⟨e1, e2, e3⟩, gb, sb'⟩ := h3'
      have e1 : r = false := e1
      exact fin gb (some (.exit i)) sb' e3.symm e1 ⟨fun h => (by cases h), fun h => absurd h e2⟩
    | goto i => exact h3'.elim
    | panic c => exact h3'.elim
    | outgrown => exact h3'.elim
  | ret => exact he.elim
  | exit i => exact he.elim
  | goto i => exact he.elim
  | panic c => exact he.elim
  | outgrown => exact he.elim

def JP (C : Cx) (Q : Exit → Act → World → Prop) (Γ : Env) (R : List Res) : Option Code → Prop
  | none => Post C Q .normal Γ R
  | some .ret => Post C Q .ret Γ R
  | some (.exit i) => Post C Q (.exit i) Γ R
  | _ => False
theorem jp0 {C : Cx} {Q : Exit → Act → World → Prop} {Γ : Env} {R : List Res} {js : List Code} {o2 : Nat} (hj : o2 = 0) (h : Post C Q .normal Γ R) : JP C Q Γ R (jOf js o2) := by subst hj; exact h
theorem jpR {C : Cx} {Q : Exit → Act → World → Prop} {Γ : Env} {R : List Res} {js : List Code} {o2 j : Nat} (hj : o2 = j + 1) (hc : js[j]? = some .ret) (h : Post C Q .ret Γ R) : JP C Q Γ R (jOf js o2) := by
  subst hj
  show JP C Q Γ R js[j]?
  rw [hc]; exact h
theorem Ent.ids_mem {Γ : Env} {t : Nat} {e : Ent} (h : look Γ t = some e) {i : Nat} (hi : i ∈ e.ids) : i ∈ usedE Γ := mem_usedE (look_of_mem_nodup h) hi
def subB : List Nat → List Nat → Bool
  | [], _ => true
  | a :: l, m => match memB a m with | true => subB l m | false => false
theorem subB_spec : ∀ {l m : List Nat}, subB l m = true → ∀ i ∈ l, i ∈ m
  | [], _, _, i, hi => by cases hi
  | a :: l, m, h, i, hi => by
    unfold subB at h
    cases hm : memB a m with
    | false => rw [hm] at h; cases h
    | true =>
      rw [hm] at h
      rcases List.mem_cons.1 hi with rfl | hi
      · exact memB_iff.1 hm
      · exact subB_spec h i hi
theorem wRange {τ α β : Type} {C : Cx} {Q : Exit → Act → World → Prop} {Γ Γ' : Env} {f : FuncId} {t p1 p2 : Nat} {assign body : Code} {caps : List Sig} {sa : α → Sig} {sb : β → Sig} {F : {σ : Type} → (σ → α → β → Option (Bool × σ)) → σ → Option σ}
    {Γ2 : α → β → Env} {o : τ × Nat} (Rs : τ → List Res) (Rs2 : τ → α → β → List Res) (js : List Code) (pi : List Nat) (yb : τ → α → β → Option (Bool × (τ × Nat))) (t0 : τ)
    (hrd : C.rd = none) (hfY : FnY C.P f sa sb caps F) (hbod : bodied C.P f) (hrun : F (yOf yb) (t0, 0) = some o)
    (ht : look Γ t = some (.d (sClo f caps))) (hΓ : Sub Γ' Γ) (hids : subB (C.pi ++ usedE Γ') pi = true) (hps : Nat.beq p1 p2 = false) (hp : Nat.ble (max p1 p2 + 1) C.N = true)
    (hA : ∀ X H0 w0 l pv s a b, WP ⟨C.P, C.N, X, H0, w0, some l, pi, pv, []⟩ assign (QA ⟨C.P, C.N, X, H0, w0, some l, pi, pv, []⟩ (Γ2 a b) (Rs2 s a b)) ((p1, .d (sa a)) :: (p2, .d (sb b)) :: Γ') (Rs s))
    (hB : ∀ X H0 w0 l pv s a b o, yb s a b = some o → WP ⟨C.P, C.N, X, H0, w0, some l, pi, pv, []⟩ body (RB ⟨C.P, C.N, X, H0, w0, some l, pi, pv, []⟩ Rs js o) (Γ2 a b) (Rs2 s a b))
    (hK : JP C Q Γ' (Rs o.1) (jOf js o.2)) : WP C (.rangeFunc (.tmp t) #[p1, p2] assign body) Q Γ (Rs t0) := by
  intro g w a s
  have hne : p1 ≠ p2 := fun e => by subst e; simp [Nat.beq_refl] at hps
  have hpN := Nat.le_of_ble_eq_true hp
  have hpi := subB_spec hids
  refine wpIn_rangeFunc fun fn _ => ?_
  -- the record
  let r0 := w.heap.size
  let l := r0 + 1
  let rec0 : Loop := { state := .ready, pending := none, fn, tmps := a.tmps, params := #[p1, p2], assign, body, defers := r0 }
  let w1 := (w.alloc (.deferred (some []))).alloc (.loop rec0)
  have he : (Instr.enterLoop fn a.tmps #[p1, p2] assign body (FR C.rd).round).run C.P w = .ok (l, [mark r0]) w1 := by
    rw [hrd]; exact run_enterLoop_outer fn a.tmps #[p1, p2] assign body
  obtain ⟨cs, ev, hcs⟩ := s.sat t _ ht
  have ev : a.eval (.tmp t) = .func (.func f) #[] cs.toArray := by
    have : a.eval (.tmp t) = a.tmps.getD t undef := rfl
    rw [this]; exact ev
  have hsz1 : w1.heap.size = w.heap.size + 2 := by simp [w1]
  have hold : ∀ b, b < w.heap.size → w1.heap[b]? = w.heap[b]? := fun b hb => (Below.heap_alloc _ _ b (by simp; omega)).trans (Below.heap_alloc w _ b hb)
  have hl1 : w1.heap[l]? = some (.loop rec0) := by
    have := heap_new (w.alloc (.deferred (some []))) (.loop rec0)
    simpa [w1, l, r0] using this
  have hr1 : w1.heap[r0]? = some (.deferred (some [])) := (Below.heap_alloc _ _ r0 (by simp [r0])).trans (heap_new w _)
  have hk1 : Keep C.X C.H0 C.w0 g.H w1 := keep_alloc (keep_alloc s.keep _) _
  obtain ⟨bs, hbs⟩ := all_blocks s.own.ok
  have hat : ∀ b ∈ bs, g.H b = none ∧ b < w.heap.size ∧ (C.X b ∨ C.w0.heap.size ≤ b) := fun b hb => let ⟨r, hr, e⟩ := (hbs b).1 hb; s.own.at_ r hr b e
  have hHr : g.H r0 = none := s.keep.agree.none (Nat.le_refl _)
  have hHl : g.H l = none := s.keep.agree.none (by simp [l, r0])
  have hp0 : (rAbs Rs js pi g.nm l rec0).p (t0, 0) g.H w1 (l :: bs) := by
    refine ⟨⟨g, rfl, fun _ _ => rfl, fun r hr => Res.ok_mono (G.le.refl g) (by omega) (fun b e => hold b (s.own.at_ r hr b e).2.1) (s.own.ok r hr), s.own.apart, fun r hr b e => ⟨List.mem_cons_of_mem _ ((hbs b).2 ⟨r, hr, e⟩), ?_⟩⟩, List.mem_cons_self .., hl1⟩
    have := (s.own.at_ r hr b e).2.1
    show b ≠ r0 + 1
    omega
  have hfr : Free g.H w1 (l :: bs) := by
    intro b hb
    rcases List.mem_cons.1 hb with rfl | hb
    · exact ⟨hHl, by rw [hsz1]; simp [l, r0]⟩
    · exact ⟨(hat b hb).1, by have := (hat b hb).2.1; omega⟩
  obtain ⟨fnc, hfn, hb'⟩ := Option.map_eq_some_iff.1 hbod
  simp only [Bool.and_eq_true, Bool.not_eq_true', beq_eq_false_iff_ne, ne_eq] at hb'
  have hc : ∀ as : Array Value, (callFunc f as).run C.P w1 = .ok (.enter f as) w1 := by
    intro as
    have hbn : fnc.body.isNone = false := by simpa using hb'.1
    simp only [callFunc, program, Sem.run_bind, Sem.run, Sem.run_pure', Result.andThen_ok, hfn]
    rw [if_neg (by simpa using hb'.2), if_neg (by simp [hbn])]
    rfl
  refine ⟨l, [mark r0], w1, { target := .fn (.func f) cs.toArray, args := #[.func (.yield l) #[] #[]] }, w1, f, (.func (.yield l) #[] #[] :: cs).toArray, w1, he, ?_, fun _ _ => trivial, ?_, fun e => by simp [FR, Fence.wide] at e, ?_⟩
  · simp only [resolve, ev, Deferred.ofValue, Sem.run_bind, Sem.run_pure, Result.andThen_ok]
    simp [Act.eval]
  · simp only [invoke, Sem.run_bind, Sem.run_pure, Result.andThen_ok]
    refine (hc _).trans ?_
    simp
  · refine calls_FR.2 ((hfY _ (rAbs Rs js pi g.nm l rec0) (yOf yb) (t0, 0) o hrun g.H w1 (l :: bs) _ hk1.agree ⟨_, _, rfl, ⟨l, rfl, ?_⟩, hcs⟩ hp0 hfr).mono ?_)
    · exact round_ok (rec := rec0) (Γ := Γ') rfl hne (by omega) (by omega) s.size (fun u e hu => s.sat u e (hΓ.mem _ (look_of_mem_nodup hu))) (fun u e hu i hi => hpi i (List.mem_append_right _ (Ent.ids_mem hu hi))) (fun _ _ => rfl)
        (fun X H0 w0 s a b => hA X H0 w0 l g.nm s a b) (fun X H0 w0 s a b o h => hB X H0 w0 l g.nm s a b o h)
    · rintro e w2 ⟨v, H2, rfl, bs2, k2, ⟨⟨gb, rfl, q1, q2, q3, q4⟩, hl2, hrec2⟩, hfr2⟩
      have hnb : (recOf rec0 js o.2).state ≠ .busy := by unfold recOf; split <;> simp
      refine ⟨_, _, run_endLoop hrec2 hnb, ?_⟩
      generalize hlast : ({ recOf rec0 js o.2 with state := .exhausted } : Loop) = last
      have hlk : l < w2.heap.size := (hfr2 l hl2).2.1
      have hsz2 : (w2.putObj l (.loop last)).heap.size = w2.heap.size := World.putObj_size
      have hs12 : w1.heap.size ≤ w2.heap.size := k2.size
      have hw0 : C.w0.heap.size ≤ w.heap.size := s.keep.size
      have k02 : Keep C.X C.H0 C.w0 gb.H w2 := hk1.step k2 (fun i hi => by
        rcases List.mem_cons.1 hi with rfl | hi
        · exact .inr (by simp [l, r0]; omega)
        · exact (hat i hi).2.2)
      have hB2 : ∀ r ∈ Rs o.1, ∀ b, r.block gb b → gb.H b = none ∧ b < w2.heap.size ∧ (C.X b ∨ C.w0.heap.size ≤ b) ∧ b ≠ l ∧ b ≠ r0 := by
        intro r hr b e
        obtain ⟨m1, m2⟩ := q4 r hr b e
        obtain ⟨z1, z2, z3⟩ := hfr2 b m1
        refine ⟨z1, z2, ?_, m2, ?_⟩
        · rcases z3 with z3 | z3
          · rcases List.mem_cons.1 z3 with rfl | z3
            · exact absurd rfl m2
            · exact (hat b z3).2.2
          · exact .inr (by omega)
        · rcases z3 with z3 | z3
          · rcases List.mem_cons.1 z3 with rfl | z3
            · exact absurd rfl m2
            · have := (hat b z3).2.1
              omega
          · omega
      have hrl : r0 ≠ l := by simp [l]
      have hr0b : r0 ∉ l :: bs := fun hm => by
        rcases List.mem_cons.1 hm with h | h
        · exact hrl h
        · exact absurd (hat r0 h).2.1 (by simp [r0])
      have s' : St C Γ' (Rs o.1) gb (w2.putObj l (.loop last)) { a with defers := [mark r0] ++ a.defers } := by
        refine ⟨s.size, ?_, keep_putObj _ k02 (.inr (by simp [l, r0]; omega)) (hfr2 l hl2).1, fun u e hu => ?_, ⟨fun r hr => Res.ok_mono (G.le.refl gb) (Nat.le_of_eq hsz2.symm) (fun b e => World.putObj_heap_other (hB2 r hr b e).2.2.2.1) (q2 r hr), fun r hr b e => ?_, q3⟩, fun i hi => ?_⟩
        · obtain ⟨rs, e, hnd, hq⟩ := s.defers
          have hBw : C.B ≤ w.heap.size := by unfold Cx.B; rw [hrd]; exact hw0
          refine ⟨r0 :: rs, by rw [e]; rfl, List.nodup_cons.2 ⟨fun hm => ?_, hnd⟩, fun q hm => ?_⟩
          · have := (Array.getElem?_eq_some_iff.1 (hq r0 hm).1).1
            simp [r0] at this
          · rcases List.mem_cons.1 hm with rfl | hm
            · refine ⟨(World.putObj_heap_other hrl).trans ((k2.block r0 (by rw [hsz1]; simp [r0]) hr0b).trans hr1), ?_, hBw, fun r hr e => (hB2 r hr _ e).2.2.2.2 rfl⟩
              exact (k2.old r0 (by rw [hsz1]; simp [r0]) (fun h => absurd h hr0b)).trans hHr
            · obtain ⟨z1, z2, z3, z4⟩ := hq q hm
              have hqw : q < w.heap.size := (Array.getElem?_eq_some_iff.1 z1).1
              have hqb : q ∉ l :: bs := fun h => by
                rcases List.mem_cons.1 h with h | h
                · simp [l, r0] at h; omega
                · obtain ⟨r, hr, e⟩ := (hbs q).1 h
                  exact z4 r hr e
              refine ⟨(World.putObj_heap_other (fun e => hqb (by rw [e]; exact List.mem_cons_self ..))).trans ((k2.block q (by omega) hqb).trans ((hold q hqw).trans z1)), (k2.old q (by omega) (fun h => absurd h hqb)).trans z2, z3, fun r hr e => ?_⟩
              obtain ⟨m1, m2⟩ := q4 r hr q e
              rcases (hfr2 q m1).2.2 with h | h
              · exact hqb h
              · omega
        · exact Ent.move (s.sat u e (hΓ.mem _ (look_of_mem_nodup hu))) (k2.le hk1.agree) (fun i hi => q1 i (hpi i (List.mem_append_right _ (Ent.ids_mem hu hi))))
        · obtain ⟨z1, z2, z3, _⟩ := hB2 r hr b e
          exact ⟨z1, by rw [hsz2]; exact z2, z3⟩
        · exact (q1 i (hpi i (List.mem_append_left _ hi))).trans (s.pin i hi)
      show (match jOf js o.2 with | none => _ | some c => _)
      revert hK
      cases jOf js o.2 with
      | none => exact fun hK => hK gb _ _ s'
      | some c =>
        intro hK
        cases c with
        | ret => exact wpIn_ret (hK gb _ _ s')
        | exit i => exact wpIn_exit (hK gb _ _ s')
        | _ => exact hK.elim
end Go.Proofs.YtmegdednaimgcaaDoor.Ab
