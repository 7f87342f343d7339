import Derived.Test.YtmegdednaimgcaaDoorAb12
set_option linter.unusedVariables false
set_option linter.unusedSimpArgs false
namespace Go.Proofs.YtmegdednaimgcaaDoor.Ab
open Go Go.RowKit
section
variable {P : Program} {x y z : Operand} {i j k3 : Env} {dst : Option Nat} {T T' ty : TypeId} {pos : String} {af : Array Edge} {gd : Option (Nat × Bool)} {R : List Res}
def kN (α : Type) : Kd (List α) := ⟨1, false, fun _ cs x => cs = [.slice none 0 0] ∧ x = [], fun _ h => h, fun h => by rw [h.1]; rfl, fun h c hc => by rw [h.1] at hc; simp at hc; subst hc; rfl, fun _ => rfl⟩
theorem zN {α : Type} (H : FH) : (kN α).reps H [.slice none 0 0] [] := ⟨rfl, rfl⟩
end
section
variable {C : Cx} {Q : Exit → Act → World → Prop} {Γ Γ' : Env} {R R' : List Res}
theorem leafs_swap : ∀ {ls : List Leaf} {g : G} {cs : List Value} {k : Nat} {l l' : Leaf}, ls[k]? = some l → (∀ cs, l.ok g cs → l'.ok g cs) → leafs ls g cs → leafs (ls.set k l') g cs
  | [], _, _, _, _, _, h, _, _ => by simp at h
  | l0 :: ls, g, cs, 0, l, l', h, hl, ⟨c1, c2, e, h1, h2⟩ => by simp at h; subst h; exact ⟨c1, c2, e, hl c1 h1, h2⟩
  | l0 :: ls, g, cs, k + 1, l, l', h, hl, ⟨c1, c2, e, h1, h2⟩ => ⟨c1, c2, e, h1, leafs_swap (k := k) (by simpa using h) hl h2⟩
theorem Own.swap {X : Nat → Prop} {B : Nat} {g : G} {w : World} {n : Nat} {id : Nat} {T : TypeId} {ls : List Leaf} {k : Nat} {l l' : Leaf} (h : Own X B g w R) (hr : R[n]? = some (.box id T ls)) (hk : ls[k]? = some l) (hl : ∀ cs, l.ok g cs → l'.ok g cs) : Own X B g w (R.set n (.box id T (ls.set k l'))) := by
  obtain ⟨b, cs, hb, hh, hlf⟩ := h.get hr
  have hblk : (Res.box id T ls).block g b := by simp only [Res.block, hb]
  refine h.put hr (G.le.refl g) (Nat.le_refl _) (fun _ _ _ _ => rfl) (fun _ _ e _ => e) ⟨b, cs, hb, hh, leafs_swap hk hl hlf⟩ ?_
  intro b' e
  have : b' = b := by simp only [Res.block, hb, Option.some.injEq] at e; exact e.symm
  subst this
  obtain ⟨h1, h2, h3⟩ := h.at_ _ (List.mem_of_getElem? hr) b' hblk
  exact ⟨h1, h2, h3, .inl hblk⟩
theorem dfr_swap {D : List Deferred} {B : Nat} {g : G} {w : World} {n : Nat} {id : Nat} {T : TypeId} {ls ls' : List Leaf} {ds : List Deferred} (hD : Dfr D B g w R ds) (hr : R[n]? = some (.box id T ls)) : Dfr D B g w (R.set n (.box id T ls')) ds := by
  obtain ⟨rs, e, hnd, hq⟩ := hD
  refine ⟨rs, e, hnd, fun q hm => ?_⟩
  obtain ⟨h1, h2, h3, h4⟩ := hq q hm
  refine ⟨h1, h2, h3, fun s hs e' => ?_⟩
  rcases List.mem_or_eq_of_mem_set hs with hs | rfl
  · exact h4 s hs e'
  · exact h4 _ (List.mem_of_getElem? hr) e'
theorem wNilL {α : Type} (d : Kd α) (E : TypeId) (id : Nat) {c : Code} {n k bid : Nat} {T : TypeId} {ls : List Leaf} {u : List α} (hr : R[n]? = some (.box bid T ls)) (hk : ls[k]? = some (.d (kN α) u)) (hf : memB id (C.pi ++ used Γ R) = false) (h : WP C c Q Γ (.row id E d u :: R.set n (.box bid T (ls.set k (.v id))))) : WP C c Q Γ R := by
  intro g w a s
  have s' := s.only
  have hid : (g.only (C.pi ++ used Γ R)).nm id = none := only_none (fun hm => by rw [memB_iff.2 hm] at hf; cases hf)
  have hle : G.le (g.only (C.pi ++ used Γ R)) ((g.only (C.pi ++ used Γ R)).name id (.slice none 0 0)) := name_le hid
  have ho := s'.own.mono hle (Nat.le_refl _) (fun _ _ _ => rfl) (fun _ _ e => e)
  obtain ⟨b, cs, hb, hh, hlf⟩ := s'.own.get hr
  have hu : u = [] := (leafs_at hk hlf).2
  subst hu
  have ho2 := ho.swap (l' := .v id) hr hk (fun cs hc => ⟨.slice none 0 0, name_get .., hc.1, rfl⟩)
  refine h ((g.only (C.pi ++ used Γ R)).name id (.slice none 0 0)) w a ⟨s.size, dfr_swap (n := n + 1) (R := .row id E d [] :: R) (dfr_name s'.own s'.defers hle (fun b e => by simp only [Res.block, name_get, Option.bind_some] at e; cases e)) hr, s'.keep, s'.sat.mono hle, ?_, fun i hi => pin_name s' hid hi (fun hm => by rw [memB_iff.2 (List.mem_append_left _ hm)] at hf; cases hf)⟩
  refine Own.add ho2 ⟨.slice none 0 0, [], name_get .., ⟨by simp, .inl ⟨rfl, rfl⟩⟩, ⟨by simp, by simp⟩, by simp⟩ ?_
  intro b e
  simp only [Res.block, name_get, Option.bind_some] at e
  cases e
end
end Go.Proofs.YtmegdednaimgcaaDoor.Ab
