import Derived.Test.YtmegdednaimgcaaDoorAb13
set_option linter.unusedVariables false
set_option linter.unusedSimpArgs false
namespace Go.Proofs.YtmegdednaimgcaaDoor.Ab
open Go Go.RowKit
def rl1 {α ρ : Type} (d : Kd α) (e : Kd ρ) (f : α → Option ρ) : List Sig → Sig → Prop := fun ins out => ∃ a r, f a = some r ∧ ins = [d.sig a] ∧ out = e.sig r
theorem rl1i {α ρ : Type} {d : Kd α} {e : Kd ρ} {f : α → Option ρ} {a : α} {r : ρ} (h : f a = some r) : rl1 d e f [d.sig a] (e.sig r) := ⟨a, r, h, rfl, rfl⟩
theorem rl1e {α ρ : Type} {P : Program} {n : Nat} {caps : List Sig} {d : Kd α} {e : Kd ρ} {f : α → Option ρ} (k : ∀ {a : α} {r : ρ}, f a = some r → FnA P n ([d.sig a] ++ caps) (e.sig r)) : ∀ ins out, rl1 d e f ins out → FnA P n (ins ++ caps) out := by
  rintro ins out ⟨a, r, h, rfl, rfl⟩; exact k h
theorem rl1n {α ρ : Type} {P : Program} {n : Nat} {d : Kd α} {e : Kd ρ} {f : α → Option ρ} (k : ∀ {a : α} {r : ρ}, f a = some r → FnA P n [d.sig a] (e.sig r)) : ∀ ins out, rl1 d e f ins out → FnA P n ins out := by
  rintro ins out ⟨a, r, h, rfl, rfl⟩; exact k h
end Go.Proofs.YtmegdednaimgcaaDoor.Ab
