import Derived.Test.YtkmobcaobmchpaaGreatDoorAb18
import Derived.Lib.Join
import Derived.Lib.Bytealg
set_option linter.unusedVariables false
set_option linter.unusedSimpArgs false
namespace Go.Proofs.YtkmobcaobmchpaaGreatDoor.Ab
open Go Go.RowKit
def lib_IndexByte (s : Str) (c : Int) : Option Int := some (Lib.indexByte s c.toNat.toUInt8)
theorem indexByte_le : ∀ (s : List UInt8) (c : UInt8), -1 ≤ Lib.indexByte s c ∧ Lib.indexByte s c < s.length
  | [], c => by simp [Lib.indexByte]
  | b :: l, c => by
    have ih := indexByte_le l c
    unfold Lib.indexByte
    split
    · simp
      try omega
    · split
      · simp
        try omega
      · simp
        omega
theorem libIndexByte {P : Program} {f : FuncId} (h : ∀ (s : ByteArray) (c : Int) (w : World), Calls P f #[.string s, .int .u8 c] w fun e w' => e = .returned (.int .i64 (Lib.indexByte s.data.toList c.toNat.toUInt8)) ∧ w' = w)
    {s : Str} {c r : Int} (hr : lib_IndexByte s c = some r) : FnA P f [kS.sig s, (kI .u8).sig c] ((kI .i64).sig r) := by
  intro H w args hA ⟨v, vr, e1, h1, v2, vr2, e2, h2, e3⟩
  obtain ⟨e4, hlen⟩ := kS_sig.1 h1
  obtain ⟨e5, _⟩ := kI_sig.1 h2
  subst e3 e2 e1 e4 e5
  cases hr
  refine (h ⟨⟨s⟩⟩ c w).mono ?_
  rintro e w' ⟨rfl, rfl⟩
  have := indexByte_le s c.toNat.toUInt8
  show ∃ v H', Ending.returned (.int .i64 (Lib.indexByte s c.toNat.toUInt8)) = .returned v ∧ Keep No H w' H' w' ∧ ((kI .i64).sig (Lib.indexByte s c.toNat.toUInt8)).p H' v
  generalize Lib.indexByte s c.toNat.toUInt8 = z at *
  refine ⟨_, H, rfl, Keep.refl hA, kI_sig.2 ⟨rfl, ?_⟩⟩
  unfold InR IntKind.min IntKind.max; simp [IntKind.signed, IntKind.bits]; omega
end Go.Proofs.YtkmobcaobmchpaaGreatDoor.Ab
