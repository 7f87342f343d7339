import Derived.Test.YtkcpghpglhamfaaGreatDoorAb29
set_option linter.unusedVariables false
set_option linter.unusedSimpArgs false
namespace Go.Proofs.YtkcpghpglhamfaaGreatDoor.Ab
open Go Go.RowKit
def u8s (s : Str) : List Int := s.map fun b => ((b.toNat : Nat) : Int)
theorem row_u8s {H : FH} (s : Str) : RowOf (kI .u8) H (s.map fun b => Value.int .u8 b.toNat) (u8s s) := by
  refine ⟨by simp [kI, u8s], fun j x e => ?_⟩
  unfold u8s at e
  rw [List.getElem?_map] at e
  obtain ⟨b, hb, rfl⟩ := Option.map_eq_some_iff.1 e
  have hj : j < s.length := (List.getElem?_eq_some_iff.1 hb).1
  have h1 : (kI .u8).sz = 1 := rfl
  rw [h1, Nat.mul_one]
  have : ((s.map fun b => Value.int .u8 b.toNat).drop j).take 1 = [Value.int .u8 b.toNat] := by
    rw [List.drop_eq_getElem_cons (by simpa using hj)]
    simp only [List.take_succ_cons, List.take_zero, List.getElem_map]
    rw [(List.getElem?_eq_some_iff.1 hb).2]
  rw [this]
  refine ⟨rfl, ?_, ?_⟩
  · show (0 : Int) ≤ _
    omega
  · show ((b.toNat : Nat) : Int) ≤ 255
    have := b.toNat_lt
    omega
section
variable {P : Program} {x y : Operand} {i j : Env} {dst : Option Nat} {ty : TypeId} {pos : String} {af : Array Edge} {gd : Option (Nat × Bool)} {R : List Res}
theorem run_s2b {w : World} {S D E : TypeId} (hS : P.underlying S = some .string) (hD : P.underlying D = some (.slice E)) (hE : P.underlying E = some (.int .u8)) (s : Str) (h : s.length ≤ big) :
    ∃ c ob, (convert S D (.string ⟨⟨s⟩⟩)).run P w = .ok (.slice (some ⟨w.heap.size, 0, none⟩) s.length c) ((w.drew.alloc ob)) ∧ s.length ≤ c ∧ c ≤ 9223372036854775807 ∧ ∃ cells fr, ob = .cells cells E fr ∧ cells.toList.take s.length = s.map fun b => Value.int .u8 b.toNat := by
  let cap := grownCap w s.length 0 E
  have hge : s.length ≤ cap := grownCap_ge w s.length 0 E
  have hle : cap ≤ maxLen := grownCap_le_maxLen w s.length 0 E (by unfold maxLen; unfold big at h; omega)
  let arr : Array Value := (s.toArray.map fun b => Value.int .u8 b.toNat) ++ Array.replicate (cap - s.length) (.int .u8 0)
  refine ⟨cap, .cells arr E (arr.size, arr.size + 1), ?_, hge, by unfold maxLen at hle; omega, arr, _, rfl, ?_⟩
  · have hf : (w.drew.alloc (.cells arr E)).freeze ⟨w.heap.size, arr.size, none⟩ 1 = w.drew.alloc (.cells arr E (arr.size, arr.size + 1)) := by
      have hm : ∀ (o : Obj) (f : Obj → Obj), (w.heap.push o).modify w.heap.size f = w.heap.push (f o) := by
        intro o f
        apply Array.ext (by simp)
        intro i h1 h2
        rw [Array.getElem_modify]
        by_cases hi : w.heap.size = i
        · subst hi; simp
        · have : i < w.heap.size := by simp at h2; omega
          simp [Array.getElem_push, hi, this]
      unfold World.freeze
      rw [if_neg (by decide)]
      show ({ heap := (w.heap.push (.cells arr E (0, 0))).modify w.heap.size _, tape := w.tape, drawn := w.drawn + 1, os := w.os, output := w.output } : World) = { heap := w.heap.push (.cells arr E (arr.size, arr.size + 1)), tape := w.tape, drawn := w.drawn + 1, os := w.os, output := w.output }
      rw [hm]
      rfl
    have hq : (Question.appendCap s.length 0 E).forced = false := rfl
    have hs : (⟨⟨s⟩⟩ : ByteArray).size = s.length := rfl
    have hsh : (w.drew.alloc (.cells arr E)).shape? w.heap.size = some (E, arr.size) := by
      have : (w.drew.alloc (.cells arr E)).heap[w.heap.size]? = some (.cells arr E (0, 0)) := heap_new w.drew _
      unfold World.shape?; rw [this]
    simp [convert, run_underlying hS, run_underlying hD, run_underlying hE, Conv.stringToBytes, newRow, newObj, markStringish, hq, hs]
    have harr : ((List.map (fun b => Value.int IntKind.u8 ↑b.toNat) s).toArray ++ Array.replicate ((Question.appendCap s.length 0 E).cut (w.tape w.drawn (Question.appendCap s.length 0 E)) - s.length) (Value.int IntKind.u8 0)) = arr := by
      show _ = (s.toArray.map fun b : UInt8 => Value.int .u8 b.toNat) ++ Array.replicate (grownCap w s.length 0 E - s.length) (Value.int .u8 0)
      simp [grownCap]
    rw [harr]
    have hn : (Sem.run P (Sem.new (Obj.cells arr E) Sem.pure) w.drew) = .ok w.heap.size (w.drew.alloc (.cells arr E)) := rfl
    rw [hn]
    simp only [Result.andThen_ok, hsh]
    have hfz : (Sem.run P (freeze { block := w.heap.size, off := arr.size } 1) (w.drew.alloc (.cells arr E))) = .ok () (w.drew.alloc (Obj.cells arr E (arr.size, arr.size + 1))) := by
      rw [← hf]; rfl
    rw [hfz]
    rfl
  · show ((s.toArray.map fun b : UInt8 => Value.int .u8 b.toNat) ++ Array.replicate (cap - s.length) (Value.int .u8 0)).toList.take s.length = _
    simp only [Array.toList_append, Array.toList_map]
    exact List.take_left' (by simp)
theorem oS2B {S D E : TypeId} {s : Str} (hS : P.underlying S = some .string) (hD : P.underlying D = some (.slice E)) (hE : P.underlying E = some (.int .u8)) (hb : s.length ≤ big) (h : Opd x (.d (kS.sig s)) i) :
    OkP P ⟨dst, .convert S D x, ty, pos, af, gd⟩ i (.d ((kL (kI .u8)).sig (u8s s))) := by
  intro g w a K Q hA hi hK
  obtain ⟨ex, _⟩ := kS_sig.1 (h g a hi)
  obtain ⟨c, ob, hr, hc1, hc2, cells, fr, rfl, hcs⟩ := run_s2b (P := P) (w := w) hS hD hE s hb
  unfold Oper.wp
  rw [show (execOp a.eval ⟨dst, .convert S D x, ty, pos, af, gd⟩).run P w = .ok (.value (.slice (some ⟨w.heap.size, 0, none⟩) s.length c)) (w.drew.alloc (.cells cells E fr)) by
    simp only [execOp, ex, Sem.run_bind, hr, Result.andThen_ok, Sem.run_pure]]
  let H' : FH := fun b => if b = w.heap.size then some (.cells cells E fr) else g.H b
  have hle : FH.le g.H H' := fun b o' e => by
    have := hA.lt e
    show (if b = w.heap.size then some _ else g.H b) = some o'
    rw [if_neg (by omega)]; exact e
  have hold : ∀ b, b < w.heap.size → (w.drew.alloc (.cells cells E fr)).heap[b]? = w.heap[b]? := fun b hb => Below.heap_alloc w.drew _ b hb
  have hl : (u8s s).length = s.length := by simp [u8s]
  refine hK _ H' _ ⟨rfl, rfl, rfl, by show w.heap.size ≤ (w.heap.push _).size; simp, fun b hb _ => hold b hb, fun b hb _ => ?_, ⟨hA.base.mono hle, fun b o' e => ?_⟩⟩ (kL_sig.2 ⟨_, c, by rw [hl], by rw [hl]; exact hc1, hc2, by rw [hl]; exact hb, .inr ⟨w.heap.size, 0, cells, E, fr, rfl, by simp [H'], ?_⟩⟩)
  · show (if b = w.heap.size then some _ else g.H b) = g.H b
    rw [if_neg (by omega)]
  · by_cases hb' : b = w.heap.size
    · subst hb'
      simp only [H', if_pos] at e
      cases e
      exact heap_new w.drew _
    · have e' : g.H b = some o' := by simpa [H', hb'] using e
      exact (hold b (hA.lt e')).trans (hA b o' e')
  · rw [List.drop_zero, hl]
    show RowOf (kI .u8) H' (cells.toList.take (s.length * 1)) (u8s s)
    rw [Nat.mul_one, hcs]
    exact row_u8s s
end

section
variable {P : Program} {x y : Operand} {i j : Env} {dst : Option Nat} {T ty : TypeId} {pos : String} {af : Array Edge} {gd : Option (Nat × Bool)} {R : List Res}
end
end Go.Proofs.YtkcpghpglhamfaaGreatDoor.Ab
