import Derived.Test.YtkcpghpglhamfaaGreatDoorAb5
set_option linter.unusedVariables false
set_option linter.unusedSimpArgs false
namespace Go.Proofs.YtkcpghpglhamfaaGreatDoor.Ab
open Go Go.RowKit

def memB (n : Nat) : List Nat → Bool
  | [] => false
  | m :: r => match Nat.beq n m with | true => true | false => memB n r
def nodupB : List Nat → Bool
  | [] => true
  | m :: r => match memB m r with | true => false | false => nodupB r
def fitB (N : Nat) : List Oper → Bool
  | [] => true
  | o :: r => match o.dst with
    | some d => match Nat.ble (d + 1) N with | true => (match noDefer o.op with | true => fitB N r | false => false) | false => false
    | none => match noDefer o.op with | true => fitB N r | false => false
def freshB (L : List Nat) : List Nat → Bool
  | [] => true
  | m :: r => match memB m L with | true => false | false => freshB L r
def chkB (C : Cx) (l : List Oper) (es : List En) (Γ : Env) (R : List Res) : Bool := match fitB C.N l with
  | true => match nids es with
    | [] => true
    | n :: r => match nodupB (n :: r) with | true => freshB (C.pi ++ used Γ R) (n :: r) | false => false
  | false => false
theorem memB_iff {n : Nat} : ∀ {l : List Nat}, memB n l = true ↔ n ∈ l
  | [] => by simp [memB]
  | m :: r => by
    unfold memB
    cases h : Nat.beq n m with
    | true => simp [Nat.eq_of_beq_eq_true h]
    | false =>
      have hne : n ≠ m := fun e => by subst e; simp [Nat.beq_refl] at h
      simp [memB_iff, hne]
theorem nodupB_spec : ∀ {l : List Nat}, nodupB l = true → l.Nodup
  | [], _ => List.nodup_nil
  | m :: r, h => by
    unfold nodupB at h
    cases hm : memB m r with
    | true => rw [hm] at h; cases h
    | false =>
      rw [hm] at h
      exact List.nodup_cons.2 (And.intro (fun hx => (by rw [memB_iff.2 hx] at hm; cases hm)) (nodupB_spec h))
theorem fitB_spec {N : Nat} : ∀ {l : List Oper}, fitB N l = true → fitsN N l = true
  | [], _ => rfl
  | o :: r, h => by
    unfold fitB at h
    unfold fitsN
    rw [List.all_cons, Bool.and_eq_true, Bool.and_eq_true]
    cases hn : noDefer o.op with
    | false => cases hd : o.dst with
      | none => rw [hd, hn] at h; cases h
      | some d =>
        rw [hd, hn] at h
        simp only at h
        split at h <;> cases h
    | true =>
      cases hd : o.dst with
      | none =>
        rw [hd, hn] at h
        exact ⟨⟨rfl, rfl⟩, fitB_spec h⟩
      | some d =>
        rw [hd, hn] at h
        simp only at h
        cases hb : Nat.ble (d + 1) N with
        | true => rw [hb] at h; exact ⟨⟨decide_eq_true (Nat.le_of_ble_eq_true hb), rfl⟩, fitB_spec h⟩
        | false => rw [hb] at h; cases h
theorem freshB_spec {L : List Nat} : ∀ {l : List Nat}, freshB L l = true → ∀ n ∈ l, n ∉ L
  | [], _, n, hn => by simp at hn
  | m :: r, h, n, hn => by
    unfold freshB at h
    cases hm : memB m L with
    | true => rw [hm] at h; cases h
    | false =>
      rw [hm] at h
      rcases List.mem_cons.1 hn with rfl | hn
      · exact fun hx => by rw [memB_iff.2 hx] at hm; cases hm
      · exact freshB_spec h n hn
theorem chkB_spec {C : Cx} {l : List Oper} {es : List En} {Γ : Env} {R : List Res} (h : chkB C l es Γ R = true) : fitsN C.N l = true ∧ (nids es).Nodup ∧ ∀ n ∈ nids es, n ∉ C.pi ++ used Γ R := by
  unfold chkB at h
  cases hf : fitB C.N l with
  | false => rw [hf] at h; cases h
  | true =>
    rw [hf] at h
    refine ⟨fitB_spec hf, ?_⟩
    cases hn : nids es with
    | nil => exact ⟨List.nodup_nil, fun n hn => by simp at hn⟩
    | cons n r =>
      rw [hn] at h
      simp only at h
      cases hd : nodupB (n :: r) with
      | false => rw [hd] at h; cases h
      | true => rw [hd] at h; exact ⟨nodupB_spec hd, freshB_spec h⟩
section
variable {C : Cx} {Q : Exit → Act → World → Prop} {Γ Γ' : Env} {R R' : List Res}
theorem rg {id : Nat} {l : List Oper} {es : List En} (hc : Chain C.rd C.P ⟨l⟩ l Γ R es Γ' R') (hk : chkB C l es Γ R = true) (h : Post C Q .normal Γ' R') : WP C (.region id ⟨l⟩ false) Q Γ R :=
  let ⟨a, b, c⟩ := chkB_spec hk; wRg rfl hc a b c h
theorem rgD {id : Nat} {l : List Oper} {es : List En} (hm : C.P.follows .mixedOrders = true) (hc : Chain C.rd C.P ⟨l⟩ l Γ R es Γ' R') (hk : chkB C l es Γ R = true) (hr : rgOk ⟨l⟩ (es.map (·.kind)) (es.map fun e => e.ins.map (·.1)) = true) (h : Post C Q .normal Γ' R') : WP C (.region id ⟨l⟩ true) Q Γ R :=
  let ⟨a, b, c⟩ := chkB_spec hk; wRgD hm rfl hc a b c hr h
theorem rgL {id : Nat} {l : List Oper} {es : List En} (hm : C.P.follows .mixedOrders = true) (hc : Chain C.rd C.P ⟨l⟩ l Γ R es Γ' R') (hk : chkB C l es Γ R = true) (hr : rgOk0 ⟨l⟩ (es.map (·.kind)) (es.map fun e => e.ins.map (·.1)) = true) (hl : lowOk (es.map (·.kind)) (es.map fun e => e.R.length) R.length = true) (h : Post C Q .normal Γ' R') : WP C (.region id ⟨l⟩ true) Q Γ R :=
  let ⟨a, b, c⟩ := chkB_spec hk; wRgL hm rfl hc a b c hr (lowOk_spec hl) h
end
section
variable {rd : Option Nat} {P : Program} {ops : Array Oper} {rest : List Oper} {Γ Γ' : Env} {R R' : List Res} {es : List En} {d : Nat} {op : Op} {ty : TypeId} {pos : String} {af : Array Edge} {out : Ent} {ins : Env}
theorem cp (h : OkP P ⟨some d, op, ty, pos, af, none⟩ ins out) (hs : Sub ins Γ) (k : Chain rd P ops rest ((d, out) :: Γ) R es Γ' R') : Chain rd P ops (⟨some d, op, ty, pos, af, none⟩ :: rest) Γ R (⟨.pure, ins, out, [], some d, R, R⟩ :: es) Γ' R' :=
  .cons (e := ⟨.pure, ins, out, [], some d, R, R⟩) (.pure rfl rfl h) hs k
theorem cg {j t : Nat} {b : Bool} (hj : (ops[j]?).bind (·.dst) = some t) (ht : look Γ t = some (.d (kB.sig b))) (h : OkP P ⟨some d, op, ty, pos, af, some (j, b)⟩ ins out) (hs : Sub ins Γ) (k : Chain rd P ops rest ((d, out) :: Γ) R es Γ' R') : Chain rd P ops (⟨some d, op, ty, pos, af, some (j, b)⟩ :: rest) Γ R (⟨.pure, (t, .d (kB.sig b)) ::  ins, out, [], some d, R, R⟩ :: es) Γ' R' :=
  .cons (e := ⟨.pure, (t, .d (kB.sig b)) ::  ins, out, [], some d, R, R⟩) (.pureG rfl rfl hj h) ⟨ht, hs⟩ k
theorem cs {j t : Nat} {b : Bool} (hj : (ops[j]?).bind (·.dst) = some t) (ht : look Γ t = some (.d (kB.sig (!b)))) (k : Chain rd P ops rest ((d, .d sU) :: Γ) R es Γ' R') : Chain rd P ops (⟨some d, op, ty, pos, af, some (j, b)⟩ :: rest) Γ R (⟨.skip, [(t, .d (kB.sig (!b)))], .d sU, [], some d, R, R⟩ :: es) Γ' R' :=
  .cons (e := ⟨.skip, [(t, .d (kB.sig (!b)))], .d sU, [], some d, R, R⟩) (.skip rfl rfl hj rfl) ⟨ht, trivial⟩ k
theorem csU {j t : Nat} {b : Bool} (hj : (ops[j]?).bind (·.dst) = some t) (ht : look Γ t = some (.d sU)) (k : Chain rd P ops rest ((d, .d sU) :: Γ) R es Γ' R') : Chain rd P ops (⟨some d, op, ty, pos, af, some (j, b)⟩ :: rest) Γ R (⟨.skip, [(t, .d sU)], .d sU, [], some d, R, R⟩ :: es) Γ' R' :=
  .cons (e := ⟨.skip, [(t, .d sU)], .d sU, [], some d, R, R⟩) (.skipU rfl rfl hj) ⟨ht, trivial⟩ k
theorem cr (h : Ok P ⟨some d, op, ty, pos, af, none⟩ ins R out none R) (hs : Sub ins Γ) (k : Chain rd P ops rest ((d, out) :: Γ) R es Γ' R') : Chain rd P ops (⟨some d, op, ty, pos, af, none⟩ :: rest) Γ R (⟨.read, ins, out, [], some d, R, R⟩ :: es) Γ' R' :=
  .cons (e := ⟨.read, ins, out, [], some d, R, R⟩) (.read rfl rfl h) hs k
theorem cw {nid : Option Nat} {R1 : List Res} (h : Ok P ⟨some d, op, ty, pos, af, none⟩ ins R out nid R1) (hs : Sub ins Γ) (k : Chain rd P ops rest ((d, out) :: Γ) R1 es Γ' R') : Chain rd P ops (⟨some d, op, ty, pos, af, none⟩ :: rest) Γ R (⟨.write, ins, out, nid.toList, some d, R, R1⟩ :: es) Γ' R' :=
  .cons (e := ⟨.write, ins, out, nid.toList, some d, R, R1⟩) (.write rfl rfl rfl h) hs k
theorem cl {R0 : List Res} (E : List Res) (hR : R = E ++ R0) (h : Ok P ⟨some d, op, ty, pos, af, none⟩ ins R0 out none R0) (hs : Sub ins Γ) (k : Chain rd P ops rest ((d, out) :: Γ) R es Γ' R') : Chain rd P ops (⟨some d, op, ty, pos, af, none⟩ :: rest) Γ R (⟨.low, ins, out, [], some d, R0, R0⟩ :: es) Γ' R' := by
  subst hR
  exact .low (e := ⟨.low, ins, out, [], some d, R0, R0⟩) (.low rfl rfl h) rfl hs k
theorem cn {id : Nat} {r : Res} (h : Ok P ⟨some d, op, ty, pos, af, none⟩ ins R out (some id) (r :: R)) (hs : Sub ins Γ) (k : Chain rd P ops rest ((d, out) :: Γ) (r :: R) es Γ' R') : Chain rd P ops (⟨some d, op, ty, pos, af, none⟩ :: rest) Γ R (⟨.new, ins, out, [id], some d, R, r :: R⟩ :: es) Γ' R' :=
  .cons (e := ⟨.new, ins, out, [id], some d, R, r :: R⟩) (.new rfl rfl h) hs k
theorem cwn {R1 : List Res} (h : Ok P ⟨none, op, ty, pos, af, none⟩ ins R out none R1) (hs : Sub ins Γ) (k : Chain rd P ops rest Γ R1 es Γ' R') : Chain rd P ops (⟨none, op, ty, pos, af, none⟩ :: rest) Γ R (⟨.write, ins, out, [], none, R, R1⟩ :: es) Γ' R' :=
  .cons (e := ⟨.write, ins, out, [], none, R, R1⟩) (.write rfl rfl rfl h) hs k
theorem cm {ns : List Nat} {R1 : List Res} (h : OkL rd P ⟨some d, op, ty, pos, af, none⟩ ins R out ns R1) (hs : Sub ins Γ) (k : Chain rd P ops rest ((d, out) :: Γ) R1 es Γ' R') : Chain rd P ops (⟨some d, op, ty, pos, af, none⟩ :: rest) Γ R (⟨.write, ins, out, ns, some d, R, R1⟩ :: es) Γ' R' :=
  .cons (e := ⟨.write, ins, out, ns, some d, R, R1⟩) (.many rfl rfl h) hs k
theorem crg {j t : Nat} {b : Bool} (hj : (ops[j]?).bind (·.dst) = some t) (ht : look Γ t = some (.d (kB.sig b))) (h : Ok P ⟨some d, op, ty, pos, af, some (j, b)⟩ ins R out none R) (hs : Sub ins Γ) (k : Chain rd P ops rest ((d, out) :: Γ) R es Γ' R') : Chain rd P ops (⟨some d, op, ty, pos, af, some (j, b)⟩ :: rest) Γ R (⟨.read, (t, .d (kB.sig b)) ::  ins, out, [], some d, R, R⟩ :: es) Γ' R' :=
  .cons (e := ⟨.read, (t, .d (kB.sig b)) ::  ins, out, [], some d, R, R⟩) (.readG rfl rfl hj h) ⟨ht, hs⟩ k
end
theorem bd {α β : Type} {x : Option α} {f : α → Option β} {r : β} (h : (x >>= f) = some r) : ∃ y, x = some y ∧ f y = some r := by
  cases x with
  | none => cases h
  | some y => exact ⟨y, rfl, h⟩
theorem ib {α : Type} {p : Prop} [Decidable p] {x : Option α} {r : α} (h : (if p then x else none) = some r) : p ∧ x = some r := by
  by_cases hp : p
  · rw [if_pos hp] at h; exact ⟨hp, h⟩
  · rw [if_neg hp] at h; cases h
theorem so {α : Type} {x r : α} (h : some x = some r) : x = r := Option.some.inj h
end Go.Proofs.YtkcpghpglhamfaaGreatDoor.Ab
