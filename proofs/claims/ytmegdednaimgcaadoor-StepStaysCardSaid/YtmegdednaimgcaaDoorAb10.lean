import Derived.Test.YtmegdednaimgcaaDoorAb9
set_option linter.unusedVariables false
set_option linter.unusedSimpArgs false
namespace Go.Proofs.YtmegdednaimgcaaDoor.Ab
open Go Go.RowKit
section
variable {P : Program} {x y z : Operand} {i j k3 : Env} {dst : Option Nat} {T T' ty : TypeId} {pos : String} {af : Array Edge} {gd : Option (Nat × Bool)} {R : List Res}
theorem rowOf_drop {α : Type} {d : Kd α} {H : FH} {a : List Value} {xs : List α} (h : RowOf d H a xs) (n : Nat) : RowOf d H (a.drop (n * d.sz)) (xs.drop n) := by
  refine ⟨?_, fun j x hx => ?_⟩
  · rw [List.length_drop, List.length_drop, h.1, Nat.sub_mul]
  · rw [List.getElem?_drop] at hx
    rw [List.drop_drop, ← Nat.add_mul]
    exact h.2 (n + j) x hx
def lCut {α : Type} (xs : List α) (a b : Int) : List α := (xs.drop a.toNat).take (b.toNat - a.toNat)
theorem run_cut {α : Type} {d : Kd α} {xs : List α} {H : FH} {w : World} {A : Option Addr} {c : Nat} {E : TypeId} {lo hi : Int} {l h : Option Value} (hT : P.underlying T = some (.slice E)) (hE : sizeIs P E d.sz) (h0 : 0 ≤ lo) (h1 : lo ≤ hi) (h2 : hi ≤ xs.length)
    (hb : (Instr.sliceBounds true xs.length c l h none).run P w = .ok (lo.toNat, hi.toNat, c) w) (hc : xs.length ≤ c) (hcm : c ≤ 9223372036854775807) (hbig : xs.length ≤ big) (hs : SliceAt d H A xs) :
    ∃ v, (Instr.sliceAt T (.slice A xs.length c) l h none).run P w = .ok v w ∧ ((kL d).sig (lCut xs lo hi)).p H v := by
  refine ⟨.slice (if c = lo.toNat then A else A.map (·.add (lo.toNat * d.sz))) (hi.toNat - lo.toNat) (c - lo.toNat), ?_, kL_sig.2 ⟨if c = lo.toNat then A else A.map (·.add (lo.toNat * d.sz)), c - lo.toNat, ?_, ?_, ?_, ?_, ?_⟩⟩
  · simp only [Instr.sliceAt, Sem.run_bind, run_underlying hT, Result.andThen_ok, Instr.slice, hb, run_size hE, Sem.run_pure]
  · rw [show (lCut xs lo hi).length = hi.toNat - lo.toNat by unfold lCut; rw [List.length_take, List.length_drop]; omega]
  · unfold lCut; rw [List.length_take, List.length_drop]; omega
  · omega
  · unfold lCut; rw [List.length_take, List.length_drop]; omega
  · rcases Nat.eq_zero_or_pos (hi.toNat - lo.toNat) with hz | hz
    · left; unfold lCut; rw [hz]; rfl
    · rcases hs with rfl | ⟨b, off, cells, t, fr, rfl, hH, hr⟩
      · simp at h2; omega
      · right
        rw [if_neg (by omega)]
        refine ⟨b, off + lo.toNat * d.sz, cells, t, fr, by rw [Option.map_some, addr_add], hH, ?_⟩
        have := rowOf_take (rowOf_drop hr lo.toNat) (hi.toNat - lo.toNat)
        rw [List.drop_take, List.drop_drop, List.take_take] at this
        have hlen : (lCut xs lo hi).length = hi.toNat - lo.toNat := by unfold lCut; rw [List.length_take, List.length_drop]; omega
        rw [hlen]
        rwa [Nat.min_eq_left (by rw [← Nat.sub_mul]; exact Nat.mul_le_mul_right _ (by omega))] at this
theorem oCut {α : Type} {d : Kd α} {xs : List α} {a b : Int} {E : TypeId} (hT : P.underlying T = some (.slice E)) (hE : sizeIs P E d.sz) (h0 : 0 ≤ a) (h1 : a ≤ b) (h2 : b ≤ xs.length) (h : Opd x (.d ((kL d).sig xs)) i) (ha : Opd y (.d ((kI .i64).sig a)) j) (hb : Opd z (.d ((kI .i64).sig b)) k3) : OkP P ⟨dst, .slice T x (some y) (some z) none, ty, pos, af, gd⟩ (i ++ (j ++ k3)) (.d ((kL d).sig (lCut xs a b))) := okV fun g w ac hA hi => by
  obtain ⟨A, c, e1, q1, q2, q3, q4⟩ := kL_sig.1 (h g ac (satI_l hi))
  have e2 := (kI_sig.1 (ha g ac (satI_l (satI_r hi)))).1
  have e3 := (kI_sig.1 (hb g ac (satI_r (satI_r hi)))).1
  obtain ⟨v, hr, hv⟩ := run_cut (P := P) (T := T) (w := w) (l := some (.int .i64 a)) (h := some (.int .i64 b)) hT hE h0 h1 h2 (by
    simp only [Instr.sliceBounds, Sem.run_bind, Sem.run_pure, Result.andThen_ok, Option.isSome_none, Bool.false_eq_true, if_false, if_true]
    rw [run_sliceBound (by omega) (show b ≤ (c : Int) by omega), Result.andThen_ok, run_sliceBound h0 (show a ≤ (b.toNat : Int) by omega)]
    all_goals rfl) q1 q2 q3 q4
  exact ⟨v, by simp only [execOp, e1, Option.map_some, Option.map_none, e2, e3, Sem.run_bind, hr, Result.andThen_ok, Sem.run_pure], hv⟩
theorem oCutHi {α : Type} {d : Kd α} {xs : List α} {b : Int} {E : TypeId} (hT : P.underlying T = some (.slice E)) (hE : sizeIs P E d.sz) (h0 : 0 ≤ b) (h1 : b ≤ xs.length) (h : Opd x (.d ((kL d).sig xs)) i) (ha : Opd y (.d ((kI .i64).sig b)) j) : OkP P ⟨dst, .slice T x none (some y) none, ty, pos, af, gd⟩ (i ++ j) (.d ((kL d).sig (lCut xs 0 b))) := okV fun g w ac hA hi => by
  obtain ⟨A, c, e1, q1, q2, q3, q4⟩ := kL_sig.1 (h g ac (satI_l hi))
  have e2 := (kI_sig.1 (ha g ac (satI_r hi))).1
  obtain ⟨v, hr, hv⟩ := run_cut (P := P) (T := T) (w := w) (l := none) (h := some (.int .i64 b)) (lo := 0) hT hE (Int.le_refl _) h0 h1 (by
    simp only [Instr.sliceBounds, Sem.run_bind, Sem.run_pure, Result.andThen_ok, Option.isSome_none, Bool.false_eq_true, if_false, if_true]
    rw [run_sliceBound h0 (show b ≤ (c : Int) by omega), Result.andThen_ok]
    all_goals rfl) q1 q2 q3 q4
  exact ⟨v, by simp only [execOp, e1, Option.map_some, Option.map_none, e2, Sem.run_bind, hr, Result.andThen_ok, Sem.run_pure], hv⟩

theorem row_slice {w : World} {e : TypeId} {size n : Nat} {v : Value} {xs : List Value} (h : w.ownsRow 0 e size v n xs) : ∃ A c, v = .slice A n c ∧ n ≤ 9223372036854775807 := by
  rcases h.2 with ⟨rfl, rfl⟩ | ⟨g, cap, cur, rfl, _, _, h1, h2, _⟩
  · exact ⟨none, 0, rfl, by omega⟩
  · exact ⟨_, cap, rfl, by unfold maxLen at h2; omega⟩
theorem oLenR {α : Type} {d : Kd α} {xs : List α} {n id : Nat} {E E' : TypeId} {ts : Array TypeId} (hT : (ts[0]?).bind P.underlying = some (.slice E')) (hr : R[n]? = some (.row id E d xs)) (h : Opd x (.v id) i) : Ok P ⟨dst, .call ⟨.builtin .len, #[x], ts⟩, ty, pos, af, gd⟩ i R (.d ((kI .i64).sig (xs.length : Int))) none R := okR fun X B g w ac hA hs hown => by
  have ex : g.nm id = some (ac.eval x) := h g ac hs
  obtain ⟨v, cells, hv, hrow, hro, _⟩ := hown.get hr
  rw [ex] at hv; cases hv
  obtain ⟨A, c, e, hm⟩ := row_slice hrow
  obtain ⟨t, ht, hu⟩ := Option.bind_eq_some_iff.1 hT
  refine ⟨.int .i64 xs.length, ?_, kI_sig.2 ⟨rfl, small_inR hm⟩⟩
  simp only [execOp, resolve, invoke, builtin, Builtin.len_, Sem.run_bind, Sem.run_pure, Result.andThen_ok, List.map_toArray, List.map_cons, List.map_nil, e, ht, arr0]
  simp only [Sem.run_bind, run_underlying hu]
  rfl
theorem oIdxR {kk : IntKind} {α : Type} {d : Kd α} {xs : List α} {u : α} {m : Int} {n id : Nat} {E E' : TypeId} (hT : P.underlying T = some (.slice E')) (hE : sizeIs P E' d.sz) (hr : R[n]? = some (.row id E d xs)) (hu : lAt xs m = some u) (h : Opd x (.v id) i) (h' : Opd y (.d ((kI kk).sig m)) j) : Ok P ⟨dst, .indexAddr T x y, ty, pos, af, gd⟩ (i ++ j) R (.e id (m.toNat * d.sz)) none R := okR fun X B g w ac hA hs hown => by
  have ex : g.nm id = some (ac.eval x) := h g ac (satI_l hs)
  have e2 := (kI_sig.1 (h' g ac (satI_r hs))).1
  obtain ⟨v, cells, hv, hrow, hro, _⟩ := hown.get hr
  rw [ex] at hv; cases hv
  obtain ⟨h0, hlt, hget⟩ := lAt_lt hu
  rcases hrow.2 with ⟨e, hz⟩ | ⟨b, cap, cur, e, _⟩
  · omega
  · have hn : 0 ≤ m ∧ m < (xs.length : Int) := ⟨h0, by omega⟩
    refine ⟨.pointer (some ⟨b, m.toNat * d.sz, none⟩), ?_, b, xs.length, cap, by rw [ex, e], rfl⟩
    simp only [execOp, e, e2, Instr.indexAt, asIntOf, Sem.run_bind, Sem.run_pure, Result.andThen_ok, run_underlying hT, if_pos hn, run_size hE, addr_add, Nat.zero_add]
theorem row_cells {α : Type} {d : Kd α} {H : FH} {w : World} {b n cap : Nat} {e : TypeId} {cells : List Value} {xs : List α} {j : Nat} {u : α} (h : w.ownsRow 0 e d.sz (.slice (some ⟨b, 0, none⟩) n cap) xs.length cells) (hro : RowOf d H cells xs) (hj : xs[j]? = some u) :
    ∃ cur, w.heap[b]? = some (.cells cur e (0, 0)) ∧ d.reps H ((cur.toList.drop (j * d.sz)).take d.sz) u := by
  rcases h.2 with ⟨he, _⟩ | ⟨b', cap', cur, he, _, hh, _, _, _, htk⟩
  · cases he
  · cases he
    refine ⟨cur, hh, ?_⟩
    have := hro.2 j u hj
    rw [← htk, List.drop_take, List.take_take] at this
    have hlt : j < xs.length := (List.getElem?_eq_some_iff.1 hj).1
    have hle : j * d.sz + d.sz ≤ xs.length * d.sz := by rw [← Nat.succ_mul]; exact Nat.mul_le_mul_right _ hlt
    rwa [Nat.min_eq_left (by omega)] at this
theorem oLdE {α : Type} {d : Kd α} {xs : List α} {u : α} {n id off : Nat} {m : Int} {E : TypeId} (hr : R[n]? = some (.row id E d xs)) (hu : lAt xs m = some u) (ho : m.toNat * d.sz = off) (hi : tinf P T = some (d.agg, d.sz)) (h : Opd x (.e id off) i) : Ok P ⟨dst, .load T x, ty, pos, af, gd⟩ i R (.d (d.sig u)) none R := okR fun X B g w ac hA hs hown => by
  obtain ⟨b, nn, c, hb, e⟩ := h g ac hs
  obtain ⟨v, cells, hv, hrow, hro, _⟩ := hown.get hr
  rw [hb] at hv; cases hv
  have hnn : nn = xs.length := by
    rcases hrow.2 with ⟨he, _⟩ | ⟨_, _, _, he, _⟩
    · cases he
    · cases he; rfl
  subst hnn
  obtain ⟨cur, hh, hrep⟩ := row_cells hrow hro (lAt_lt hu).2.2
  subst ho
  exact ⟨mkv d.agg _, by simp only [execOp, e, Sem.run_bind, run_load hi d.one hh rfl (d.len hrep), Result.andThen_ok, Sem.run_pure], _, hrep, rfl⟩
theorem oCutR {α : Type} {d : Kd α} {xs : List α} {b : Int} {n id id' : Nat} {E E' : TypeId} (hT : P.underlying T = some (.slice E')) (hE : sizeIs P E' d.sz) (hr : R[n]? = some (.row id E d xs)) (h0 : 0 ≤ b) (h1 : b ≤ xs.length) (h : Opd x (.v id) i) (h' : Opd y (.d ((kI .i64).sig b)) j) : Ok P ⟨dst, .slice T x none (some y) none, ty, pos, af, gd⟩ (i ++ j) R (.v id') (some id') (R.set n (.row id' E d (xs.take b.toNat))) := by
  intro X H0 w0 g w a K Q hk hi ho hn hK
  have ex : g.nm id = some (a.eval x) := h g a (satI_l hi)
  have e2 := (kI_sig.1 (h' g a (satI_r hi))).1
  obtain ⟨v, cells, hv, hrow, hro, hbig⟩ := ho.get hr
  rw [ex] at hv; cases hv
  have hid' := hn id' rfl
  have hblk : ∀ b, (a.eval x).ownBlock = some b → (Res.row id E d xs).block g b := fun b e => by simp only [Res.block, ex]; exact e
  obtain ⟨v', hv1, hv2, hv3⟩ : ∃ v', (execOp a.eval ⟨dst, .slice T x none (some y) none, ty, pos, af, gd⟩).run P w = .ok (.value v') w ∧ w.ownsRow 0 E d.sz v' (xs.take b.toNat).length (cells.take (b.toNat * d.sz)) ∧ v'.ownBlock = (a.eval x).ownBlock := by
    have hlen : (xs.take b.toNat).length = b.toNat := by rw [List.length_take]; omega
    have hcl : (cells.take (b.toNat * d.sz)).length = b.toNat * d.sz := by rw [List.length_take, hro.1, Nat.min_eq_left (Nat.mul_le_mul_right _ (by omega))]
    rw [hlen]
    rcases hrow.2 with ⟨e, hz⟩ | ⟨g0, cap, cur, e, hb0, hh, hnc, hcm, hcs, htk⟩
    · have hb0 : b.toNat = 0 := by omega
      refine ⟨.slice none 0 0, ?_, ⟨hcl, .inl ⟨rfl, hb0⟩⟩, by rw [e]⟩
      simp only [execOp, e, Option.map_some, Option.map_none, e2, Instr.sliceAt, Sem.run_bind, run_underlying hT, Result.andThen_ok, Instr.slice, Instr.sliceBounds, Sem.run_pure, Option.isSome_none, Bool.false_eq_true, if_false, if_true]
      rw [run_sliceBound h0 (show b ≤ ((0 : Nat) : Int) by omega)]
      simp only [Result.andThen_ok, run_size hE, hb0]
      try rfl
    · refine ⟨.slice (some ⟨g0, 0, none⟩) b.toNat cap, ?_, ⟨hcl, .inr ⟨g0, cap, cur, rfl, hb0, hh, by omega, hcm, hcs, ?_⟩⟩, by rw [e]; rfl⟩
      · simp only [execOp, e, Option.map_some, Option.map_none, e2, Instr.sliceAt, Sem.run_bind, run_underlying hT, Result.andThen_ok, Instr.slice, Instr.sliceBounds, Sem.run_pure, Option.isSome_none, Bool.false_eq_true, if_false, if_true]
        rw [run_sliceBound h0 (show b ≤ (cap : Int) by omega)]
        simp only [Result.andThen_ok, run_size hE, Nat.zero_mul, Nat.sub_zero, Addr.add, if_pos, ite_self]
        try rfl
      · rw [← htk, List.take_take, Nat.min_eq_left (Nat.mul_le_mul_right _ (by omega))]
  have hle : G.le g (g.name id' v') := name_le hid'
  unfold Oper.wp
  rw [hv1]
  refine hK v' (g.name id' v') w hk hle (fun q e hq => by rw [name_ne (fun hqi => hq (by rw [hqi]))]; exact e) (name_get ..) ?_
  refine ho.put hr hle (Nat.le_refl _) (fun _ _ _ _ => rfl) (fun _ _ e _ => e) ⟨v', _, name_get .., hv2, rowOf_take hro _, by rw [List.length_take]; omega⟩ ?_
  intro q e
  have e' : v'.ownBlock = some q := by simpa only [Res.block, name_get, Option.bind_some] using e
  rw [hv3] at e'
  obtain ⟨q1, q2, q3⟩ := ho.at_ _ (List.mem_of_getElem? hr) q (hblk q e')
  exact ⟨q1, q2, q3, .inl (hblk q e')⟩
theorem oNilP {id o : Nat} (h : Opd x (.p id o) i) : OkP P ⟨dst, .nilCheck x, ty, pos, af, gd⟩ i (.p id o) := okV fun g w ac hA hs => by
  have hx := h g ac hs
  obtain ⟨b, hb, e⟩ := hx
  exact ⟨.pointer (some ⟨b, o, none⟩), by simp only [execOp, e]; rfl, b, hb, rfl⟩
inductive Prt (S : Type) : List (Fld S) → Nat → S → List (Nat × Operand) → List Value → Env → Prop where
  | nil {n : Nat} {u : S} : Prt S [] n u [] [] []
  | op {f : Fld S} {fs : List (Fld S)} {n : Nat} {u : S} {x : Operand} {ps : List (Nat × Operand)} {zs zc : List Value} {a b : Env} (h : Opd x (.d (f.d.sig (f.get u))) a) (hz : zc.length = f.d.sz) (k : Prt S fs (n + 1) u ps zs b) : Prt S (f :: fs) n u ((n, x) :: ps) (zc ++ zs) (a ++ b)
  | ze {f : Fld S} {fs : List (Fld S)} {n : Nat} {u : S} {ps : List (Nat × Operand)} {zs zc : List Value} {b : Env} (h : ∀ H, f.d.reps H zc (f.get u)) (k : Prt S fs (n + 1) u ps zs b) : Prt S (f :: fs) n u ps (zc ++ zs) b
theorem fold_set : ∀ (vs : List Value) (k off : Nat) (cells : Array Value), off + k + vs.length ≤ cells.size → ((vs.zipIdx k).foldl (fun cs (c, j) => cs.setIfInBounds (off + j) c) cells).toList = cells.toList.take (off + k) ++ vs ++ cells.toList.drop (off + k + vs.length)
  | [], k, off, cells, _ => by simp
  | v :: vs, k, off, cells, h => by
    simp only [List.length_cons] at h
    have hlt : off + k < cells.toList.length := by rw [Array.length_toList]; omega
    rw [List.zipIdx_cons, List.foldl_cons, fold_set vs (k + 1) off _ (by simp; omega), Array.toList_setIfInBounds, show off + (k + 1) = off + k + 1 by omega]
    rw [List.set_eq_take_append_cons_drop, if_pos hlt]
    have hl : (cells.toList.take (off + k)).length = off + k := by rw [List.length_take]; omega
    have h1 : (cells.toList.take (off + k) ++ v :: cells.toList.drop (off + k + 1)).take (off + k + 1) = cells.toList.take (off + k) ++ [v] := by
      rw [List.take_append, hl, List.take_of_length_le (by omega), show off + k + 1 - (off + k) = 1 by omega]; rfl
    have h2 : (cells.toList.take (off + k) ++ v :: cells.toList.drop (off + k + 1)).drop (off + k + 1 + vs.length) = cells.toList.drop (off + k + (vs.length + 1)) := by
      rw [List.drop_append, hl, List.drop_eq_nil_of_le (by omega), List.nil_append, show off + k + 1 + vs.length - (off + k) = vs.length + 1 by omega, List.drop_succ_cons, List.drop_drop]
      congr 1; omega
    rw [h1, h2]
    simp
theorem prt_fill {S : Type} {g : G} {a : Act} (place : Nat → Option (Nat × Nat)) : ∀ {fs : List (Fld S)} {n : Nat} {u : S} {ps : List (Nat × Operand)} {zs : List Value} {b : Env} (pre : List Value) (cells : Array Value), Prt S fs n u ps zs b → SatI b g a →
    cells.toList = pre ++ zs → (∀ q f, fs[q]? = some f → place (n + q) = some (pre.length + offF fs q, f.d.sz)) →
    ∃ cs, Instr.fill place cells (ps.map fun p => (p.1, a.eval p.2)) = some cs ∧ ∃ r, cs.toList = pre ++ r ∧ repsF fs g.H r u := by
  intro fs n u ps zs b pre cells hp
  induction hp generalizing pre cells with
  | nil => intro _ hc _; exact ⟨cells, rfl, [], by simpa using hc, rfl⟩
  | @op f fs n u x ps zs zc a0 b0 h hz k ih =>
    intro hi hc hpl
    obtain ⟨cs, hr, he⟩ := h g a (satI_l hi)
    have hlen := f.d.len hr
    have hcells : (a.eval x).cells = cs.toArray := by rw [he]; exact f.d.cells_mkv hr
    have hpl0 := hpl 0 f rfl
    rw [Nat.add_zero, offF, Nat.add_zero] at hpl0
    have hsz : cells.size = pre.length + (zc.length + zs.length) := by rw [← Array.length_toList, hc]; simp
    obtain ⟨cs', hf, r, hr', hrep⟩ := ih (pre ++ cs) (((a.eval x).cells.zipIdx.foldl (fun cs (c, j) => cs.setIfInBounds (pre.length + j) c) cells)) (satI_r hi) (by
      rw [hcells, ← Array.foldl_toList]
      have := fold_set cs 0 pre.length cells (by rw [hsz]; omega)
      simp only [Nat.add_zero] at this
      rw [show (cs.toArray.zipIdx).toList = cs.zipIdx 0 by simp]
      rw [this, hc, List.take_left, List.append_assoc, List.append_assoc, hlen, ← hz]
      rw [← List.append_assoc pre zc zs, show pre.length + zc.length = (pre ++ zc).length by simp, List.drop_left]) (by
      intro q f' hq
      have := hpl (q + 1) f' (by simpa using hq)
      rw [offF] at this
      rw [show n + 1 + q = n + (q + 1) by omega, this, List.length_append, hlen]
      congr 2
      omega)
    refine ⟨cs', ?_, cs ++ r, by rw [hr', List.append_assoc], cs, r, rfl, hr, hrep⟩
    rw [List.map_cons, Instr.fill, hpl0]
    simp only
    have hcs : (a.eval x).cells.size = f.d.sz := by rw [hcells, List.size_toArray, hlen]
    rw [if_neg (by rw [hcs]; simp; omega), hf]
  | @ze f fs n u ps zs zc b0 h k ih =>
    intro hi hc hpl
    have hlen := f.d.len (h g.H)
    obtain ⟨cs', hf, r, hr', hrep⟩ := ih (pre ++ zc) cells hi (by rw [hc, List.append_assoc]) (by
      intro q f' hq
      have := hpl (q + 1) f' (by simpa using hq)
      rw [offF] at this
      rw [show n + 1 + q = n + (q + 1) by omega, this, List.length_append, hlen]
      congr 2
      omega)
    exact ⟨cs', hf, zc ++ r, by rw [hr', List.append_assoc], zc, r, rfl, h g.H, hrep⟩
def places (P : Program) (T : TypeId) : Option (List (Nat × Nat)) := match P.underlying T with
  | some (.struct fs) => fs.toList.mapM fun f => (P.info? f.type).map fun i => (f.offset, i.size)
  | _ => none
theorem run_places {w : World} : ∀ (fs : List Field) (ps : List (Nat × Nat)), (fs.mapM fun f => (P.info? f.type).map fun i => (f.offset, i.size)) = some ps → (fs.mapM fun f => (do pure (f.offset, ← sizeOf f.type) : Sem (Nat × Nat))).run P w = .ok ps w
  | [], ps, h => by simp at h; subst h; simp
  | f :: fs, ps, h => by
    simp only [List.mapM_cons, bind, Option.bind_eq_some_iff, pure, Option.some.injEq, Option.map_eq_some_iff] at h
    obtain ⟨p, ⟨i, hi, rfl⟩, qs, hq, rfl⟩ := h
    have hs : (sizeOf f.type).run P w = .ok i.size w := run_size (by simp [sizeIs, hi])
    simp only [List.mapM_cons, Sem.run_bind, hs, Result.andThen_ok, Sem.run_pure, run_places fs qs hq]
theorem oBuild {S : Type} {fs : List (Fld S)} {u : S} {ps : List (Nat × Operand)} {pa : Array (Nat × Operand)} {zs : List Value} {pl : List (Nat × Nat)} (hpa : pa.toList = ps) (hz : zeroIs P T zs) (hpl : places P T = some pl) (hoff : ∀ q f, fs[q]? = some f → pl[q]? = some (offF fs q, f.d.sz)) (h : Prt S fs 0 u ps zs i) : OkP P ⟨dst, .build T pa, ty, pos, af, gd⟩ i (.d ((kR fs).sig u)) := okV fun g w a hA hi => by
  obtain ⟨z, hz1, hz2⟩ := Option.map_eq_some_iff.1 hz
  obtain ⟨inf, hi1, hi2⟩ := Option.bind_eq_some_iff.1 hz1
  obtain ⟨cs, hf, r, hr, hrep⟩ := prt_fill (g := g) (a := a) (fun q => pl.toArray[q]?) [] z.cells h hi (by rw [hz2]; rfl) (fun q f hq => by simpa using hoff q f hq)
  rw [List.nil_append] at hr
  subst hr
  refine ⟨.agg cs, ?_, cs.toList, hrep, by simp [mkv, kR]⟩
  have hzr : (zeroValue T).run P w = .ok z w := by
    simp only [zeroValue, typeInfo, program, Sem.run_bind, Sem.run, Sem.run_pure', Result.andThen_ok, hi1, Sem.run_pure, hi2]
  unfold places at hpl
  split at hpl
  · rename_i fields hu
    have hrp := run_places (P := P) (w := w) fields.toList pl hpl
    have hm : (fields.mapM fun f => (do pure (f.offset, ← sizeOf f.type) : Sem (Nat × Nat))).run P w = .ok pl.toArray w := by
      rw [← Array.toArray_toList (xs := fields), List.mapM_toArray]
      simp only [Sem.run_map, Sem.run_bind, Array.toArray_toList] at hrp ⊢
      rw [hrp]; rfl
    have hpm : (pa.map fun (x : Nat × Operand) => (x.1, a.eval x.2)).toList = ps.map fun p => (p.1, a.eval p.2) := by rw [Array.toList_map, hpa]
    simp only [execOp, Instr.build, Sem.run_bind, hzr, Result.andThen_ok, run_underlying hu, hm]
    rw [show (Array.map (fun x => match x with | (i, x) => (i, a.eval x)) pa).toList = ps.map fun p => (p.1, a.eval p.2) from hpm, hf]
    rfl
  · cases hpl
end
end Go.Proofs.YtmegdednaimgcaaDoor.Ab
