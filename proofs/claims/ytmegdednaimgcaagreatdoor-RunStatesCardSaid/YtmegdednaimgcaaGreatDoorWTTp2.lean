import Derived.Test.YtmegdednaimgcaaGreatDoorCln
import Derived.Test.YtmegdednaimgcaaGreatDoorWTTp1
import Derived.Test.YtmegdednaimgcaaGreatDoorProg
set_option linter.unusedVariables false
set_option maxRecDepth 10000
set_option maxHeartbeats 2000000
set_option synthInstance.maxHeartbeats 200000
set_option synthInstance.maxSize 2000
namespace Go.Proofs.YtmegdednaimgcaaGreatDoor.TT
open Go Go.Proofs.YtmegdednaimgcaaGreatDoor.Ab

theorem step_machine_needs.ok {a0 : step_machine} {z : Pn ⊕ step_machine} (h : step_machine_needs.f a0 = some z) : FnZ PP 57 [.p 70000 0] [.box 70000 111 (L111 a0)] [70000] 105 (fun (r : step_machine) => .d (tup [])) (fun (r : step_machine) => [.box 70000 111 (L111 r)]) z := by
 refine fnIntroZ Tryz.func57 u (by kernel_rfl) fun X H0 w0 pv => ?_
 unfold step_machine_needs.f at h
 refine wSeq <| rx (c4 <| c1 <| cr (oLdK (n := 0) (k := 6) u u (by kernel_rfl) t33 tm) (s1 u) <| c3 <| cwn (oStK (n := 0) (k := 20) u u u (by kernel_rfl) z3 tm tm) (s2 u u) <| .nil) <| pSeq <| wPtr (n := 0) 0 u u (fun b0 => ?_)
 refine wT0 <| wTk 0 47 (cw (oMkMap (id := 11) (dk := ki) (dv := kV)) tv <| c1 <| cp (oMkBV tm) (s1 u) <| cwn (oInsert (n := 0) (dk := ki) (dv := kV) u u142 mk3 u u tm (cI (by decide)) tm) (s2 u u) <| c1 <| cp (oMkBV tm) (s1 u) <| cwn (oInsert (n := 0) (dk := ki) (dv := kV) u u142 mk3 u u tm (cI (by decide)) tm) (s2 u u) <| c1 <| cp (oMkBV tm) (s1 u) <| cwn (oInsert (n := 0) (dk := ki) (dv := kV) u u142 mk3 u u tm (cI (by decide)) tm) (s2 u u) <| c1 <| cp (oMkBV tm) (s1 u) <| cwn (oInsert (n := 0) (dk := ki) (dv := kV) u u142 mk3 u u tm (cI (by decide)) tm) (s2 u u) <| c1 <| cp (oMkBV tm) (s1 u) <| cwn (oInsert (n := 0) (dk := ki) (dv := kV) u u142 mk3 u u tm (cI (by decide)) tm) (s2 u u) <| c1 <| cp (oMkBV tm) (s1 u) <| cwn (oInsert (n := 0) (dk := ki) (dv := kV) u u142 mk3 u u tm (cI (by decide)) tm) (s2 u u) <| c1 <| cp (oMkBV tm) (s1 u) <| cwn (oInsert (n := 0) (dk := ki) (dv := kV) u u142 mk3 u u tm (cI (by decide)) tm) (s2 u u) <| c1 <| cp (oMkBV tm) (s1 u) <| cwn (oInsert (n := 0) (dk := ki) (dv := kV) u u142 mk3 u u tm (cI (by decide)) tm) (s2 u u) <| c1 <| cp (oMkBV tm) (s1 u) <| cwn (oInsert (n := 0) (dk := ki) (dv := kV) u u142 mk3 u u tm (cI (by decide)) tm) (s2 u u) <| c1 <| cp (oMkBV tm) (s1 u) <| cwn (oInsert (n := 0) (dk := ki) (dv := kV) u u142 mk3 u u tm (cI (by decide)) tm) (s2 u u) <| c1 <| cp (oMkBV tm) (s1 u) <| cwn (oInsert (n := 0) (dk := ki) (dv := kV) u u142 mk3 u u tm (cI (by decide)) tm) (s2 u u) <| c1 <| cp (oMkBV tm) (s1 u) <| cwn (oInsert (n := 0) (dk := ki) (dv := kV) u u142 mk3 u u tm (cI (by decide)) tm) (s2 u u) <| c1 <| cp (oMkBV tm) (s1 u) <| cwn (oInsert (n := 0) (dk := ki) (dv := kV) u u142 mk3 u u tm (cI (by decide)) tm) (s2 u u) <| c2 <| cp (oNilP tmP) (s1 u) <| c2 <| cr (oLdK (n := 1) (k := 8) u u (by kernel_rfl) t3 tm) (s1 u) <| cr (oLookR (n := 0) u u142 mk3 zv1 (fun H => ⟨u, u⟩) u tm tm) (s2 u u) <| .nil) (by kernel_rfl) u ?_
 obtain ⟨hp1, h⟩ | ⟨hp1, h⟩ := ik h
 ·obtain ⟨y2, hy2, h⟩ := bd h
  refine wTe 47 (cm (oCallBV (kn := 70000) (rest := [.abs 11 (aMap ki kV) [(0, bmV 93 b0), (12, bmV 93 b0), (1, bmV 94 b0), (2, bmV 95 b0), (11, bmV 95 b0), (3, bmV 96 b0), (4, bmV 96 b0), (5, bmV 97 b0), (6, bmV 98 b0), (7, bmV 99 b0), (8, bmV 95 b0), (9, bmV 100 b0), (10, bmV 101 b0)]]) (R' := [.abs 11 (aMap ki kV) [(0, bmV 93 b0), (12, bmV 93 b0), (1, bmV 94 b0), (2, bmV 95 b0), (11, bmV 95 b0), (3, bmV 96 b0), (4, bmV 96 b0), (5, bmV 97 b0), (6, bmV 98 b0), (7, bmV 99 b0), (8, bmV 95 b0), (9, bmV 100 b0), (10, bmV 101 b0)], .box 70000 111 (L111 y2)]) (out' := .d (tup [])) [(70000, 70000)] [] [1] [0] [1, 0] (by rw [hp1.1]; rfl) tm (tm (t := 0)) (step_machine_nothing.ok hy2) u b93 u u u u u u u u) (s2 u u) <| .nil) (by kernel_rfl) ?_
  obtain rfl := so h
  exact pZ <| pSn [1] u u (.inr u) u u (.nil)
 ·obtain ⟨hp3, h⟩ | ⟨hp3, h⟩ := ik h
  ·obtain ⟨y4, hy4, h⟩ := bd h
   refine wTe 47 (cm (oCallBV (kn := 70000) (rest := [.abs 11 (aMap ki kV) [(0, bmV 93 b0), (12, bmV 93 b0), (1, bmV 94 b0), (2, bmV 95 b0), (11, bmV 95 b0), (3, bmV 96 b0), (4, bmV 96 b0), (5, bmV 97 b0), (6, bmV 98 b0), (7, bmV 99 b0), (8, bmV 95 b0), (9, bmV 100 b0), (10, bmV 101 b0)]]) (R' := [.abs 11 (aMap ki kV) [(0, bmV 93 b0), (12, bmV 93 b0), (1, bmV 94 b0), (2, bmV 95 b0), (11, bmV 95 b0), (3, bmV 96 b0), (4, bmV 96 b0), (5, bmV 97 b0), (6, bmV 98 b0), (7, bmV 99 b0), (8, bmV 95 b0), (9, bmV 100 b0), (10, bmV 101 b0)], .box 70000 111 (L111 y4)]) (out' := .d (tup [])) [(70000, 70000)] [] [1] [0] [1, 0] (by rw [hp3.1]; rfl) tm (tm (t := 0)) (step_machine_nothing.ok hy4) u b93 u u u u u u u u) (s2 u u) <| .nil) (by kernel_rfl) ?_
   obtain rfl := so h
   exact pZ <| pSn [1] u u (.inr u) u u (.nil)
  ·obtain ⟨hp5, h⟩ | ⟨hp5, h⟩ := ik h
   ·obtain ⟨y6, hy6, h⟩ := bd h
    refine wTe 47 (cm (oCallBV (kn := 70000) (rest := [.abs 11 (aMap ki kV) [(0, bmV 93 b0), (12, bmV 93 b0), (1, bmV 94 b0), (2, bmV 95 b0), (11, bmV 95 b0), (3, bmV 96 b0), (4, bmV 96 b0), (5, bmV 97 b0), (6, bmV 98 b0), (7, bmV 99 b0), (8, bmV 95 b0), (9, bmV 100 b0), (10, bmV 101 b0)]]) (R' := [.abs 11 (aMap ki kV) [(0, bmV 93 b0), (12, bmV 93 b0), (1, bmV 94 b0), (2, bmV 95 b0), (11, bmV 95 b0), (3, bmV 96 b0), (4, bmV 96 b0), (5, bmV 97 b0), (6, bmV 98 b0), (7, bmV 99 b0), (8, bmV 95 b0), (9, bmV 100 b0), (10, bmV 101 b0)], .box 70000 111 (L111 y6)]) (out' := .d (tup [])) [(70000, 70000)] [] [1] [0] [1, 0] (by rw [hp5.1]; rfl) tm (tm (t := 0)) (step_machine_pushes.ok hy6) u b94 u u u u u u u u) (s2 u u) <| .nil) (by kernel_rfl) ?_
    obtain rfl := so h
    exact pZ <| pSn [1] u u (.inr u) u u (.nil)
   ·obtain ⟨hp7, h⟩ | ⟨hp7, h⟩ := ik h
    ·obtain ⟨z8, hz8, h⟩ := bd h
     rcases z8 with p9 | y10
     ·refine wTx (Γp := []) 47 u (oCallBX (kn := 70000) (rest := [.abs 11 (aMap ki kV) [(0, bmV 93 b0), (12, bmV 93 b0), (1, bmV 94 b0), (2, bmV 95 b0), (11, bmV 95 b0), (3, bmV 96 b0), (4, bmV 96 b0), (5, bmV 97 b0), (6, bmV 98 b0), (7, bmV 99 b0), (8, bmV 95 b0), (9, bmV 100 b0), (10, bmV 101 b0)]]) [(70000, 70000)] [1] [0] (by rw [hp7.1]; rfl) tm (tm (t := 0)) (step_machine_first.okP hz8) u b95 u u) u u (s2 u u) tv ?_
      obtain rfl := so h
      exact pX
     ·refine wTe 47 (cm (oCallBV (kn := 70000) (rest := [.abs 11 (aMap ki kV) [(0, bmV 93 b0), (12, bmV 93 b0), (1, bmV 94 b0), (2, bmV 95 b0), (11, bmV 95 b0), (3, bmV 96 b0), (4, bmV 96 b0), (5, bmV 97 b0), (6, bmV 98 b0), (7, bmV 99 b0), (8, bmV 95 b0), (9, bmV 100 b0), (10, bmV 101 b0)]]) (R' := [.abs 11 (aMap ki kV) [(0, bmV 93 b0), (12, bmV 93 b0), (1, bmV 94 b0), (2, bmV 95 b0), (11, bmV 95 b0), (3, bmV 96 b0), (4, bmV 96 b0), (5, bmV 97 b0), (6, bmV 98 b0), (7, bmV 99 b0), (8, bmV 95 b0), (9, bmV 100 b0), (10, bmV 101 b0)], .box 70000 111 (L111 y10)]) (out' := .d (tup [])) [(70000, 70000)] [] [1] [0] [1, 0] (by rw [hp7.1]; rfl) tm (tm (t := 0)) (step_machine_first.okR hz8) u b95 u u u u u u u u) (s2 u u) <| .nil) (by kernel_rfl) ?_
      obtain rfl := so h
      exact pZ <| pSn [1] u u (.inr u) u u (.nil)
    ·obtain ⟨hp11, h⟩ | ⟨hp11, h⟩ := ik h
     ·obtain ⟨z12, hz12, h⟩ := bd h
      rcases z12 with p13 | y14
      ·refine wTx (Γp := []) 47 u (oCallBX (kn := 70000) (rest := [.abs 11 (aMap ki kV) [(0, bmV 93 b0), (12, bmV 93 b0), (1, bmV 94 b0), (2, bmV 95 b0), (11, bmV 95 b0), (3, bmV 96 b0), (4, bmV 96 b0), (5, bmV 97 b0), (6, bmV 98 b0), (7, bmV 99 b0), (8, bmV 95 b0), (9, bmV 100 b0), (10, bmV 101 b0)]]) [(70000, 70000)] [1] [0] (by rw [hp11.1]; rfl) tm (tm (t := 0)) (step_machine_first.okP hz12) u b95 u u) u u (s2 u u) tv ?_
       obtain rfl := so h
       exact pX
      ·refine wTe 47 (cm (oCallBV (kn := 70000) (rest := [.abs 11 (aMap ki kV) [(0, bmV 93 b0), (12, bmV 93 b0), (1, bmV 94 b0), (2, bmV 95 b0), (11, bmV 95 b0), (3, bmV 96 b0), (4, bmV 96 b0), (5, bmV 97 b0), (6, bmV 98 b0), (7, bmV 99 b0), (8, bmV 95 b0), (9, bmV 100 b0), (10, bmV 101 b0)]]) (R' := [.abs 11 (aMap ki kV) [(0, bmV 93 b0), (12, bmV 93 b0), (1, bmV 94 b0), (2, bmV 95 b0), (11, bmV 95 b0), (3, bmV 96 b0), (4, bmV 96 b0), (5, bmV 97 b0), (6, bmV 98 b0), (7, bmV 99 b0), (8, bmV 95 b0), (9, bmV 100 b0), (10, bmV 101 b0)], .box 70000 111 (L111 y14)]) (out' := .d (tup [])) [(70000, 70000)] [] [1] [0] [1, 0] (by rw [hp11.1]; rfl) tm (tm (t := 0)) (step_machine_first.okR hz12) u b95 u u u u u u u u) (s2 u u) <| .nil) (by kernel_rfl) ?_
       obtain rfl := so h
       exact pZ <| pSn [1] u u (.inr u) u u (.nil)
     ·obtain ⟨hp15, h⟩ | ⟨hp15, h⟩ := ik h
      ·obtain ⟨z16, hz16, h⟩ := bd h
       rcases z16 with p17 | y18
       ·refine wTx (Γp := []) 47 u (oCallBX (kn := 70000) (rest := [.abs 11 (aMap ki kV) [(0, bmV 93 b0), (12, bmV 93 b0), (1, bmV 94 b0), (2, bmV 95 b0), (11, bmV 95 b0), (3, bmV 96 b0), (4, bmV 96 b0), (5, bmV 97 b0), (6, bmV 98 b0), (7, bmV 99 b0), (8, bmV 95 b0), (9, bmV 100 b0), (10, bmV 101 b0)]]) [(70000, 70000)] [1] [0] (by rw [hp15.1]; rfl) tm (tm (t := 0)) (step_machine_both.okP hz16) u b96 u u) u u (s2 u u) tv ?_
        obtain rfl := so h
        exact pX
       ·refine wTe 47 (cm (oCallBV (kn := 70000) (rest := [.abs 11 (aMap ki kV) [(0, bmV 93 b0), (12, bmV 93 b0), (1, bmV 94 b0), (2, bmV 95 b0), (11, bmV 95 b0), (3, bmV 96 b0), (4, bmV 96 b0), (5, bmV 97 b0), (6, bmV 98 b0), (7, bmV 99 b0), (8, bmV 95 b0), (9, bmV 100 b0), (10, bmV 101 b0)]]) (R' := [.abs 11 (aMap ki kV) [(0, bmV 93 b0), (12, bmV 93 b0), (1, bmV 94 b0), (2, bmV 95 b0), (11, bmV 95 b0), (3, bmV 96 b0), (4, bmV 96 b0), (5, bmV 97 b0), (6, bmV 98 b0), (7, bmV 99 b0), (8, bmV 95 b0), (9, bmV 100 b0), (10, bmV 101 b0)], .box 70000 111 (L111 y18)]) (out' := .d (tup [])) [(70000, 70000)] [] [1] [0] [1, 0] (by rw [hp15.1]; rfl) tm (tm (t := 0)) (step_machine_both.okR hz16) u b96 u u u u u u u u) (s2 u u) <| .nil) (by kernel_rfl) ?_
        obtain rfl := so h
        exact pZ <| pSn [1] u u (.inr u) u u (.nil)
      ·obtain ⟨hp19, h⟩ | ⟨hp19, h⟩ := ik h
       ·obtain ⟨z20, hz20, h⟩ := bd h
        rcases z20 with p21 | y22
        ·refine wTx (Γp := []) 47 u (oCallBX (kn := 70000) (rest := [.abs 11 (aMap ki kV) [(0, bmV 93 b0), (12, bmV 93 b0), (1, bmV 94 b0), (2, bmV 95 b0), (11, bmV 95 b0), (3, bmV 96 b0), (4, bmV 96 b0), (5, bmV 97 b0), (6, bmV 98 b0), (7, bmV 99 b0), (8, bmV 95 b0), (9, bmV 100 b0), (10, bmV 101 b0)]]) [(70000, 70000)] [1] [0] (by rw [hp19.1]; rfl) tm (tm (t := 0)) (step_machine_both.okP hz20) u b96 u u) u u (s2 u u) tv ?_
         obtain rfl := so h
         exact pX
        ·refine wTe 47 (cm (oCallBV (kn := 70000) (rest := [.abs 11 (aMap ki kV) [(0, bmV 93 b0), (12, bmV 93 b0), (1, bmV 94 b0), (2, bmV 95 b0), (11, bmV 95 b0), (3, bmV 96 b0), (4, bmV 96 b0), (5, bmV 97 b0), (6, bmV 98 b0), (7, bmV 99 b0), (8, bmV 95 b0), (9, bmV 100 b0), (10, bmV 101 b0)]]) (R' := [.abs 11 (aMap ki kV) [(0, bmV 93 b0), (12, bmV 93 b0), (1, bmV 94 b0), (2, bmV 95 b0), (11, bmV 95 b0), (3, bmV 96 b0), (4, bmV 96 b0), (5, bmV 97 b0), (6, bmV 98 b0), (7, bmV 99 b0), (8, bmV 95 b0), (9, bmV 100 b0), (10, bmV 101 b0)], .box 70000 111 (L111 y22)]) (out' := .d (tup [])) [(70000, 70000)] [] [1] [0] [1, 0] (by rw [hp19.1]; rfl) tm (tm (t := 0)) (step_machine_both.okR hz20) u b96 u u u u u u u u) (s2 u u) <| .nil) (by kernel_rfl) ?_
         obtain rfl := so h
         exact pZ <| pSn [1] u u (.inr u) u u (.nil)
       ·obtain ⟨hp23, h⟩ | ⟨hp23, h⟩ := ik h
        ·obtain ⟨z24, hz24, h⟩ := bd h
         rcases z24 with p25 | y26
         ·refine wTx (Γp := []) 47 u (oCallBX (kn := 70000) (rest := [.abs 11 (aMap ki kV) [(0, bmV 93 b0), (12, bmV 93 b0), (1, bmV 94 b0), (2, bmV 95 b0), (11, bmV 95 b0), (3, bmV 96 b0), (4, bmV 96 b0), (5, bmV 97 b0), (6, bmV 98 b0), (7, bmV 99 b0), (8, bmV 95 b0), (9, bmV 100 b0), (10, bmV 101 b0)]]) [(70000, 70000)] [1] [0] (by rw [hp23.1]; rfl) tm (tm (t := 0)) (step_machine_loads.okP hz24) u b97 u u) u u (s2 u u) tv ?_
          obtain rfl := so h
          exact pX
         ·refine wTe 47 (cm (oCallBV (kn := 70000) (rest := [.abs 11 (aMap ki kV) [(0, bmV 93 b0), (12, bmV 93 b0), (1, bmV 94 b0), (2, bmV 95 b0), (11, bmV 95 b0), (3, bmV 96 b0), (4, bmV 96 b0), (5, bmV 97 b0), (6, bmV 98 b0), (7, bmV 99 b0), (8, bmV 95 b0), (9, bmV 100 b0), (10, bmV 101 b0)]]) (R' := [.abs 11 (aMap ki kV) [(0, bmV 93 b0), (12, bmV 93 b0), (1, bmV 94 b0), (2, bmV 95 b0), (11, bmV 95 b0), (3, bmV 96 b0), (4, bmV 96 b0), (5, bmV 97 b0), (6, bmV 98 b0), (7, bmV 99 b0), (8, bmV 95 b0), (9, bmV 100 b0), (10, bmV 101 b0)], .box 70000 111 (L111 y26)]) (out' := .d (tup [])) [(70000, 70000)] [] [1] [0] [1, 0] (by rw [hp23.1]; rfl) tm (tm (t := 0)) (step_machine_loads.okR hz24) u b97 u u u u u u u u) (s2 u u) <| .nil) (by kernel_rfl) ?_
          obtain rfl := so h
          exact pZ <| pSn [1] u u (.inr u) u u (.nil)
        ·obtain ⟨hp27, h⟩ | ⟨hp27, h⟩ := ik h
         ·obtain ⟨z28, hz28, h⟩ := bd h
          rcases z28 with p29 | y30
          ·refine wTx (Γp := []) 47 u (oCallBX (kn := 70000) (rest := [.abs 11 (aMap ki kV) [(0, bmV 93 b0), (12, bmV 93 b0), (1, bmV 94 b0), (2, bmV 95 b0), (11, bmV 95 b0), (3, bmV 96 b0), (4, bmV 96 b0), (5, bmV 97 b0), (6, bmV 98 b0), (7, bmV 99 b0), (8, bmV 95 b0), (9, bmV 100 b0), (10, bmV 101 b0)]]) [(70000, 70000)] [1] [0] (by rw [hp27.1]; rfl) tm (tm (t := 0)) (step_machine_stores.okP hz28) u b98 u u) u u (s2 u u) tv ?_
           obtain rfl := so h
           exact pX
          ·refine wTe 47 (cm (oCallBV (kn := 70000) (rest := [.abs 11 (aMap ki kV) [(0, bmV 93 b0), (12, bmV 93 b0), (1, bmV 94 b0), (2, bmV 95 b0), (11, bmV 95 b0), (3, bmV 96 b0), (4, bmV 96 b0), (5, bmV 97 b0), (6, bmV 98 b0), (7, bmV 99 b0), (8, bmV 95 b0), (9, bmV 100 b0), (10, bmV 101 b0)]]) (R' := [.abs 11 (aMap ki kV) [(0, bmV 93 b0), (12, bmV 93 b0), (1, bmV 94 b0), (2, bmV 95 b0), (11, bmV 95 b0), (3, bmV 96 b0), (4, bmV 96 b0), (5, bmV 97 b0), (6, bmV 98 b0), (7, bmV 99 b0), (8, bmV 95 b0), (9, bmV 100 b0), (10, bmV 101 b0)], .box 70000 111 (L111 y30)]) (out' := .d (tup [])) [(70000, 70000)] [] [1] [0] [1, 0] (by rw [hp27.1]; rfl) tm (tm (t := 0)) (step_machine_stores.okR hz28) u b98 u u u u u u u u) (s2 u u) <| .nil) (by kernel_rfl) ?_
           obtain rfl := so h
           exact pZ <| pSn [1] u u (.inr u) u u (.nil)
         ·obtain ⟨hp31, h⟩ | ⟨hp31, h⟩ := ik h
          ·obtain ⟨z32, hz32, h⟩ := bd h
           rcases z32 with p33 | y34
           ·refine wTx (Γp := []) 47 u (oCallBX (kn := 70000) (rest := [.abs 11 (aMap ki kV) [(0, bmV 93 b0), (12, bmV 93 b0), (1, bmV 94 b0), (2, bmV 95 b0), (11, bmV 95 b0), (3, bmV 96 b0), (4, bmV 96 b0), (5, bmV 97 b0), (6, bmV 98 b0), (7, bmV 99 b0), (8, bmV 95 b0), (9, bmV 100 b0), (10, bmV 101 b0)]]) [(70000, 70000)] [1] [0] (by rw [hp31.1]; rfl) tm (tm (t := 0)) (step_machine_goes.okP hz32) u b99 u u) u u (s2 u u) tv ?_
            obtain rfl := so h
            exact pX
           ·refine wTe 47 (cm (oCallBV (kn := 70000) (rest := [.abs 11 (aMap ki kV) [(0, bmV 93 b0), (12, bmV 93 b0), (1, bmV 94 b0), (2, bmV 95 b0), (11, bmV 95 b0), (3, bmV 96 b0), (4, bmV 96 b0), (5, bmV 97 b0), (6, bmV 98 b0), (7, bmV 99 b0), (8, bmV 95 b0), (9, bmV 100 b0), (10, bmV 101 b0)]]) (R' := [.abs 11 (aMap ki kV) [(0, bmV 93 b0), (12, bmV 93 b0), (1, bmV 94 b0), (2, bmV 95 b0), (11, bmV 95 b0), (3, bmV 96 b0), (4, bmV 96 b0), (5, bmV 97 b0), (6, bmV 98 b0), (7, bmV 99 b0), (8, bmV 95 b0), (9, bmV 100 b0), (10, bmV 101 b0)], .box 70000 111 (L111 y34)]) (out' := .d (tup [])) [(70000, 70000)] [] [1] [0] [1, 0] (by rw [hp31.1]; rfl) tm (tm (t := 0)) (step_machine_goes.okR hz32) u b99 u u u u u u u u) (s2 u u) <| .nil) (by kernel_rfl) ?_
            obtain rfl := so h
            exact pZ <| pSn [1] u u (.inr u) u u (.nil)
          ·obtain ⟨hp35, h⟩ | ⟨hp35, h⟩ := ik h
           ·obtain ⟨z36, hz36, h⟩ := bd h
            rcases z36 with p37 | y38
            ·refine wTx (Γp := []) 47 u (oCallBX (kn := 70000) (rest := [.abs 11 (aMap ki kV) [(0, bmV 93 b0), (12, bmV 93 b0), (1, bmV 94 b0), (2, bmV 95 b0), (11, bmV 95 b0), (3, bmV 96 b0), (4, bmV 96 b0), (5, bmV 97 b0), (6, bmV 98 b0), (7, bmV 99 b0), (8, bmV 95 b0), (9, bmV 100 b0), (10, bmV 101 b0)]]) [(70000, 70000)] [1] [0] (by rw [hp35.1]; rfl) tm (tm (t := 0)) (step_machine_first.okP hz36) u b95 u u) u u (s2 u u) tv ?_
             obtain rfl := so h
             exact pX
            ·refine wTe 47 (cm (oCallBV (kn := 70000) (rest := [.abs 11 (aMap ki kV) [(0, bmV 93 b0), (12, bmV 93 b0), (1, bmV 94 b0), (2, bmV 95 b0), (11, bmV 95 b0), (3, bmV 96 b0), (4, bmV 96 b0), (5, bmV 97 b0), (6, bmV 98 b0), (7, bmV 99 b0), (8, bmV 95 b0), (9, bmV 100 b0), (10, bmV 101 b0)]]) (R' := [.abs 11 (aMap ki kV) [(0, bmV 93 b0), (12, bmV 93 b0), (1, bmV 94 b0), (2, bmV 95 b0), (11, bmV 95 b0), (3, bmV 96 b0), (4, bmV 96 b0), (5, bmV 97 b0), (6, bmV 98 b0), (7, bmV 99 b0), (8, bmV 95 b0), (9, bmV 100 b0), (10, bmV 101 b0)], .box 70000 111 (L111 y38)]) (out' := .d (tup [])) [(70000, 70000)] [] [1] [0] [1, 0] (by rw [hp35.1]; rfl) tm (tm (t := 0)) (step_machine_first.okR hz36) u b95 u u u u u u u u) (s2 u u) <| .nil) (by kernel_rfl) ?_
             obtain rfl := so h
             exact pZ <| pSn [1] u u (.inr u) u u (.nil)
           ·obtain ⟨hp39, h⟩ | ⟨hp39, h⟩ := ik h
            ·obtain ⟨z40, hz40, h⟩ := bd h
             rcases z40 with p41 | y42
             ·refine wTx (Γp := []) 47 u (oCallBX (kn := 70000) (rest := [.abs 11 (aMap ki kV) [(0, bmV 93 b0), (12, bmV 93 b0), (1, bmV 94 b0), (2, bmV 95 b0), (11, bmV 95 b0), (3, bmV 96 b0), (4, bmV 96 b0), (5, bmV 97 b0), (6, bmV 98 b0), (7, bmV 99 b0), (8, bmV 95 b0), (9, bmV 100 b0), (10, bmV 101 b0)]]) [(70000, 70000)] [1] [0] (by rw [hp39.1]; rfl) tm (tm (t := 0)) (step_machine_calls.okP hz40) u b100 u u) u u (s2 u u) tv ?_
              obtain rfl := so h
              exact pX
             ·refine wTe 47 (cm (oCallBV (kn := 70000) (rest := [.abs 11 (aMap ki kV) [(0, bmV 93 b0), (12, bmV 93 b0), (1, bmV 94 b0), (2, bmV 95 b0), (11, bmV 95 b0), (3, bmV 96 b0), (4, bmV 96 b0), (5, bmV 97 b0), (6, bmV 98 b0), (7, bmV 99 b0), (8, bmV 95 b0), (9, bmV 100 b0), (10, bmV 101 b0)]]) (R' := [.abs 11 (aMap ki kV) [(0, bmV 93 b0), (12, bmV 93 b0), (1, bmV 94 b0), (2, bmV 95 b0), (11, bmV 95 b0), (3, bmV 96 b0), (4, bmV 96 b0), (5, bmV 97 b0), (6, bmV 98 b0), (7, bmV 99 b0), (8, bmV 95 b0), (9, bmV 100 b0), (10, bmV 101 b0)], .box 70000 111 (L111 y42)]) (out' := .d (tup [])) [(70000, 70000)] [] [1] [0] [1, 0] (by rw [hp39.1]; rfl) tm (tm (t := 0)) (step_machine_calls.okR hz40) u b100 u u u u u u u u) (s2 u u) <| .nil) (by kernel_rfl) ?_
              obtain rfl := so h
              exact pZ <| pSn [1] u u (.inr u) u u (.nil)
            ·obtain ⟨hp43, h⟩ | ⟨hp43, h⟩ := ik h
             ·obtain ⟨z44, hz44, h⟩ := bd h
              rcases z44 with p45 | y46
              ·refine wTx (Γp := []) 47 u (oCallBX (kn := 70000) (rest := [.abs 11 (aMap ki kV) [(0, bmV 93 b0), (12, bmV 93 b0), (1, bmV 94 b0), (2, bmV 95 b0), (11, bmV 95 b0), (3, bmV 96 b0), (4, bmV 96 b0), (5, bmV 97 b0), (6, bmV 98 b0), (7, bmV 99 b0), (8, bmV 95 b0), (9, bmV 100 b0), (10, bmV 101 b0)]]) [(70000, 70000)] [1] [0] (by rw [hp43.1]; rfl) tm (tm (t := 0)) (step_machine_returns.okP hz44) u b101 u u) u u (s2 u u) tv ?_
               obtain rfl := so h
               exact pX
              ·refine wTe 47 (cm (oCallBV (kn := 70000) (rest := [.abs 11 (aMap ki kV) [(0, bmV 93 b0), (12, bmV 93 b0), (1, bmV 94 b0), (2, bmV 95 b0), (11, bmV 95 b0), (3, bmV 96 b0), (4, bmV 96 b0), (5, bmV 97 b0), (6, bmV 98 b0), (7, bmV 99 b0), (8, bmV 95 b0), (9, bmV 100 b0), (10, bmV 101 b0)]]) (R' := [.abs 11 (aMap ki kV) [(0, bmV 93 b0), (12, bmV 93 b0), (1, bmV 94 b0), (2, bmV 95 b0), (11, bmV 95 b0), (3, bmV 96 b0), (4, bmV 96 b0), (5, bmV 97 b0), (6, bmV 98 b0), (7, bmV 99 b0), (8, bmV 95 b0), (9, bmV 100 b0), (10, bmV 101 b0)], .box 70000 111 (L111 y46)]) (out' := .d (tup [])) [(70000, 70000)] [] [1] [0] [1, 0] (by rw [hp43.1]; rfl) tm (tm (t := 0)) (step_machine_returns.okR hz44) u b101 u u u u u u u u) (s2 u u) <| .nil) (by kernel_rfl) ?_
               obtain rfl := so h
               exact pZ <| pSn [1] u u (.inr u) u u (.nil)
             ·cases h
theorem step_machine_needs.okR {a0 : step_machine} {r : step_machine} (h : step_machine_needs.f a0 = some (.inr r)) : FnS PP 57 [.p 70000 0] [.box 70000 111 (L111 a0)] [70000] (.d (tup [])) [.box 70000 111 (L111 r)] := step_machine_needs.ok h
theorem step_machine_needs.okP {a0 : step_machine} {n : Pn} (h : step_machine_needs.f a0 = some (.inl n)) : FnX PP 57 [.p 70000 0] [.box 70000 111 (L111 a0)] (pvv 105 n) := step_machine_needs.ok h
theorem judge_may_1.ok {a0 : Int} {a1 : api_Lattice} {r : Bool} (h : judge_may_1.f a0 a1 = some r) : FnA PP 124 [ki.sig a0, sP (kR f_api_Lattice) a1] (kB.sig r) := by
 refine fnIntro Tryz.func124 u (by kernel_rfl) fun H0 w0 => ?_
 unfold judge_may_1.f at h
 refine wSeq <| rx (c1 <| .nil) <| pSeq ?_
 obtain ⟨o1, h, hk1⟩ := bd h
 refine wJ1 (fun x2 => x2 = o1) (fun x2 => [(3, .d (kB.sig x2))]) (fun x2 => []) ?_ ?_
 ·obtain ⟨hp3, h⟩ | ⟨hp3, h⟩ := ik h
  ·exact rx (c8 <| c2 <| .nil) <| pJ1 _ (so h) (sb u) u
  ·exact rx (c8 <| c2 <| .nil) <| pJ1 _ (so h) (sb u) u
 ·rintro x2 rfl
  replace h := hk1
  refine wRet ?_
  obtain rfl := so h
  exact pR1 (.inl u) u (.tmp u <| .nil)
theorem judge_may.ok {a0 : api_Lattice} {a1 : List Int} {a2 : List Int} {a3 : Bool} {r : Int} (h : judge_may.f a0 a1 a2 a3 = some r) : FnA PP 102 [(kR f_api_Lattice).sig a0, (kL ki).sig a1, (kL ki).sig a2, kB.sig a3] (ki.sig r) := by
 refine fnIntro Tryz.func102 u (by kernel_rfl) fun H0 w0 => ?_
 unfold judge_may.f at h
 refine wSeq <| rx (c2 <| .nil) <| pSeq <| wSeq <| wSeq ?_
 obtain ⟨y1, hy1, h⟩ := bd h
 refine rx (c1 <| cC (lattice_Check.ok hy1) <| c1 <| .nil) <| pSeq <| wSeq <| rx (c2 <| .nil) <| pSeq ?_
 obtain ⟨hp2, h⟩ | ⟨hp2, h⟩ := ik h
 ·refine wNT hp2.1 tm (s1 u) <| wSkip <| pSeq <| wSeq <| rx (cp (oMkF (Rl := rl1 ki kB (fun z0 => judge_may_1.f z0 a0)) u b124 (rl1e judge_may_1.ok) (oc tm o0)) (s1 u) <| c1 <| .nil) <| pSeq <| wSeq <| wBlock <| wSeq ?_
  obtain ⟨y3, hy3, h⟩ := bd h
  refine rx (c2 <| cC (rule_Right.ok hy3) <| c2 <| .nil) <| pSeq ?_
  obtain ⟨hp4, h⟩ | ⟨hp4, h⟩ := ik h
  ·refine wBT hp4.1 tm (s1 u) <| wSeq <| rx (c1 <| .nil) <| pSeq <| wRet <| pBlkR <| pThenR ?_
   obtain rfl := so h
   exact pR1 (.inl u) u (.tmp u <| .nil)
  ·refine wBF hp4.1 tm (s1 u) ?_
   obtain ⟨o1, h, hk1⟩ := bd h
   refine wJ1 (fun x7 => x7 = o1) (fun x7 => [(22, .d (kB.sig x7))]) (fun x7 => []) ?_ ?_
   ·obtain ⟨hp8, h⟩ | ⟨hp8, h⟩ := ik h
    ·obtain ⟨y9, hy9, h⟩ := bd h
     exact rx (c6 <| cgB (nf hp8.1) u u (oCall u (slices_ContainsFunc_int_int.ok hy9) b120 (oc tm (oc tm o0))) (s2 u u) <| c2 <| .nil) <| pJ1 _ (so h) (sb u) u
    ·exact rx (c8 <| c1 <| .nil) <| pJ1 _ (so h) (sb u) u
   ·rintro x7 rfl
    replace h := hk1
    obtain ⟨hp10, h⟩ | ⟨hp10, h⟩ := ik h
    ·refine wBT hp10.1 tm (s1 u) <| wSeq <| rx (c1 <| .nil) <| pSeq <| wRet <| pBlkR <| pThenR ?_
     obtain rfl := so h
     exact pR1 (.inl u) u (.tmp u <| .nil)
    ·refine wBF hp10.1 tm (s1 u) <| wSkip <| pBlkN <| pSeq <| wSeq <| rx (c1 <| .nil) <| pSeq <| wRet ?_
     obtain rfl := so h
     exact pR1 (.inl u) u (.tmp u <| .nil)
 ·refine wNF hp2.1 tm (s1 u) <| wSeq <| rx (c2 <| .nil) <| pSeq <| wRet <| pThenR ?_
  obtain rfl := so h
  exact pR1 (.inl u) u (.tmp u <| .nil)
theorem judge_judge_put.ok {a0 : judge_judge} {a1 : If147} {r : judge_judge} (h : judge_judge_put.f a0 a1 = some r) : FnS PP 125 [.p 70000 0, .d ((kF vIf147).sig a1)] [.box 70000 151 [.d (kL kS) a0.l_.Names, .d (kL (kI .u32)) a0.l_.Up, .d (kL ki) a0.labels_, .v 70004], .row 70004 147 (kF vIf147) a0.pile_] [70000] (.d (tup [])) [.box 70000 151 [.d (kL kS) r.l_.Names, .d (kL (kI .u32)) r.l_.Up, .d (kL ki) r.labels_, .v 70004], .row 70004 147 (kF vIf147) r.pile_] := by
 refine fnIntroS Tryz.func125 u (by kernel_rfl) fun X H0 w0 pv => ?_
 unfold judge_judge_put.f at h
 obtain ⟨hc1, h⟩ := ib h
 refine rx (c4 <| cr (oLdN (n := 0) (k := 3) u u u t149 tm) (s1 u) <| c1 <| cp (oLit (d := (kF vIf147)) el149 (by decide) u u u (e1 tm e0)) (s1 u) <| cw (oApp (n := 1) (id' := 11) el149 (by decide) u (by decide) hc1 tm tm) (s2 u u) <| c2 <| cwn (oStN (n := 0) (m := 1) (k := 3) u u u u z149 u tm tm) (s2 u u) <| .nil) ?_
 obtain rfl := so h
 exact pSub (Γ' := []) tv <| pRen 11 70004 u <| pSn [0, 1] u u (.inr u) u u (.nil)
theorem bits_OnesCount32.ok {a0 : Int} {r : Int} (h : bits_OnesCount32.f a0 = some r) : FnA PP 138 [(kI .u32).sig a0] (ki.sig r) := by
 refine fnIntro Tryz.func138 u (by kernel_rfl) fun H0 w0 => ?_
 unfold bits_OnesCount32.f at h
 refine wSeq <| rx (c1 <| .nil) <| pSeq <| wSeq ?_
 obtain ⟨hc1, h⟩ := ib h
 obtain ⟨hc2, h⟩ := ib h
 obtain ⟨hc3, h⟩ := ib h
 obtain ⟨hc4, h⟩ := ib h
 refine rdx hm (c1 <| cp (oShr (by decide) tm (cI (by decide))) (s1 u) <| cp (oIdxS u9 hc1.1 hc1.2 (cS (s := ks0) (by decide)) tm) (s1 u) <| c1 <| cp (oShr (by decide) tm (cI (by decide))) (s1 u) <| cp (oAnd tm (cI (by decide))) (s1 u) <| cp (oIdxS u9 hc2.1 hc2.2 (cS (s := ks0) (by decide)) tm) (s1 u) <| c2 <| cp (oShr (by decide) tm (cI (by decide))) (s1 u) <| cp (oAnd tm (cI (by decide))) (s1 u) <| cp (oIdxS u9 hc3.1 hc3.2 (cS (s := ks0) (by decide)) tm) (s1 u) <| c2 <| cp (oAnd tm (cI (by decide))) (s1 u) <| cp (oIdxS u9 hc4.1 hc4.2 (cS (s := ks0) (by decide)) tm) (s1 u) <| c1 <| cp (oConv u5 u3 tm) (s1 u) <| c1 <| .nil) <| pSeq <| wRet ?_
 obtain rfl := so h
 exact pR1 (.inl u) u (.tmp u <| .nil)
theorem lattice_Top_1.ok {a0 : Int} {r : Bool} (h : lattice_Top_1.f a0 = some r) : FnA PP 137 [(kI .u32).sig a0] (kB.sig r) := by
 refine fnIntro Tryz.func137 u (by kernel_rfl) fun H0 w0 => ?_
 unfold lattice_Top_1.f at h
 refine wSeq <| rx (c1 <| .nil) <| pSeq <| wSeq ?_
 obtain ⟨y1, hy1, h⟩ := bd h
 refine rx (c1 <| cC (bits_OnesCount32.ok hy1) <| c2 <| .nil) <| pSeq <| wRet ?_
 obtain rfl := so h
 exact pR1 (.inl u) u (.tmp u <| .nil)
theorem lattice_Top.ok {a0 : api_Lattice} {r : Int × Int} (h : lattice_Top.f a0 = some r) : FnA PP 126 [(kR f_api_Lattice).sig a0] (tup [ki.sig r.1, ki.sig r.2]) := by
 refine fnIntro Tryz.func126 u (by kernel_rfl) fun H0 w0 => ?_
 unfold lattice_Top.f at h
 refine wSeq <| rx (c3 <| .nil) <| pSeq <| wSeq <| wSeq ?_
 obtain ⟨y1, hy1, h⟩ := bd h
 refine rx (c1 <| cp (oCall u (lattice_there.ok hy1) b91 (oc tm (oc (cN (d := ki)) o0))) (s1 u) <| c1 <| .nil) <| pSeq <| wSeq <| rx (c2 <| .nil) <| pSeq ?_
 obtain ⟨hp2, h⟩ | ⟨hp2, h⟩ := ik h
 ·refine wNT hp2.1 tm (s1 u) <| wSkip <| pSeq <| wSeq ?_
  obtain ⟨y3, hy3, h⟩ := bd h
  refine rx (c2 <| cp (oCall u (slices_IndexFunc_uint32_uint32.ok hy3) b81 (oc tm (oc (oFn b137 (rl1n lattice_Top_1.ok)) o0))) (s1 u) <| c2 <| .nil) <| pSeq <| wRet ?_
  obtain rfl := so h
  exact pRn (.inl u) u u (.tmp u <| .tmp u <| .nil)
 ·refine wNF hp2.1 tm (s1 u) <| wSeq <| rx (c3 <| .nil) <| pSeq <| wRet <| pThenR ?_
  obtain rfl := so h
  exact pRn (.inl u) u u (.tmp u <| .tmp u <| .nil)
theorem judge_judge_two.ok {a0 : judge_judge} {r : judge_judge × If147 × If147} (h : judge_judge_two.f a0 = some r) : FnS PP 127 [.p 70000 0] [.box 70000 151 [.d (kL kS) a0.l_.Names, .d (kL (kI .u32)) a0.l_.Up, .d (kL ki) a0.labels_, .v 70004], .row 70004 147 (kF vIf147) a0.pile_] [70000] (.d (tup [(kF vIf147).sig r.2.1, (kF vIf147).sig r.2.2])) [.box 70000 151 [.d (kL kS) r.1.l_.Names, .d (kL (kI .u32)) r.1.l_.Up, .d (kL ki) r.1.labels_, .v 70004], .row 70004 147 (kF vIf147) r.1.pile_] := by
 refine fnIntroS Tryz.func127 u (by kernel_rfl) fun X H0 w0 pv => ?_
 unfold judge_judge_two.f at h
 refine wSeq <| rx (cp (oAs (cNil (view := vIf147) (x := .nil) u)) tv <| cp (oAs (cNil (view := vIf147) (x := .nil) u)) tv <| .nil) <| pSeq <| wSeq <| rx (c3 <| cr (oLdN (n := 0) (k := 3) u u u t149 tm) (s1 u) <| cr (oLenR (n := 1) u149 u tm) (s1 u) <| c2 <| .nil) <| pSeq <| wSeq ?_
 obtain ⟨y1, hy1, h⟩ := bd h
 obtain ⟨y2, hy2, h⟩ := bd h
 refine rdx hm (c3 <| cr (oLdN (n := 0) (k := 3) u u u t149 tm) (s1 u) <| c1 <| cr (oIdxR (n := 1) u149 z147 u hy1 tm tm) (s2 u u) <| cr (oLdE (n := 1) u hy1 u t147 tm) (s1 u) <| c3 <| cr (oLdN (n := 0) (k := 3) u u u t149 tm) (s1 u) <| c2 <| cr (oIdxR (n := 1) u149 z147 u hy2 tm tm) (s2 u u) <| cr (oLdE (n := 1) u hy2 u t147 tm) (s1 u) <| c2 <| .nil) <| pSeq <| wSeq ?_
 obtain ⟨hc3, h⟩ := ib h
 refine rx (c4 <| cr (oLdN (n := 0) (k := 3) u u u t149 tm) (s1 u) <| c1 <| cw (oCutR (n := 1) (id' := 34) u149 z147 u hc3.1 hc3.2 tm tm) (s2 u u) <| c2 <| cwn (oStN (n := 0) (m := 1) (k := 3) u u u u z149 u tm tm) (s2 u u) <| .nil) <| pSeq <| wSeq <| rx (c4 <| .nil) <| pSeq <| wRet ?_
 obtain rfl := so h
 exact pSub (Γ' := [(2, .d ((kF vIf147).sig y1)), (3, .d ((kF vIf147).sig y2))]) (sb u) <| pRen 34 70004 u <| pSn [0, 1] u u (.inl u) u u (.tmp u <| .tmp u <| .nil)
theorem lattice_Flows.ok {a0 : api_Lattice} {a1 : Int} {a2 : Int} {r : Bool × Int} (h : lattice_Flows.f a0 a1 a2 = some r) : FnA PP 139 [(kR f_api_Lattice).sig a0, ki.sig a1, ki.sig a2] (tup [kB.sig r.1, ki.sig r.2]) := by
 refine fnIntro Tryz.func139 u (by kernel_rfl) fun H0 w0 => ?_
 unfold lattice_Flows.f at h
 refine wSeq <| rx (c3 <| .nil) <| pSeq <| wSeq <| wSeq ?_
 obtain ⟨y1, hy1, h⟩ := bd h
 refine rx (c3 <| cp (oLit (d := ki) el59 (by decide) u u u (e1 tm (e1 tm e0))) (s2 u u) <| cC (lattice_there.ok hy1) <| c1 <| .nil) <| pSeq <| wSeq <| rx (c2 <| .nil) <| pSeq ?_
 obtain ⟨hp2, h⟩ | ⟨hp2, h⟩ := ik h
 ·refine wNT hp2.1 tm (s1 u) <| wSkip <| pSeq <| wSeq ?_
  obtain ⟨y3, hy3, h⟩ := bd h
  refine rx (c3 <| cC (lattice_flows.ok hy3) <| c2 <| .nil) <| pSeq <| wRet ?_
  obtain rfl := so h
  exact pRn (.inl u) u u (.tmp u <| .tmp u <| .nil)
 ·refine wNF hp2.1 tm (s1 u) <| wSeq <| rx (c3 <| .nil) <| pSeq <| wRet <| pThenR ?_
  obtain rfl := so h
  exact pRn (.inl u) u u (.tmp u <| .tmp u <| .nil)
theorem lattice_Join.ok {a0 : api_Lattice} {a1 : Int} {a2 : Int} {r : Int × Int} (h : lattice_Join.f a0 a1 a2 = some r) : FnA PP 140 [(kR f_api_Lattice).sig a0, ki.sig a1, ki.sig a2] (tup [ki.sig r.1, ki.sig r.2]) := by
 refine fnIntro Tryz.func140 u (by kernel_rfl) fun H0 w0 => ?_
 unfold lattice_Join.f at h
 refine wSeq <| rx (c3 <| .nil) <| pSeq <| wSeq <| wSeq ?_
 obtain ⟨y1, hy1, h⟩ := bd h
 refine rx (c3 <| cp (oLit (d := ki) el59 (by decide) u u u (e1 tm (e1 tm e0))) (s2 u u) <| cC (lattice_there.ok hy1) <| c1 <| .nil) <| pSeq <| wSeq <| rx (c2 <| .nil) <| pSeq ?_
 obtain ⟨hp2, h⟩ | ⟨hp2, h⟩ := ik h
 ·refine wNT hp2.1 tm (s1 u) <| wSkip <| pSeq <| wSeq ?_
  obtain ⟨y3, hy3, h⟩ := bd h
  refine rx (c3 <| cC (lattice_join.ok hy3) <| c2 <| .nil) <| pSeq <| wRet ?_
  obtain rfl := so h
  exact pRn (.inl u) u u (.tmp u <| .tmp u <| .nil)
 ·refine wNF hp2.1 tm (s1 u) <| wSeq <| rx (c3 <| .nil) <| pSeq <| wRet <| pThenR ?_
  obtain rfl := so h
  exact pRn (.inl u) u u (.tmp u <| .tmp u <| .nil)
theorem lattice_Meet.ok {a0 : api_Lattice} {a1 : Int} {a2 : Int} {r : Int × Int} (h : lattice_Meet.f a0 a1 a2 = some r) : FnA PP 141 [(kR f_api_Lattice).sig a0, ki.sig a1, ki.sig a2] (tup [ki.sig r.1, ki.sig r.2]) := by
 refine fnIntro Tryz.func141 u (by kernel_rfl) fun H0 w0 => ?_
 unfold lattice_Meet.f at h
 refine wSeq <| rx (c3 <| .nil) <| pSeq <| wSeq <| wSeq ?_
 obtain ⟨y1, hy1, h⟩ := bd h
 refine rx (c3 <| cp (oLit (d := ki) el59 (by decide) u u u (e1 tm (e1 tm e0))) (s2 u u) <| cC (lattice_there.ok hy1) <| c1 <| .nil) <| pSeq <| wSeq <| rx (c2 <| .nil) <| pSeq ?_
 obtain ⟨hp2, h⟩ | ⟨hp2, h⟩ := ik h
 ·refine wNT hp2.1 tm (s1 u) <| wSkip <| pSeq <| wSeq ?_
  obtain ⟨y3, hy3, h⟩ := bd h
  refine rx (c3 <| cC (lattice_meet.ok hy3) <| c2 <| .nil) <| pSeq <| wRet ?_
  obtain rfl := so h
  exact pRn (.inl u) u u (.tmp u <| .tmp u <| .nil)
 ·refine wNF hp2.1 tm (s1 u) <| wSeq <| rx (c3 <| .nil) <| pSeq <| wRet <| pThenR ?_
  obtain rfl := so h
  exact pRn (.inl u) u u (.tmp u <| .tmp u <| .nil)
theorem judge_judge_both.ok {a0 : judge_judge} {a1 : Int} {a2 : If147} {a3 : If147} {r : judge_judge × If147} (h : judge_judge_both.f a0 a1 a2 a3 = some r) : FnS PP 128 [.p 70000 0, .d (ki.sig a1), .d ((kF vIf147).sig a2), .d ((kF vIf147).sig a3)] [.box 70000 151 [.d (kL kS) a0.l_.Names, .d (kL (kI .u32)) a0.l_.Up, .d (kL ki) a0.labels_, .v 70004], .row 70004 147 (kF vIf147) a0.pile_] [70000] (.d ((kF vIf147).sig r.2)) [.box 70000 151 [.d (kL kS) r.1.l_.Names, .d (kL (kI .u32)) r.1.l_.Up, .d (kL ki) r.1.labels_, .v 70004], .row 70004 147 (kF vIf147) r.1.pile_] := by
 refine fnIntroS Tryz.func128 u (by kernel_rfl) fun X H0 w0 pv => ?_
 unfold judge_judge_both.f at h
 refine wSeq <| rx (cp (oAs (cNil (view := vIf147) (x := .nil) u)) tv <| .nil) <| pSeq <| wSeq <| wSeq <| rx (c1 <| .nil) <| pSeq <| wBlock <| wSeq <| rx (cp (oTA asOk147_144 cb144 zv144 zvB tm) (s1 u) <| c2 <| .nil) <| pSeq ?_
 obtain ⟨hp1, h⟩ | ⟨hp1, h⟩ := ik h
 ·refine wBT hp1.1 tm (s1 u) <| wSeq <| rx (c1 <| .nil) <| pSeq <| wSeq <| rx (c1 <| cp (oTA asOk147_144 cb144 zv144 zvB tm) (s1 u) <| c4 <| c1 <| .nil) <| pSeq <| wSeq <| wSeq <| rx (c2 <| .nil) <| pSeq ?_
  obtain ⟨hp2, h⟩ | ⟨hp2, h⟩ := ik h
  ·refine wCT hp2.1 tm (s1 u) <| wWeak (Γ' := [(8, .d ((kF vIf147).sig If147.nil)), (9, .d (kB.sig ((as147_144 a2).1))), (10, .d (kB.sig ((as147_144 a3).1)))]) (sb u) <| wRen 70004 3505003 u ?_
   obtain ⟨o1, h, hk1⟩ := bd h
   refine wJ1 (fun x4 => x4 = o1) (fun x4 => [(8, .d ((kF vIf147).sig x4))]) (fun x4 => [.box 70000 151 [.d (kL kS) a0.l_.Names, .d (kL (kI .u32)) a0.l_.Up, .d (kL ki) a0.labels_, .v 3505003], .row 3505003 147 (kF vIf147) a0.pile_]) ?_ ?_
   ·obtain ⟨hp5, h⟩ | ⟨hp5, h⟩ := ik h
    ·exact rx (c4 <| cp (oMkI (view := vIf147) (x0 := If147.c144 ((as147_144 a3).1)) u cb144 tm) (s1 u) <| c1 <| .nil) <| pJ1 _ (so h) (sb u) u
    ·exact rx (c4 <| cp (oMkI (view := vIf147) (x0 := If147.c144 false) u cb144 tm) (s1 u) <| c1 <| .nil) <| pJ1 _ (so h) (sb u) u
   ·rintro x4 rfl
    replace h := hk1
    refine wRet <| pThenR <| pBlkR <| pThenR ?_
    obtain rfl := so h
    exact pSub (Γ' := [(8, .d ((kF vIf147).sig x4))]) (sb u) <| pRen 3505003 70004 u <| pS1 [0, 1] u u (.inl u) u (.tmp u <| .nil)
  ·refine wCF hp2.1 tm (s1 u) <| wSkip <| pSeq <| wWeak (Γ' := [(8, .d ((kF vIf147).sig If147.nil)), (9, .d (kB.sig ((as147_144 a2).1))), (10, .d (kB.sig ((as147_144 a3).1)))]) (sb u) <| wRen 70004 3505003 u ?_
   obtain ⟨o1, h, hk1⟩ := bd h
   refine wJ1 (fun x7 => x7 = o1) (fun x7 => [(8, .d ((kF vIf147).sig x7))]) (fun x7 => [.box 70000 151 [.d (kL kS) a0.l_.Names, .d (kL (kI .u32)) a0.l_.Up, .d (kL ki) a0.labels_, .v 3505003], .row 3505003 147 (kF vIf147) a0.pile_]) ?_ ?_
   ·obtain ⟨hp8, h⟩ | ⟨hp8, h⟩ := ik h
    ·exact rx (c4 <| cp (oMkI (view := vIf147) (x0 := If147.c144 true) u cb144 tm) (s1 u) <| c1 <| .nil) <| pJ1 _ (so h) (sb u) u
    ·exact rx (c4 <| cp (oMkI (view := vIf147) (x0 := If147.c144 ((as147_144 a3).1)) u cb144 tm) (s1 u) <| c1 <| .nil) <| pJ1 _ (so h) (sb u) u
   ·rintro x7 rfl
    replace h := hk1
    refine wRet <| pBlkR <| pThenR ?_
    obtain rfl := so h
    exact pSub (Γ' := [(8, .d ((kF vIf147).sig x7))]) (sb u) <| pRen 3505003 70004 u <| pS1 [0, 1] u u (.inl u) u (.tmp u <| .nil)
 ·refine wBF hp1.1 tm (s1 u) <| wSeq <| rx (cp (oTA asOk147_153 cb153 zv153 (zvI (by decide)) tm) (s1 u) <| c2 <| .nil) <| pSeq ?_
  obtain ⟨hp9, h⟩ | ⟨hp9, h⟩ := ik h
  ·refine wBT hp9.1 tm (s1 u) <| wSeq <| rx (c1 <| .nil) <| pSeq <| wSeq <| rx (c1 <| cp (oTA asOk147_153 cb153 zv153 (zvI (by decide)) tm) (s1 u) <| c4 <| c1 <| .nil) <| pSeq <| wSeq <| wSeq <| rx (c1 <| .nil) <| pSeq <| wBlock <| wSeq <| rx (c2 <| .nil) <| pSeq ?_
   obtain ⟨hp10, h⟩ | ⟨hp10, h⟩ := ik h
   ·refine wCT hp10.1 tm (s1 u) <| wSeq ?_
    obtain ⟨y11, hy11, h⟩ := bd h
    refine rx (c3 <| cr (oLdP (n := 0) (k := 0) (m := 2) (d := (kR f_api_Lattice)) (u := a0.l_) pt25 u u u t25 tm) (s1 u) <| c2 <| cC (lattice_Flows.ok hy11) <| c4 <| c1 <| .nil) <| pSeq <| wSeq <| rx (c1 <| cp (oMkI (view := vIf147) (x0 := If147.c144 y11.1) u cb144 tm) (s1 u) <| c1 <| .nil) <| pSeq <| wRet <| pBlkR <| pThenR <| pBlkR <| pThenR ?_
    obtain rfl := so h
    exact pS1 [0, 1] u u (.inl u) u (.tmp u <| .nil)
   ·refine wCF hp10.1 tm (s1 u) <| wSeq <| rx (c2 <| .nil) <| pSeq ?_
    obtain ⟨hp12, h⟩ | ⟨hp12, h⟩ := ik h
    ·refine wCT hp12.1 tm (s1 u) <| wSeq ?_
     obtain ⟨y13, hy13, h⟩ := bd h
     refine rx (c3 <| cr (oLdP (n := 0) (k := 0) (m := 2) (d := (kR f_api_Lattice)) (u := a0.l_) pt25 u u u t25 tm) (s1 u) <| c2 <| cC (lattice_Join.ok hy13) <| c4 <| c1 <| .nil) <| pSeq <| wSeq <| rx (c1 <| cp (oMkI (view := vIf147) (x0 := If147.c153 y13.1) u cb153 tm) (s1 u) <| c1 <| .nil) <| pSeq <| wRet <| pBlkR <| pThenR <| pBlkR <| pThenR ?_
     obtain rfl := so h
     exact pS1 [0, 1] u u (.inl u) u (.tmp u <| .nil)
    ·refine wCF hp12.1 tm (s1 u) <| wSkip <| pBlkN <| pSeq <| wSeq ?_
     obtain ⟨y14, hy14, h⟩ := bd h
     refine rx (c3 <| cr (oLdP (n := 0) (k := 0) (m := 2) (d := (kR f_api_Lattice)) (u := a0.l_) pt25 u u u t25 tm) (s1 u) <| c2 <| cC (lattice_Meet.ok hy14) <| c4 <| c1 <| .nil) <| pSeq <| wSeq <| rx (c1 <| cp (oMkI (view := vIf147) (x0 := If147.c153 y14.1) u cb153 tm) (s1 u) <| c1 <| .nil) <| pSeq <| wRet <| pBlkR <| pThenR ?_
     obtain rfl := so h
     exact pS1 [0, 1] u u (.inl u) u (.tmp u <| .nil)
  ·refine wBF hp9.1 tm (s1 u) <| wSkip <| pBlkN <| pSeq <| wSeq <| rx (c2 <| .nil) <| pSeq <| wRet ?_
   obtain rfl := so h
   exact pS1 [0, 1] u u (.inl u) u (.tmp u <| .nil)
theorem judge_judge_comes.ok {a0 : judge_judge} {a1 : List Int} {r : judge_judge × If147} (h : judge_judge_comes.f a0 a1 = some r) : FnS PP 103 [.p 70000 0, .d ((kL ki).sig a1)] [.box 70000 151 [.d (kL kS) a0.l_.Names, .d (kL (kI .u32)) a0.l_.Up, .d (kL ki) a0.labels_, .v 70004], .row 70004 147 (kF vIf147) a0.pile_] [70000] (.d ((kF vIf147).sig r.2)) [.box 70000 151 [.d (kL kS) r.1.l_.Names, .d (kL (kI .u32)) r.1.l_.Up, .d (kL ki) r.1.labels_, .v 70004], .row 70004 147 (kF vIf147) r.1.pile_] := by
 refine fnIntroS Tryz.func103 u (by kernel_rfl) fun X H0 w0 pv => ?_
 unfold judge_judge_comes.f at h
 refine wSeq <| rx (cp (oAs (cNil (view := vIf147) (x := .nil) u)) tv <| .nil) <| pSeq <| wSeq <| wSeq <| rx (c3 <| .nil) <| pSeq <| wWeak (Γ' := [(0, .p 70000 0), (13, .d ((kL ki).sig a1)), (14, .d (ki.sig (a1.length : Int))), (15, .d (ki.sig 0))]) (sb u) <| wRen 70004 3505003 u ?_
 obtain ⟨o1, h, hk1⟩ := bd h
 refine wK4 (fun x236 x237 x238 x239 => (x236, x237, x238, x239) = o1) (fun x236 x237 x238 x239 => [(0, .p 70000 0)]) (fun x236 x237 x238 x239 => [.box 70000 151 [.d (kL kS) x236, .d (kL (kI .u32)) x237, .d (kL ki) x238, .v 3505003], .row 3505003 147 (kF vIf147) x239]) ?_ ?_
 ·refine wBlock (wLoop ?_)
  refine lW (pc5 o1 (fun v231 v232 v233 v234 v235 => [(0, .p 70000 0), (13, .d ((kL ki).sig a1)), (14, .d (ki.sig (a1.length : Int))), (15, .d (ki.sig v235))]) (fun v231 v232 v233 v234 v235 => [.box 70000 151 [.d (kL kS) v231, .d (kL (kI .u32)) v232, .d (kL ki) v233, .v 3505003], .row 3505003 147 (kF vIf147) v234]) (judge_judge_comes.l0.partial_correctness a1) ?_ _ _ _ _ _ h) ⟨u, u, u, u, tv⟩ u
  clear h
  intro f' ih v231 v232 v233 v234 v235 h
  refine wSeq <| rx (c1 <| .nil) <| pSeq <| wSeq ?_
  obtain ⟨hp240, h⟩ | ⟨hp240, h⟩ := ik h
  ·refine wCT hp240.1 tm (s1 u) <| wSkip <| pSeq ?_
   obtain ⟨o2, h, hk2⟩ := bd h
   refine wJ4 (fun x296 x297 x298 x299 => (x296, x297, x298, x299) = o2) (fun x296 x297 x298 x299 => [(0, .p 70000 0), (13, .d ((kL ki).sig a1)), (14, .d (ki.sig (a1.length : Int))), (15, .d (ki.sig v235))]) (fun x296 x297 x298 x299 => [.box 70000 151 [.d (kL kS) x296, .d (kL (kI .u32)) x297, .d (kL ki) x298, .v 3505003], .row 3505003 147 (kF vIf147) x299]) ?_ ?_
   ·refine wBlock <| wSeq ?_
    obtain ⟨y300, hy300, h⟩ := bd h
    refine rx (cp (oIdx u59 z3 hy300 tm tm) (s2 u u) <| c2 <| .nil) <| pSeq <| wSeq <| rx (c1 <| .nil) <| pSeq ?_
    obtain ⟨o3, h, hk3⟩ := bd h
    refine wK4 (fun x326 x327 x328 x329 => (x326, x327, x328, x329) = o3) (fun x326 x327 x328 x329 => [(0, .p 70000 0), (13, .d ((kL ki).sig a1)), (14, .d (ki.sig (a1.length : Int))), (15, .d (ki.sig v235))]) (fun x326 x327 x328 x329 => [.box 70000 151 [.d (kL kS) x326, .d (kL (kI .u32)) x327, .d (kL ki) x328, .v 3505003], .row 3505003 147 (kF vIf147) x329]) ?_ ?_
    ·refine wBlock <| wSeq <| wSeq <| rx (c2 <| .nil) <| pSeq ?_
     obtain ⟨hp330, h⟩ | ⟨hp330, h⟩ := ik h
     ·refine wCT hp330.1 tm (s1 u) <| wSkip <| pSeq <| wCT hp330.1 tm (s1 u) ?_
      obtain ⟨y331, hy331, h⟩ := bd h
      exact rx (c3 <| cp (oMkI (view := vIf147) (x0 := If147.c144 (decide (y300 = 1))) u cb144 tm) (s1 u) <| cm (oCallS (rest := []) (R' := [.box 70000 151 [.d (kL kS) y331.l_.Names, .d (kL (kI .u32)) y331.l_.Up, .d (kL ki) y331.labels_, .v 390160], .row 390160 147 (kF vIf147) y331.pile_]) (out' := .d (tup [])) [(70000, 70000), (70004, 3505003)] [(70004, 390160)] [0, 1] [] [0, 1] u (judge_judge_put.ok hy331) b125 (oE1 tm (oE1 tm oE0)) u u u u u u u u) (s2 u u) <| .nil) <| pBlkN <| pSub (Γ' := [(0, .p 70000 0), (13, .d ((kL ki).sig a1)), (14, .d (ki.sig (a1.length : Int))), (15, .d (ki.sig v235))]) (sb u) <| pRen 390160 3505003 u <| pJ4 _ _ _ _ (so h) (sb u) u
     ·refine wCF hp330.1 tm (s1 u) <| rx (c2 <| .nil) <| pSeq ?_
      obtain ⟨hp332, h⟩ | ⟨hp332, h⟩ := ik h
      ·refine wCT hp332.1 tm (s1 u) ?_
       obtain ⟨y333, hy333, h⟩ := bd h
       exact rx (c3 <| cp (oMkI (view := vIf147) (x0 := If147.c144 (decide (y300 = 1))) u cb144 tm) (s1 u) <| cm (oCallS (rest := []) (R' := [.box 70000 151 [.d (kL kS) y333.l_.Names, .d (kL (kI .u32)) y333.l_.Up, .d (kL ki) y333.labels_, .v 390160], .row 390160 147 (kF vIf147) y333.pile_]) (out' := .d (tup [])) [(70000, 70000), (70004, 3505003)] [(70004, 390160)] [0, 1] [] [0, 1] u (judge_judge_put.ok hy333) b125 (oE1 tm (oE1 tm oE0)) u u u u u u u u) (s2 u u) <| .nil) <| pBlkN <| pSub (Γ' := [(0, .p 70000 0), (13, .d ((kL ki).sig a1)), (14, .d (ki.sig (a1.length : Int))), (15, .d (ki.sig v235))]) (sb u) <| pRen 390160 3505003 u <| pJ4 _ _ _ _ (so h) (sb u) u
      ·refine wCF hp332.1 tm (s1 u) <| wSeq <| rx (c2 <| .nil) <| pSeq ?_
       obtain ⟨hp334, h⟩ | ⟨hp334, h⟩ := ik h
       ·refine wCT hp334.1 tm (s1 u) <| wSeq ?_
        obtain ⟨y335, hy335, h⟩ := bd h
        refine rx (c3 <| cr (oLdP (n := 0) (k := 0) (m := 2) (d := (kR f_api_Lattice)) (u := (⟨v231, v232⟩ : api_Lattice)) pt25 u u u t25 tm) (s1 u) <| cC (lattice_Bottom.ok hy335) <| c4 <| c1 <| .nil) <| pSeq ?_
        obtain ⟨y336, hy336, h⟩ := bd h
        exact rx (c2 <| cp (oMkI (view := vIf147) (x0 := If147.c153 y335.1) u cb153 tm) (s1 u) <| cm (oCallS (rest := []) (R' := [.box 70000 151 [.d (kL kS) y336.l_.Names, .d (kL (kI .u32)) y336.l_.Up, .d (kL ki) y336.labels_, .v 420120], .row 420120 147 (kF vIf147) y336.pile_]) (out' := .d (tup [])) [(70000, 70000), (70004, 3505003)] [(70004, 420120)] [0, 1] [] [0, 1] u (judge_judge_put.ok hy336) b125 (oE1 tm (oE1 tm oE0)) u u u u u u u u) (s2 u u) <| .nil) <| pBlkN <| pSub (Γ' := [(0, .p 70000 0), (13, .d ((kL ki).sig a1)), (14, .d (ki.sig (a1.length : Int))), (15, .d (ki.sig v235))]) (sb u) <| pRen 420120 3505003 u <| pJ4 _ _ _ _ (so h) (sb u) u
       ·refine wCF hp334.1 tm (s1 u) <| wSeq <| rx (c2 <| .nil) <| pSeq ?_
        obtain ⟨hp337, h⟩ | ⟨hp337, h⟩ := ik h
        ·refine wCT hp337.1 tm (s1 u) <| wSeq ?_
         obtain ⟨y338, hy338, h⟩ := bd h
         refine rx (c3 <| cr (oLdP (n := 0) (k := 0) (m := 2) (d := (kR f_api_Lattice)) (u := (⟨v231, v232⟩ : api_Lattice)) pt25 u u u t25 tm) (s1 u) <| cC (lattice_Top.ok hy338) <| c4 <| c1 <| .nil) <| pSeq ?_
         obtain ⟨y339, hy339, h⟩ := bd h
         exact rx (c2 <| cp (oMkI (view := vIf147) (x0 := If147.c153 y338.1) u cb153 tm) (s1 u) <| cm (oCallS (rest := []) (R' := [.box 70000 151 [.d (kL kS) y339.l_.Names, .d (kL (kI .u32)) y339.l_.Up, .d (kL ki) y339.labels_, .v 450120], .row 450120 147 (kF vIf147) y339.pile_]) (out' := .d (tup [])) [(70000, 70000), (70004, 3505003)] [(70004, 450120)] [0, 1] [] [0, 1] u (judge_judge_put.ok hy339) b125 (oE1 tm (oE1 tm oE0)) u u u u u u u u) (s2 u u) <| .nil) <| pBlkN <| pSub (Γ' := [(0, .p 70000 0), (13, .d ((kL ki).sig a1)), (14, .d (ki.sig (a1.length : Int))), (15, .d (ki.sig v235))]) (sb u) <| pRen 450120 3505003 u <| pJ4 _ _ _ _ (so h) (sb u) u
        ·refine wCF hp337.1 tm (s1 u) <| wSeq <| wSeq <| rx (c2 <| .nil) <| pSeq ?_
         obtain ⟨hp340, h⟩ | ⟨hp340, h⟩ := ik h
         ·refine wCT hp340.1 tm (s1 u) <| wSkip <| pSeq <| wCT hp340.1 tm (s1 u) ?_
          obtain ⟨y341, hy341, h⟩ := bd h
          obtain ⟨y342, hy342, h⟩ := bd h
          exact rx (c4 <| cr (oLdB (n := 0) (k := 2) u u u t59 tm) (s1 u) <| c2 <| cp (oIdx u59 z3 hy341 tm tm) (s2 u u) <| c1 <| cp (oMkI (view := vIf147) (x0 := If147.c153 y341) u cb153 tm) (s1 u) <| cm (oCallS (rest := []) (R' := [.box 70000 151 [.d (kL kS) y342.l_.Names, .d (kL (kI .u32)) y342.l_.Up, .d (kL ki) y342.labels_, .v 500400], .row 500400 147 (kF vIf147) y342.pile_]) (out' := .d (tup [])) [(70000, 70000), (70004, 3505003)] [(70004, 500400)] [0, 1] [] [0, 1] u (judge_judge_put.ok hy342) b125 (oE1 tm (oE1 tm oE0)) u u u u u u u u) (s2 u u) <| .nil) <| pBlkN <| pSub (Γ' := [(0, .p 70000 0), (13, .d ((kL ki).sig a1)), (14, .d (ki.sig (a1.length : Int))), (15, .d (ki.sig v235))]) (sb u) <| pRen 500400 3505003 u <| pJ4 _ _ _ _ (so h) (sb u) u
         ·refine wCF hp340.1 tm (s1 u) <| wSeq <| rx (c2 <| .nil) <| pSeq ?_
          obtain ⟨hp343, h⟩ | ⟨hp343, h⟩ := ik h
          ·refine wCT hp343.1 tm (s1 u) <| wSkip <| pSeq <| wCT hp343.1 tm (s1 u) ?_
           obtain ⟨y344, hy344, h⟩ := bd h
           obtain ⟨y345, hy345, h⟩ := bd h
           exact rx (c4 <| cr (oLdB (n := 0) (k := 2) u u u t59 tm) (s1 u) <| c2 <| cp (oIdx u59 z3 hy344 tm tm) (s2 u u) <| c1 <| cp (oMkI (view := vIf147) (x0 := If147.c153 y344) u cb153 tm) (s1 u) <| cm (oCallS (rest := []) (R' := [.box 70000 151 [.d (kL kS) y345.l_.Names, .d (kL (kI .u32)) y345.l_.Up, .d (kL ki) y345.labels_, .v 500400], .row 500400 147 (kF vIf147) y345.pile_]) (out' := .d (tup [])) [(70000, 70000), (70004, 3505003)] [(70004, 500400)] [0, 1] [] [0, 1] u (judge_judge_put.ok hy345) b125 (oE1 tm (oE1 tm oE0)) u u u u u u u u) (s2 u u) <| .nil) <| pBlkN <| pSub (Γ' := [(0, .p 70000 0), (13, .d ((kL ki).sig a1)), (14, .d (ki.sig (a1.length : Int))), (15, .d (ki.sig v235))]) (sb u) <| pRen 500400 3505003 u <| pJ4 _ _ _ _ (so h) (sb u) u
          ·refine wCF hp343.1 tm (s1 u) <| wSeq <| rx (c2 <| .nil) <| pSeq ?_
           obtain ⟨hp346, h⟩ | ⟨hp346, h⟩ := ik h
           ·refine wCT hp346.1 tm (s1 u) <| wSkip <| pSeq <| wCT hp346.1 tm (s1 u) ?_
            obtain ⟨y347, hy347, h⟩ := bd h
            obtain ⟨y348, hy348, h⟩ := bd h
            exact rx (c4 <| cr (oLdB (n := 0) (k := 2) u u u t59 tm) (s1 u) <| c2 <| cp (oIdx u59 z3 hy347 tm tm) (s2 u u) <| c1 <| cp (oMkI (view := vIf147) (x0 := If147.c153 y347) u cb153 tm) (s1 u) <| cm (oCallS (rest := []) (R' := [.box 70000 151 [.d (kL kS) y348.l_.Names, .d (kL (kI .u32)) y348.l_.Up, .d (kL ki) y348.labels_, .v 500400], .row 500400 147 (kF vIf147) y348.pile_]) (out' := .d (tup [])) [(70000, 70000), (70004, 3505003)] [(70004, 500400)] [0, 1] [] [0, 1] u (judge_judge_put.ok hy348) b125 (oE1 tm (oE1 tm oE0)) u u u u u u u u) (s2 u u) <| .nil) <| pBlkN <| pSub (Γ' := [(0, .p 70000 0), (13, .d ((kL ki).sig a1)), (14, .d (ki.sig (a1.length : Int))), (15, .d (ki.sig v235))]) (sb u) <| pRen 500400 3505003 u <| pJ4 _ _ _ _ (so h) (sb u) u
           ·refine wCF hp346.1 tm (s1 u) <| rx (c2 <| .nil) <| pSeq ?_
            obtain ⟨hp349, h⟩ | ⟨hp349, h⟩ := ik h
            ·refine wCT hp349.1 tm (s1 u) ?_
             obtain ⟨y350, hy350, h⟩ := bd h
             obtain ⟨y351, hy351, h⟩ := bd h
             exact rx (c4 <| cr (oLdB (n := 0) (k := 2) u u u t59 tm) (s1 u) <| c2 <| cp (oIdx u59 z3 hy350 tm tm) (s2 u u) <| c1 <| cp (oMkI (view := vIf147) (x0 := If147.c153 y350) u cb153 tm) (s1 u) <| cm (oCallS (rest := []) (R' := [.box 70000 151 [.d (kL kS) y351.l_.Names, .d (kL (kI .u32)) y351.l_.Up, .d (kL ki) y351.labels_, .v 500400], .row 500400 147 (kF vIf147) y351.pile_]) (out' := .d (tup [])) [(70000, 70000), (70004, 3505003)] [(70004, 500400)] [0, 1] [] [0, 1] u (judge_judge_put.ok hy351) b125 (oE1 tm (oE1 tm oE0)) u u u u u u u u) (s2 u u) <| .nil) <| pBlkN <| pSub (Γ' := [(0, .p 70000 0), (13, .d ((kL ki).sig a1)), (14, .d (ki.sig (a1.length : Int))), (15, .d (ki.sig v235))]) (sb u) <| pRen 500400 3505003 u <| pJ4 _ _ _ _ (so h) (sb u) u
            ·refine wCF hp349.1 tm (s1 u) <| wSeq ?_
             obtain ⟨y352, hy352, h⟩ := bd h
             refine rx (c1 <| cm (oCallS (rest := []) (R' := [.box 70000 151 [.d (kL kS) y352.1.l_.Names, .d (kL (kI .u32)) y352.1.l_.Up, .d (kL ki) y352.1.labels_, .v 350040], .row 350040 147 (kF vIf147) y352.1.pile_]) (out' := .d (tup [(kF vIf147).sig y352.2.1, (kF vIf147).sig y352.2.2])) [(70000, 70000), (70004, 3505003)] [(70004, 350040)] [0, 1] [] [0, 1] u (judge_judge_two.ok hy352) b127 (oE1 tm oE0) u u u u u u u u) (s1 u) <| c4 <| c1 <| .nil) <| pSeq ?_
             obtain ⟨y353, hy353, h⟩ := bd h
             obtain ⟨y354, hy354, h⟩ := bd h
             exact rx (c4 <| c1 <| cm (oCallS (rest := []) (R' := [.box 70000 151 [.d (kL kS) y353.1.l_.Names, .d (kL (kI .u32)) y353.1.l_.Up, .d (kL ki) y353.1.labels_, .v 360200], .row 360200 147 (kF vIf147) y353.1.pile_]) (out' := .d ((kF vIf147).sig y353.2)) [(70000, 70000), (70004, 350040)] [(70004, 360200)] [0, 1] [] [0, 1] u (judge_judge_both.ok hy353) b128 (oE1 tm (oE1 tm (oE1 tm (oE1 tm oE0)))) u u u u u u u u) ⟨u, u, u, u, tv⟩ <| cm (oCallS (rest := []) (R' := [.box 70000 151 [.d (kL kS) y354.l_.Names, .d (kL (kI .u32)) y354.l_.Up, .d (kL ki) y354.labels_, .v 360240], .row 360240 147 (kF vIf147) y354.pile_]) (out' := .d (tup [])) [(70000, 70000), (70004, 360200)] [(70004, 360240)] [0, 1] [] [0, 1] u (judge_judge_put.ok hy354) b125 (oE1 tm (oE1 tm oE0)) u u u u u u u u) (s2 u u) <| .nil) <| pBlkN <| pSub (Γ' := [(0, .p 70000 0), (13, .d ((kL ki).sig a1)), (14, .d (ki.sig (a1.length : Int))), (15, .d (ki.sig v235))]) (sb u) <| pRen 360240 3505003 u <| pJ4 _ _ _ _ (so h) (sb u) u
    ·rintro x326 x327 x328 x329 rfl
     replace h := hk3
     exact pBlkN <| pJ4 _ _ _ _ (so h) (sb u) u
   ·rintro x296 x297 x298 x299 rfl
    replace h := hk2
    exact rx (c2 <| .nil) <| pLoop (lW (ih _ _ _ _ _ h) ⟨u, u, u, u, tv⟩ u)
  ·exact wCF hp240.1 tm (s1 u) <| wExit <| pThenX <| pThenX <| pBlkX <| pJ4 _ _ _ _ (so h) (sb u) u
 ·rintro x236 x237 x238 x239 rfl
  replace h := hk1
  refine pSeq <| wSeq ?_
  obtain ⟨y355, hy355, h⟩ := bd h
  refine rx (c3 <| cr (oLdN (n := 0) (k := 3) u u u t149 tm) (s1 u) <| cr (oIdxR (n := 1) u149 z147 u hy355 tm (cI (by decide))) (s1 u) <| cr (oLdE (n := 1) u hy355 u t147 tm) (s1 u) <| c1 <| .nil) <| pSeq <| wRet ?_
  obtain rfl := so h
  exact pSub (Γ' := [(4, .d ((kF vIf147).sig y355))]) (sb u) <| pRen 3505003 70004 u <| pS1 [0, 1] u u (.inl u) u (.tmp u <| .nil)
theorem judge_Cond.ok {a0 : api_Lattice} {a1 : List Int} {a2 : List Int} {r : Bool × Int} (h : judge_Cond.f a0 a1 a2 = some r) : FnA PP 58 [(kR f_api_Lattice).sig a0, (kL ki).sig a1, (kL ki).sig a2] (tup [kB.sig r.1, ki.sig r.2]) := by
 refine fnIntro Tryz.func58 u (by kernel_rfl) fun H0 w0 => ?_
 unfold judge_Cond.f at h
 refine wSeq <| rx (c3 <| .nil) <| pSeq <| wSeq <| wSeq ?_
 obtain ⟨y1, hy1, h⟩ := bd h
 refine rx (c3 <| cC (judge_may.ok hy1) <| c1 <| .nil) <| pSeq <| wSeq <| rx (c2 <| .nil) <| pSeq ?_
 obtain ⟨hp2, h⟩ | ⟨hp2, h⟩ := ik h
 ·refine wNT hp2.1 tm (s1 u) <| wSkip <| pSeq <| wSeq ?_
  obtain ⟨y3, hy3, h⟩ := bd h
  refine rx (c2 <| cp (oBuild (fs := f_judge_judge_n2) (u := ⟨a0, a2, []⟩) u ze151 pl151 po151_2 (.op (zc := [(.slice none 0 0), (.slice none 0 0)]) tm u (.op (zc := [(.slice none 0 0)]) tm u (.ze (zc := [(.slice none 0 0)]) zN .nil)))) (s2 u u) <| cm (okNil (n := 0) (k := 3) (id := 6103) (kF vIf147) 147 ((Ok.toL (oBoxP (id := 22) (d := (kR f_judge_judge_n2)) (ls := [.d (kL kS) a0.Names, .d (kL (kI .u32)) a0.Up, .d (kL ki) a2, .d (kN If147) []]) (lfS (lfC (lfS (lfC lf1 (lfC lf1 lfN))) (lfC lf1 (lfC lf1 lfN)))) u tm) (fun c e => by cases e))) u u u) (s1 u) <| c1 <| cm (oCallS (rest := []) (R' := [.row 340200 147 (kF vIf147) y3.1.pile_, .box 22 151 [.d (kL kS) y3.1.l_.Names, .d (kL (kI .u32)) y3.1.l_.Up, .d (kL ki) y3.1.labels_, .v 340200]]) (out' := .d ((kF vIf147).sig y3.2)) [(70000, 22), (70004, 6103)] [(70004, 340200)] [1, 0] [] [1, 0] u (judge_judge_comes.ok hy3) b103 (oE1 tm (oE1 tm oE0)) u u u u u u u u) (s2 u u) <| cp (oTA asOk147_144 cb144 zv144 zvB tm) (s1 u) <| c4 <| c1 <| .nil) <| pSeq <| wSeq <| rx (c3 <| .nil) <| pSeq <| wRet ?_
  obtain rfl := so h
  exact pRn (.inl u) u u (.tmp u <| .tmp u <| .nil)
 ·refine wNF hp2.1 tm (s1 u) <| wSeq <| rx (c3 <| .nil) <| pSeq <| wRet <| pThenR ?_
  obtain rfl := so h
  exact pRn (.inl u) u u (.tmp u <| .tmp u <| .nil)
theorem judge_Label.ok {a0 : api_Lattice} {a1 : List Int} {a2 : List Int} {r : Int × Int} (h : judge_Label.f a0 a1 a2 = some r) : FnA PP 59 [(kR f_api_Lattice).sig a0, (kL ki).sig a1, (kL ki).sig a2] (tup [ki.sig r.1, ki.sig r.2]) := by
 refine fnIntro Tryz.func59 u (by kernel_rfl) fun H0 w0 => ?_
 unfold judge_Label.f at h
 refine wSeq <| rx (c3 <| .nil) <| pSeq <| wSeq <| wSeq ?_
 obtain ⟨y1, hy1, h⟩ := bd h
 refine rx (c3 <| cC (judge_may.ok hy1) <| c1 <| .nil) <| pSeq <| wSeq <| rx (c2 <| .nil) <| pSeq ?_
 obtain ⟨hp2, h⟩ | ⟨hp2, h⟩ := ik h
 ·refine wNT hp2.1 tm (s1 u) <| wSkip <| pSeq <| wSeq ?_
  obtain ⟨y3, hy3, h⟩ := bd h
  refine rx (c2 <| cp (oBuild (fs := f_judge_judge_n2) (u := ⟨a0, a2, []⟩) u ze151 pl151 po151_2 (.op (zc := [(.slice none 0 0), (.slice none 0 0)]) tm u (.op (zc := [(.slice none 0 0)]) tm u (.ze (zc := [(.slice none 0 0)]) zN .nil)))) (s2 u u) <| cm (okNil (n := 0) (k := 3) (id := 6103) (kF vIf147) 147 ((Ok.toL (oBoxP (id := 22) (d := (kR f_judge_judge_n2)) (ls := [.d (kL kS) a0.Names, .d (kL (kI .u32)) a0.Up, .d (kL ki) a2, .d (kN If147) []]) (lfS (lfC (lfS (lfC lf1 (lfC lf1 lfN))) (lfC lf1 (lfC lf1 lfN)))) u tm) (fun c e => by cases e))) u u u) (s1 u) <| c1 <| cm (oCallS (rest := []) (R' := [.row 340200 147 (kF vIf147) y3.1.pile_, .box 22 151 [.d (kL kS) y3.1.l_.Names, .d (kL (kI .u32)) y3.1.l_.Up, .d (kL ki) y3.1.labels_, .v 340200]]) (out' := .d ((kF vIf147).sig y3.2)) [(70000, 22), (70004, 6103)] [(70004, 340200)] [1, 0] [] [1, 0] u (judge_judge_comes.ok hy3) b103 (oE1 tm (oE1 tm oE0)) u u u u u u u u) (s2 u u) <| cp (oTA asOk147_153 cb153 zv153 (zvI (by decide)) tm) (s1 u) <| c4 <| c1 <| .nil) <| pSeq <| wSeq <| rx (c3 <| .nil) <| pSeq <| wRet ?_
  obtain rfl := so h
  exact pRn (.inl u) u u (.tmp u <| .tmp u <| .nil)
 ·refine wNF hp2.1 tm (s1 u) <| wSeq <| rx (c3 <| .nil) <| pSeq <| wRet <| pThenR ?_
  obtain rfl := so h
  exact pRn (.inl u) u u (.tmp u <| .tmp u <| .nil)
theorem step_machine_put.ok {a0 : step_machine} {a1 : Int} {a2 : Int} {r : step_machine} (h : step_machine_put.f a0 a1 a2 = some r) : FnS PP 105 [.p 70000 0, .d (ki.sig a1), .d (ki.sig a2)] [.box 70000 111 [.d (kL kS) a0.l_.Names, .d (kL (kI .u32)) a0.l_.Up, .d ki a0.s_.Pc.V, .d ki a0.s_.Pc.L, .d (kL (kR f_api_Instr)) a0.s_.Code, .d (kL (kR f_api_Atom)) a0.s_.Mem, .v 70007, .d (kL (kR f_api_Atom)) a0.s_.Out, .d ki a0.x_.Op, .d ki a0.x_.N, .d ki a0.x_.L, .d kB a0.a_.Ret, .d ki a0.a_.V, .d ki a0.a_.L, .d kB a0.b_.Ret, .d ki a0.b_.V, .d ki a0.b_.L, .d kB a0.r_.Ret, .d ki a0.r_.V, .d ki a0.r_.L, .d ki a0.below_, .d ki a0.one_.x0_, .d ki a0.one_.x1_, .d ki a0.one_.x2_], .row 70007 76 (kR f_api_Slot) a0.s_.Stack] [70000] (.d (tup [])) [.box 70000 111 [.d (kL kS) r.l_.Names, .d (kL (kI .u32)) r.l_.Up, .d ki r.s_.Pc.V, .d ki r.s_.Pc.L, .d (kL (kR f_api_Instr)) r.s_.Code, .d (kL (kR f_api_Atom)) r.s_.Mem, .v 70007, .d (kL (kR f_api_Atom)) r.s_.Out, .d ki r.x_.Op, .d ki r.x_.N, .d ki r.x_.L, .d kB r.a_.Ret, .d ki r.a_.V, .d ki r.a_.L, .d kB r.b_.Ret, .d ki r.b_.V, .d ki r.b_.L, .d kB r.r_.Ret, .d ki r.r_.V, .d ki r.r_.L, .d ki r.below_, .d ki r.one_.x0_, .d ki r.one_.x1_, .d ki r.one_.x2_], .row 70007 76 (kR f_api_Slot) r.s_.Stack] := by
 refine fnIntroS Tryz.func105 u (by kernel_rfl) fun X H0 w0 pv => ?_
 unfold step_machine_put.f at h
 obtain ⟨hc1, h⟩ := ib h
 refine rx (c4 <| c1 <| cr (oLdN (n := 0) (k := 6) u u u t33 tm) (s1 u) <| c2 <| cp (oBuild (fs := f_api_Slot) (u := ⟨false, a1, a2⟩) u ze76 pl76 po76 (.ze (zc := [(.bool false)]) zB (.op (zc := [(.int .i64 0)]) tm u (.op (zc := [(.int .i64 0)]) tm u .nil)))) (s2 u u) <| cp (oLit (d := (kR f_api_Slot)) el33 (by decide) u u u (e1 tm e0)) (s1 u) <| cw (oApp (n := 1) (id' := 16) el33 (by decide) u (by decide) hc1 tm tm) (s2 u u) <| c3 <| cwn (oStN (n := 0) (m := 1) (k := 6) u u u u z33 u tm tm) (s2 u u) <| .nil) ?_
 obtain rfl := so h
 exact pSub (Γ' := []) tv <| pRen 16 70007 u <| pSn [0, 1] u u (.inr u) u u (.nil)
theorem slices_Grow_api_Slot_api_Slot_nil.ok {a1 : Int} {r : (List api_Slot)} (h : slices_Grow_api_Slot_api_Slot_nil.f a1 = some r) : FnS PP 129 [.d (sV (.slice none 0 0)), .d (ki.sig a1)] [] [] (.v 80000) [.row 80000 76 (kR f_api_Slot) r] := by
 refine fnIntroS Tryz.func129 u (by kernel_rfl) fun X H0 w0 pv => ?_
 unfold slices_Grow_api_Slot_api_Slot_nil.f at h
 refine wSeq <| rx (cp (oAs cV) tv <| .nil) <| pSeq <| wSeq <| wSeq <| rx (c2 <| .nil) <| pSeq ?_
 obtain ⟨hp1, h⟩ | ⟨hp1, h⟩ := ik h
 ·refine wCT hp1.1 tm (s1 u) ?_
  cases h
 ·refine wCF hp1.1 tm (s1 u) <| wSkip <| pSeq <| wSeq <| wSeq <| rx (c2 <| cp (oCapN u33 tm) (s1 u) <| c1 <| cp (oLenL u33 (tmN (d := (kR f_api_Slot)))) (s1 u) <| c3 <| .nil) <| pSeq <| wSeq <| rx (c2 <| .nil) <| pSeq ?_
  obtain ⟨hp2, h⟩ | ⟨hp2, h⟩ := ik h
  ·refine wCT hp2.1 tm (s1 u) ?_
   obtain ⟨hc3, h⟩ := ib h
   obtain ⟨hc4, h⟩ := ib h
   refine rx (c2 <| cp (oCapN u33 tm) (s1 u) <| cp (oCutN u33 z76 u tm tm) (s2 u u) <| c1 <| cw (oAppZ (id := 22) (d := (kR f_api_Slot)) el33 u3 (by decide) (by decide) ze76 zR_api_Slot hc3.1 hc3.2 tm tm) (s2 u u) <| c1 <| cp (oLenL u33 (tmN (d := (kR f_api_Slot)))) (s1 u) <| cw (oCutR (n := 0) (id' := 25) u33 z76 u hc4.1 hc4.2 tm tm) (s2 u u) <| c1 <| .nil) <| pSeq <| wSeq <| rx (c2 <| .nil) <| pSeq <| wRet ?_
   obtain rfl := so h
   exact pSub (Γ' := [(4, .v 25)]) (sb u) <| pRen 25 80000 u <| pSv [0] u u (.inl u) u u
  ·refine wCF hp2.1 tm (s1 u) <| wSkip <| pSeq <| wSeq <| rx (c2 <| .nil) <| pSeq <| wNil (kR f_api_Slot) 76 9004 4 u u <| wRet ?_
   obtain rfl := so h
   exact pSub (Γ' := [(4, .v 9004)]) (sb u) <| pRen 9004 80000 u <| pSv [0] u u (.inl u) u u
theorem slices_Concat_api_Slot_api_Slot.ok {a0 : List (List api_Slot)} {r : List api_Slot} (h : slices_Concat_api_Slot_api_Slot.f a0 = some r) : FnA PP 107 [(kL (kL (kR f_api_Slot))).sig a0] ((kL (kR f_api_Slot)).sig r) := by
 refine fnIntro Tryz.func107 u (by kernel_rfl) fun H0 w0 => ?_
 unfold slices_Concat_api_Slot_api_Slot.f at h
 refine wSeq <| rx (cp (oAs cV) tv <| .nil) <| pSeq <| wSeq <| rx (c1 <| .nil) <| pSeq <| wSeq <| wSeq <| rx (c3 <| .nil) <| pSeq ?_
 obtain ⟨o1, h, hk1⟩ := bd h
 refine wK1 (fun x15 => x15 = o1) (fun x15 => [(0, .d ((kL (kL (kR f_api_Slot))).sig a0)), (3, .d (ki.sig x15))]) (fun x15 => []) ?_ ?_
 ·refine wBlock (wLoop ?_)
  refine lW (pc2 o1 (fun v13 v14 => [(0, .d ((kL (kL (kR f_api_Slot))).sig a0)), (3, .d (ki.sig v14)), (9, .d ((kL (kL (kR f_api_Slot))).sig a0)), (10, .d (ki.sig (a0.length : Int))), (11, .d (ki.sig v13))]) (fun v13 v14 => []) (slices_Concat_api_Slot_api_Slot.l0.partial_correctness a0) ?_ _ _ h) ⟨u, u, u, u, u, tv⟩ u
  clear h
  intro f' ih v13 v14 h
  refine wSeq <| rx (c1 <| .nil) <| pSeq <| wSeq ?_
  obtain ⟨hp16, h⟩ | ⟨hp16, h⟩ := ik h
  ·refine wCT hp16.1 tm (s1 u) <| wSkip <| pSeq ?_
   obtain ⟨o2, h, hk2⟩ := bd h
   refine wJ1 (fun x19 => x19 = o2) (fun x19 => [(0, .d ((kL (kL (kR f_api_Slot))).sig a0)), (3, .d (ki.sig x19)), (9, .d ((kL (kL (kR f_api_Slot))).sig a0)), (10, .d (ki.sig (a0.length : Int))), (11, .d (ki.sig v13))]) (fun x19 => []) ?_ ?_
   ·refine wBlock <| wSeq ?_
    obtain ⟨y20, hy20, h⟩ := bd h
    refine rx (cp (oIdx u178 z33 hy20 tm tm) (s2 u u) <| c2 <| .nil) <| pSeq <| wSeq <| rx (c4 <| c1 <| .nil) <| pSeq <| wSeq <| rx (c2 <| .nil) <| pSeq ?_
    obtain ⟨hp21, h⟩ | ⟨hp21, h⟩ := ik h
    ·refine wCT hp21.1 tm (s1 u) ?_
     cases h
    ·exact wCF hp21.1 tm (s1 u) <| wSkip <| pBlkN <| pJ1 _ (so h) (sb u) u
   ·rintro x19 rfl
    replace h := hk2
    exact rx (c2 <| .nil) <| pLoop (lW (ih _ _ h) ⟨u, u, u, u, u, tv⟩ u)
  ·exact wCF hp16.1 tm (s1 u) <| wExit <| pThenX <| pThenX <| pBlkX <| pJ1 _ (so h) (sb u) u
 ·rintro x15 rfl
  replace h := hk1
  refine pSeq <| wSeq ?_
  obtain ⟨y22, hy22, h⟩ := bd h
  refine rx (c1 <| cm (oCallS (rest := []) (R' := [.row 390040 76 (kR f_api_Slot) y22]) (out' := .v 390040) [] [(80000, 390040)] [] [] [0] u (slices_Grow_api_Slot_api_Slot_nil.ok hy22) b129 (oE1 cV (oE1 tm oE0)) u u u u u u u u) (s1 u) <| c1 <| .nil) <| pSeq <| wSeq <| wSeq <| rx (c3 <| .nil) <| pSeq <| wWeak (Γ' := [(6, .v 390040), (25, .d ((kL (kL (kR f_api_Slot))).sig a0)), (26, .d (ki.sig (a0.length : Int))), (27, .d (ki.sig 0))]) (sb u) <| wRen 390040 1006 u ?_
  obtain ⟨o1, h, hk1⟩ := bd h
  refine wK1 (fun x31 => x31 = o1) (fun x31 => [(6, .v 1006)]) (fun x31 => [.row 1006 76 (kR f_api_Slot) x31]) ?_ ?_
  ·refine wBlock (wLoop ?_)
   refine lW (pc2 o1 (fun v29 v30 => [(6, .v 1006), (25, .d ((kL (kL (kR f_api_Slot))).sig a0)), (26, .d (ki.sig (a0.length : Int))), (27, .d (ki.sig v30))]) (fun v29 v30 => [.row 1006 76 (kR f_api_Slot) v29]) (slices_Concat_api_Slot_api_Slot.l1.partial_correctness a0) ?_ _ _ h) ⟨u, u, u, u, tv⟩ u
   clear h
   intro f' ih v29 v30 h
   refine wSeq <| rx (c1 <| .nil) <| pSeq <| wSeq ?_
   obtain ⟨hp32, h⟩ | ⟨hp32, h⟩ := ik h
   ·refine wCT hp32.1 tm (s1 u) <| wSkip <| pSeq <| wSeq <| wBlock <| wSeq ?_
    obtain ⟨y33, hy33, h⟩ := bd h
    refine rx (cp (oIdx u178 z33 hy33 tm tm) (s2 u u) <| c2 <| .nil) <| pSeq ?_
    obtain ⟨hc34, h⟩ := ib h
    exact rx (c2 <| cw (oApp (n := 0) (id' := 33) el33 (by decide) u (by decide) hc34 tm tm) (s2 u u) <| c1 <| .nil) <| pBlkN <| pSeq <| rx (c2 <| .nil) <| pSub (Γ' := [(6, .v 33), (25, .d ((kL (kL (kR f_api_Slot))).sig a0)), (26, .d (ki.sig (a0.length : Int))), (27, .d (ki.sig (IntKind.i64.wrap (v30 + 1))))]) (sb u) <| pRen 33 1006 u <| pLoop (lW (ih _ _ h) ⟨u, u, u, u, tv⟩ u)
   ·exact wCF hp32.1 tm (s1 u) <| wExit <| pThenX <| pThenX <| pBlkX <| pJ1 _ (so h) (sb u) u
  ·rintro x31 rfl
   replace h := hk1
   refine pSeq <| wSeq <| rx (c2 <| .nil) <| pSeq <| wFrzR (n := 0) (id := 1006) [2] u u ⟨u, tv⟩ <| wRet ?_
   obtain rfl := so h
   exact pR1 (.inl u) u (.tmp u <| .nil)
theorem slices_Clone_api_Slot_api_Slot_nn.okN {a0 : List api_Slot} {r : (List api_Slot)} (h : slices_Clone_api_Slot_api_Slot_nn.f a0 = some r) : FnS PP 104 [.d (sNN (kR f_api_Slot) a0)] [] [] (.v 80000) [.row 80000 76 (kR f_api_Slot) r] := by
 refine fnIntroS Tryz.func104 u (by kernel_rfl) fun X H0 w0 pv => ?_
 unfold slices_Clone_api_Slot_api_Slot_nn.f at h
 refine wSeq <| rx (cp (oAs cV) tv <| .nil) <| pSeq <| wSeq <| wSeq <| rx (c1 <| cp (oEqNF (d := (kR f_api_Slot)) u33 tm cV) (s1 u) <| .nil) <| pSeq <| wCondF tm (s1 u) <| wSkip <| pSeq <| wSeq ?_
 obtain ⟨hc1, h⟩ := ib h
 refine rx (cw (oLitR (id := 5) (d := (kR f_api_Slot)) el33 (by decide) u u u e0) tv <| c1 <| cw (oApp (n := 0) (id' := 7) el33 (by decide) u (by decide) hc1 tm tNN) (s2 u u) <| c1 <| .nil) <| pSeq <| wRet ?_
 obtain rfl := so h
 exact pSub (Γ' := [(2, .v 7)]) (sb u) <| pRen 7 80000 u <| pSv [0] u u (.inl u) u u
theorem slices_Clone_api_Slot_api_Slot_nn.ok {a0 : List api_Slot} {r : (List api_Slot)} (h : slices_Clone_api_Slot_api_Slot_nn.f a0 = some r) : FnS PP 104 [.d ((kL (kR f_api_Slot)).sig a0)] [] [] (.v 80000) [.row 80000 76 (kR f_api_Slot) r] :=
 libClone clone104_nil (by rintro rfl; have h' := h; unfold slices_Clone_api_Slot_api_Slot_nn.f at h'; split at h' <;> cases h'; rfl) (slices_Clone_api_Slot_api_Slot_nn.okN h)
theorem slices_Clone_api_Atom_api_Atom_nn.okN {a0 : List api_Atom} {r : (List api_Atom)} (h : slices_Clone_api_Atom_api_Atom_nn.f a0 = some r) : FnS PP 106 [.d (sNN (kR f_api_Atom) a0)] [] [] (.v 80000) [.row 80000 30 (kR f_api_Atom) r] := by
 refine fnIntroS Tryz.func106 u (by kernel_rfl) fun X H0 w0 pv => ?_
 unfold slices_Clone_api_Atom_api_Atom_nn.f at h
 refine wSeq <| rx (cp (oAs cV) tv <| .nil) <| pSeq <| wSeq <| wSeq <| rx (c1 <| cp (oEqNF (d := (kR f_api_Atom)) u32 tm cV) (s1 u) <| .nil) <| pSeq <| wCondF tm (s1 u) <| wSkip <| pSeq <| wSeq ?_
 obtain ⟨hc1, h⟩ := ib h
 refine rx (cw (oLitR (id := 5) (d := (kR f_api_Atom)) el32 (by decide) u u u e0) tv <| c1 <| cw (oApp (n := 0) (id' := 7) el32 (by decide) u (by decide) hc1 tm tNN) (s2 u u) <| c1 <| .nil) <| pSeq <| wRet ?_
 obtain rfl := so h
 exact pSub (Γ' := [(2, .v 7)]) (sb u) <| pRen 7 80000 u <| pSv [0] u u (.inl u) u u
theorem slices_Clone_api_Atom_api_Atom_nn.ok {a0 : List api_Atom} {r : (List api_Atom)} (h : slices_Clone_api_Atom_api_Atom_nn.f a0 = some r) : FnS PP 106 [.d ((kL (kR f_api_Atom)).sig a0)] [] [] (.v 80000) [.row 80000 30 (kR f_api_Atom) r] :=
 libClone clone106_nil (by rintro rfl; have h' := h; unfold slices_Clone_api_Atom_api_Atom_nn.f at h'; split at h' <;> cases h'; rfl) (slices_Clone_api_Atom_api_Atom_nn.okN h)
theorem step_machine_does.ok {a0 : step_machine} {a1 : Int} {r : step_machine} (h : step_machine_does.f a0 a1 = some r) : FnS PP 60 [.p 70000 0, .d (ki.sig a1)] [.box 70000 111 (L111 a0)] [70000] (.d (tup [])) [.box 70000 111 (L111 r)] := by
 refine fnIntroS Tryz.func60 u (by kernel_rfl) fun X H0 w0 pv => ?_
 unfold step_machine_does.f at h
 refine wSeq <| rx (c4 <| cr (oLdK (n := 0) (k := 6) u u (by kernel_rfl) t33 tm) (s1 u) <| c1 <| .nil) <| pSeq <| wSeq ?_
 obtain ⟨hc1, h⟩ := ib h
 obtain ⟨y2, hy2, h⟩ := bd h
 refine rx (c4 <| c1 <| cr (oLdK (n := 0) (k := 20) u u (by kernel_rfl) t3 tm) (s1 u) <| cp (oCutHi u33 z76 hc1.1 hc1.2 tm tm) (s2 u u) <| cm (oCallS (rest := [.box 70000 111 (L111 a0)]) (R' := [.row 310280 76 (kR f_api_Slot) y2, .box 70000 111 (L111 a0)]) (out' := .v 310280) [] [(80000, 310280)] [] [0] [0, 1] u (slices_Clone_api_Slot_api_Slot_nn.ok hy2) b104 (oE1 tm oE0) u u u u u u u u) (s1 u) <| c3 <| cwn (oStN (n := 1) (m := 0) (k := 6) u u u u z33 u tm tm) (s2 u u) <| .nil) <| pSeq <| wSeq <| rx (c4 <| c1 <| cr (oLdK (n := 1) (k := 2) u u (by kernel_rfl) t3 tm) (s1 u) <| c2 <| .nil) <| pSeq <| wSeq <| wSeq <| rx (c4 <| cr (oLdK (n := 1) (k := 8) u u (by kernel_rfl) t3 tm) (s1 u) <| .nil) <| pSeq <| wWeak (Γ' := [(0, .p 70000 0), (1, .d (ki.sig a1)), (4, .d ((kL (kR f_api_Slot)).sig a0.s_.Stack)), (5, .d (ki.sig (IntKind.i64.wrap (a0.s_.Pc.V + 1)))), (34, .d (ki.sig a0.x_.Op))]) (sb u) <| wRen 310280 3505006 u ?_
 obtain ⟨o1, h, hk1⟩ := bd h
 refine wK2 (fun x28 x29 => (x28, x29) = o1) (fun x28 x29 => [(0, .p 70000 0), (5, .d (ki.sig x29))]) (fun x28 x29 => [.box 70000 111 (L111 x28)]) ?_ ?_
 ·refine wBlock <| wSeq <| rx (c2 <| .nil) <| pSeq ?_
  obtain ⟨hp30, h⟩ | ⟨hp30, h⟩ := ik h
  ·refine wCT hp30.1 tm (s1 u) ?_
   obtain ⟨y31, hy31, h⟩ := bd h
   exact rx (c4 <| c1 <| cr (oLdK (n := 1) (k := 9) u u (by kernel_rfl) t3 tm) (s1 u) <| c1 <| cm (oCallS (rest := []) (R' := [.row 350280 76 (kR f_api_Slot) y31.s_.Stack, .box 70000 111 [.d (kL kS) y31.l_.Names, .d (kL (kI .u32)) y31.l_.Up, .d ki y31.s_.Pc.V, .d ki y31.s_.Pc.L, .d (kL (kR f_api_Instr)) y31.s_.Code, .d (kL (kR f_api_Atom)) y31.s_.Mem, .v 350280, .d (kL (kR f_api_Atom)) y31.s_.Out, .d ki y31.x_.Op, .d ki y31.x_.N, .d ki y31.x_.L, .d kB y31.a_.Ret, .d ki y31.a_.V, .d ki y31.a_.L, .d kB y31.b_.Ret, .d ki y31.b_.V, .d ki y31.b_.L, .d kB y31.r_.Ret, .d ki y31.r_.V, .d ki y31.r_.L, .d ki y31.below_, .d ki y31.one_.x0_, .d ki y31.one_.x1_, .d ki y31.one_.x2_]]) (out' := .d (tup [])) [(70000, 70000), (70007, 3505006)] [(70007, 350280)] [1, 0] [] [1, 0] u (step_machine_put.ok hy31) b105 (oE1 tm (oE1 tm (oE1 tm oE0))) u u u u u u u u) (s3 u u u) <| .nil) <| pBlkN <| pFrzR (n := 0) (id := 350280) [] u u tv <| pJ2 _ _ (so h) (sb u) u
  ·refine wCF hp30.1 tm (s1 u) <| wSeq <| rx (c2 <| .nil) <| pSeq ?_
   obtain ⟨hp32, h⟩ | ⟨hp32, h⟩ := ik h
   ·refine wCT hp32.1 tm (s1 u) ?_
    obtain ⟨y33, hy33, h⟩ := bd h
    exact rdx hm (c4 <| c1 <| cr (oLdK (n := 1) (k := 15) u u (by kernel_rfl) t3 tm) (s1 u) <| c4 <| cr (oLdK (n := 1) (k := 12) u u (by kernel_rfl) t3 tm) (s1 u) <| c2 <| cm (oCallS (rest := []) (R' := [.row 370520 76 (kR f_api_Slot) y33.s_.Stack, .box 70000 111 [.d (kL kS) y33.l_.Names, .d (kL (kI .u32)) y33.l_.Up, .d ki y33.s_.Pc.V, .d ki y33.s_.Pc.L, .d (kL (kR f_api_Instr)) y33.s_.Code, .d (kL (kR f_api_Atom)) y33.s_.Mem, .v 370520, .d (kL (kR f_api_Atom)) y33.s_.Out, .d ki y33.x_.Op, .d ki y33.x_.N, .d ki y33.x_.L, .d kB y33.a_.Ret, .d ki y33.a_.V, .d ki y33.a_.L, .d kB y33.b_.Ret, .d ki y33.b_.V, .d ki y33.b_.L, .d kB y33.r_.Ret, .d ki y33.r_.V, .d ki y33.r_.L, .d ki y33.below_, .d ki y33.one_.x0_, .d ki y33.one_.x1_, .d ki y33.one_.x2_]]) (out' := .d (tup [])) [(70000, 70000), (70007, 3505006)] [(70007, 370520)] [1, 0] [] [1, 0] u (step_machine_put.ok hy33) b105 (oE1 tm (oE1 tm (oE1 tm oE0))) u u u u u u u u) (s3 u u u) <| .nil) <| pBlkN <| pFrzR (n := 0) (id := 370520) [] u u tv <| pJ2 _ _ (so h) (sb u) u
   ·refine wCF hp32.1 tm (s1 u) <| wSeq <| rx (c2 <| .nil) <| pSeq ?_
    obtain ⟨hp34, h⟩ | ⟨hp34, h⟩ := ik h
    ·refine wCT hp34.1 tm (s1 u) ?_
     obtain ⟨y35, hy35, h⟩ := bd h
     exact rdx hm (c4 <| c1 <| cr (oLdK (n := 1) (k := 15) u u (by kernel_rfl) t3 tm) (s1 u) <| c4 <| cr (oLdK (n := 1) (k := 12) u u (by kernel_rfl) t3 tm) (s1 u) <| c2 <| cm (oCallS (rest := []) (R' := [.row 390520 76 (kR f_api_Slot) y35.s_.Stack, .box 70000 111 [.d (kL kS) y35.l_.Names, .d (kL (kI .u32)) y35.l_.Up, .d ki y35.s_.Pc.V, .d ki y35.s_.Pc.L, .d (kL (kR f_api_Instr)) y35.s_.Code, .d (kL (kR f_api_Atom)) y35.s_.Mem, .v 390520, .d (kL (kR f_api_Atom)) y35.s_.Out, .d ki y35.x_.Op, .d ki y35.x_.N, .d ki y35.x_.L, .d kB y35.a_.Ret, .d ki y35.a_.V, .d ki y35.a_.L, .d kB y35.b_.Ret, .d ki y35.b_.V, .d ki y35.b_.L, .d kB y35.r_.Ret, .d ki y35.r_.V, .d ki y35.r_.L, .d ki y35.below_, .d ki y35.one_.x0_, .d ki y35.one_.x1_, .d ki y35.one_.x2_]]) (out' := .d (tup [])) [(70000, 70000), (70007, 3505006)] [(70007, 390520)] [1, 0] [] [1, 0] u (step_machine_put.ok hy35) b105 (oE1 tm (oE1 tm (oE1 tm oE0))) u u u u u u u u) (s3 u u u) <| .nil) <| pBlkN <| pFrzR (n := 0) (id := 390520) [] u u tv <| pJ2 _ _ (so h) (sb u) u
    ·refine wCF hp34.1 tm (s1 u) <| wSeq <| rx (c2 <| .nil) <| pSeq ?_
     obtain ⟨hp36, h⟩ | ⟨hp36, h⟩ := ik h
     ·refine wCT hp36.1 tm (s1 u) ?_
      obtain ⟨y37, hy37, h⟩ := bd h
      obtain ⟨y38, hy38, h⟩ := bd h
      exact rdx hm (c4 <| c1 <| cr (oLdK (n := 1) (k := 5) u u (by kernel_rfl) t32 tm) (s1 u) <| c4 <| cr (oLdK (n := 1) (k := 12) u u (by kernel_rfl) t3 tm) (s1 u) <| cp (oIdx u32 z30 hy37 tm tm) (s2 u u) <| c3 <| cm (oCallS (rest := []) (R' := [.row 410600 76 (kR f_api_Slot) y38.s_.Stack, .box 70000 111 [.d (kL kS) y38.l_.Names, .d (kL (kI .u32)) y38.l_.Up, .d ki y38.s_.Pc.V, .d ki y38.s_.Pc.L, .d (kL (kR f_api_Instr)) y38.s_.Code, .d (kL (kR f_api_Atom)) y38.s_.Mem, .v 410600, .d (kL (kR f_api_Atom)) y38.s_.Out, .d ki y38.x_.Op, .d ki y38.x_.N, .d ki y38.x_.L, .d kB y38.a_.Ret, .d ki y38.a_.V, .d ki y38.a_.L, .d kB y38.b_.Ret, .d ki y38.b_.V, .d ki y38.b_.L, .d kB y38.r_.Ret, .d ki y38.r_.V, .d ki y38.r_.L, .d ki y38.below_, .d ki y38.one_.x0_, .d ki y38.one_.x1_, .d ki y38.one_.x2_]]) (out' := .d (tup [])) [(70000, 70000), (70007, 3505006)] [(70007, 410600)] [1, 0] [] [1, 0] u (step_machine_put.ok hy38) b105 (oE1 tm (oE1 tm (oE1 tm oE0))) u u u u u u u u) (s3 u u u) <| .nil) <| pBlkN <| pFrzR (n := 0) (id := 410600) [] u u tv <| pJ2 _ _ (so h) (sb u) u
     ·refine wCF hp36.1 tm (s1 u) <| wSeq <| rx (c2 <| .nil) <| pSeq ?_
      obtain ⟨hp39, h⟩ | ⟨hp39, h⟩ := ik h
      ·refine wCT hp39.1 tm (s1 u) <| wSeq ?_
       obtain ⟨y40, hy40, h⟩ := bd h
       refine rx (c4 <| c1 <| cr (oLdK (n := 1) (k := 5) u u (by kernel_rfl) t32 tm) (s1 u) <| cm (oCallS (rest := [.row 3505006 76 (kR f_api_Slot) y2, .box 70000 111 [.d (kL kS) a0.l_.Names, .d (kL (kI .u32)) a0.l_.Up, .d ki a0.s_.Pc.V, .d ki a0.s_.Pc.L, .d (kL (kR f_api_Instr)) a0.s_.Code, .d (kL (kR f_api_Atom)) a0.s_.Mem, .v 3505006, .d (kL (kR f_api_Atom)) a0.s_.Out, .d ki a0.x_.Op, .d ki a0.x_.N, .d ki a0.x_.L, .d kB a0.a_.Ret, .d ki a0.a_.V, .d ki a0.a_.L, .d kB a0.b_.Ret, .d ki a0.b_.V, .d ki a0.b_.L, .d kB a0.r_.Ret, .d ki a0.r_.V, .d ki a0.r_.L, .d ki a0.below_, .d ki a0.one_.x0_, .d ki a0.one_.x1_, .d ki a0.one_.x2_]]) (R' := [.row 430240 30 (kR f_api_Atom) y40, .row 3505006 76 (kR f_api_Slot) y2, .box 70000 111 [.d (kL kS) a0.l_.Names, .d (kL (kI .u32)) a0.l_.Up, .d ki a0.s_.Pc.V, .d ki a0.s_.Pc.L, .d (kL (kR f_api_Instr)) a0.s_.Code, .d (kL (kR f_api_Atom)) a0.s_.Mem, .v 3505006, .d (kL (kR f_api_Atom)) a0.s_.Out, .d ki a0.x_.Op, .d ki a0.x_.N, .d ki a0.x_.L, .d kB a0.a_.Ret, .d ki a0.a_.V, .d ki a0.a_.L, .d kB a0.b_.Ret, .d ki a0.b_.V, .d ki a0.b_.L, .d kB a0.r_.Ret, .d ki a0.r_.V, .d ki a0.r_.L, .d ki a0.below_, .d ki a0.one_.x0_, .d ki a0.one_.x1_, .d ki a0.one_.x2_]]) (out' := .v 430240) [] [(80000, 430240)] [] [0, 1] [0, 1, 2] u (slices_Clone_api_Atom_api_Atom_nn.ok hy40) b106 (oE1 tm oE0) u u u u u u u u) (s1 u) <| c3 <| cwn (oStN (n := 2) (m := 0) (k := 5) u u u u z32 u tm tm) (s2 u u) <| .nil) <| pSeq ?_
       obtain ⟨y41, hy41, h⟩ := bd h
       exact rdx hm (c4 <| cr (oLdN (n := 2) (k := 5) u u u t32 tm) (s1 u) <| c4 <| cr (oLdK (n := 2) (k := 12) u u (by kernel_rfl) t3 tm) (s1 u) <| c4 <| cr (oLdK (n := 2) (k := 15) u u (by kernel_rfl) t3 tm) (s1 u) <| c1 <| cp (oBuild (fs := f_api_Atom) (u := ⟨a0.b_.V, a1⟩) u ze30 pl30 po30 (.op (zc := [(.int .i64 0)]) tm u (.op (zc := [(.int .i64 0)]) tm u .nil))) (s2 u u) <| cr (oIdxR (n := 0) u32 z30 u hy41 tm tm) (s2 u u) <| cwn (oStE (n := 0) u hy41 u z30 tm tm) (s2 u u) <| .nil) <| pBlkN <| pFrzR (n := 0) (id := 430240) [] u u tv <| pFrzR (n := 0) (id := 3505006) [] u u tv <| pJ2 _ _ (so h) (sb u) u
      ·refine wCF hp39.1 tm (s1 u) <| wSeq <| rx (c2 <| .nil) <| pSeq ?_
       obtain ⟨hp42, h⟩ | ⟨hp42, h⟩ := ik h
       ·refine wCT hp42.1 tm (s1 u) ?_
        obtain ⟨y43, hy43, h⟩ := bd h
        obtain ⟨hc44, h⟩ := ib h
        exact rgL hm (c4 <| c1 <| cl [] u (oLdK (n := 1) (k := 7) u u (by kernel_rfl) t32 tm) (s1 u) <| cnm (oCallS (rest := [.row 3505006 76 (kR f_api_Slot) y2, .box 70000 111 [.d (kL kS) a0.l_.Names, .d (kL (kI .u32)) a0.l_.Up, .d ki a0.s_.Pc.V, .d ki a0.s_.Pc.L, .d (kL (kR f_api_Instr)) a0.s_.Code, .d (kL (kR f_api_Atom)) a0.s_.Mem, .v 3505006, .d (kL (kR f_api_Atom)) a0.s_.Out, .d ki a0.x_.Op, .d ki a0.x_.N, .d ki a0.x_.L, .d kB a0.a_.Ret, .d ki a0.a_.V, .d ki a0.a_.L, .d kB a0.b_.Ret, .d ki a0.b_.V, .d ki a0.b_.L, .d kB a0.r_.Ret, .d ki a0.r_.V, .d ki a0.r_.L, .d ki a0.below_, .d ki a0.one_.x0_, .d ki a0.one_.x1_, .d ki a0.one_.x2_]]) (R' := [.row 460240 30 (kR f_api_Atom) y43, .row 3505006 76 (kR f_api_Slot) y2, .box 70000 111 [.d (kL kS) a0.l_.Names, .d (kL (kI .u32)) a0.l_.Up, .d ki a0.s_.Pc.V, .d ki a0.s_.Pc.L, .d (kL (kR f_api_Instr)) a0.s_.Code, .d (kL (kR f_api_Atom)) a0.s_.Mem, .v 3505006, .d (kL (kR f_api_Atom)) a0.s_.Out, .d ki a0.x_.Op, .d ki a0.x_.N, .d ki a0.x_.L, .d kB a0.a_.Ret, .d ki a0.a_.V, .d ki a0.a_.L, .d kB a0.b_.Ret, .d ki a0.b_.V, .d ki a0.b_.L, .d kB a0.r_.Ret, .d ki a0.r_.V, .d ki a0.r_.L, .d ki a0.below_, .d ki a0.one_.x0_, .d ki a0.one_.x1_, .d ki a0.one_.x2_]]) (out' := .v 460240) [] [(80000, 460240)] [] [0, 1] [0, 1, 2] u (slices_Clone_api_Atom_api_Atom_nn.ok hy43) b106 (oE1 tm oE0) u u u u u u u u) (s1 u) <| c4 <| cl [.row 460240 30 (kR f_api_Atom) y43] u (oLdK (n := 1) (k := 12) u u (by kernel_rfl) t3 tm) (s1 u) <| c1 <| cp (oBuild (fs := f_api_Atom) (u := ⟨a0.a_.V, a1⟩) u ze30 pl30 po30 (.op (zc := [(.int .i64 0)]) tm u (.op (zc := [(.int .i64 0)]) tm u .nil))) (s2 u u) <| cp (oLit (d := (kR f_api_Atom)) el32 (by decide) u u u (e1 tm e0)) (s1 u) <| cw (oApp (n := 0) (id' := 142) el32 (by decide) u (by decide) hc44 tm tm) (s2 u u) <| c3 <| cwn (oStN (n := 2) (m := 0) (k := 7) u u u u z32 u tm tm) (s2 u u) <| .nil) (by kernel_rfl) (by kernel_rfl) (by kernel_rfl) <| pBlkN <| pFrzR (n := 1) (id := 3505006) [] u u tv <| pFrzR (n := 0) (id := 142) [] u u tv <| pJ2 _ _ (so h) (sb u) u
       ·refine wCF hp42.1 tm (s1 u) <| wSeq <| rx (c2 <| .nil) <| pSeq ?_
        obtain ⟨hp45, h⟩ | ⟨hp45, h⟩ := ik h
        ·exact wCT hp45.1 tm (s1 u) <| rx (c4 <| cr (oLdK (n := 1) (k := 12) u u (by kernel_rfl) t3 tm) (s1 u) <| c1 <| .nil) <| pBlkN <| pFrzR (n := 0) (id := 3505006) [] u u tv <| pJ2 _ _ (so h) (sb u) u
        ·refine wCF hp45.1 tm (s1 u) <| wSeq <| rx (c2 <| .nil) <| pSeq ?_
         obtain ⟨hp46, h⟩ | ⟨hp46, h⟩ := ik h
         ·refine wCT hp46.1 tm (s1 u) <| wSeq <| rx (c4 <| cr (oLdK (n := 1) (k := 12) u u (by kernel_rfl) t3 tm) (s1 u) <| c1 <| .nil) <| pSeq ?_
          obtain ⟨hp47, h⟩ | ⟨hp47, h⟩ := ik h
          ·exact wNT hp47.1 tm (s1 u) <| wSkip <| pBlkN <| pFrzR (n := 0) (id := 3505006) [] u u tv <| pJ2 _ _ (so h) (sb u) u
          ·exact wNF hp47.1 tm (s1 u) <| rx (c4 <| cr (oLdK (n := 1) (k := 9) u u (by kernel_rfl) t3 tm) (s1 u) <| c1 <| .nil) <| pBlkN <| pFrzR (n := 0) (id := 3505006) [] u u tv <| pJ2 _ _ (so h) (sb u) u
         ·refine wCF hp46.1 tm (s1 u) <| wSeq <| rx (c2 <| .nil) <| pSeq ?_
          obtain ⟨hp48, h⟩ | ⟨hp48, h⟩ := ik h
          ·refine wCT hp48.1 tm (s1 u) <| wSeq ?_
           obtain ⟨hc49, h⟩ := ib h
           refine rdx hm (c4 <| cr (oLdK (n := 1) (k := 20) u u (by kernel_rfl) t3 tm) (s1 u) <| c4 <| cr (oLdK (n := 1) (k := 9) u u (by kernel_rfl) t3 tm) (s1 u) <| c4 <| cr (oLdK (n := 1) (k := 20) u u (by kernel_rfl) t3 tm) (s1 u) <| cp (oCut u33 z76 hc49.1 hc49.2.1 hc49.2.2 tm tm tm) (s3 u u u) <| c1 <| .nil) <| pSeq <| wSeq ?_
           obtain ⟨hc50, h⟩ := ib h
           obtain ⟨y51, hy51, h⟩ := bd h
           exact rdx hm (c4 <| c1 <| cr (oLdK (n := 1) (k := 20) u u (by kernel_rfl) t3 tm) (s1 u) <| c4 <| cr (oLdK (n := 1) (k := 9) u u (by kernel_rfl) t3 tm) (s1 u) <| c1 <| cp (oCutHi u33 z76 hc50.1 hc50.2 tm tm) (s2 u u) <| c6 <| cr (oLdK (n := 1) (k := 3) u u (by kernel_rfl) t3 tm) (s1 u) <| cp (oBuild (fs := f_api_Slot) (u := ⟨true, IntKind.i64.wrap (a0.s_.Pc.V + 1), a0.s_.Pc.L⟩) u ze76 pl76 po76 (.op (zc := [(.bool false)]) cB u (.op (zc := [(.int .i64 0)]) tm u (.op (zc := [(.int .i64 0)]) tm u .nil)))) (s2 u u) <| cp (oLit (d := (kR f_api_Slot)) el33 (by decide) u u u (e1 tm e0)) (s1 u) <| c1 <| cp (oLit (d := (kL (kR f_api_Slot))) el178 (by decide) u u u (e1 tm (e1 tm (e1 tm e0)))) (s3 u u u) <| cC (slices_Concat_api_Slot_api_Slot.ok hy51) <| c3 <| cwn (oStK (n := 1) (k := 6) u u u (by kernel_rfl) z33 tm tm) (s2 u u) <| .nil) <| pSeq <| rx (c4 <| cr (oLdK (n := 1) (k := 12) u u (by kernel_rfl) t3 tm) (s1 u) <| c1 <| .nil) <| pBlkN <| pDrop (.cons _ (.cons_cons _ .slnil)) <| pJ2 _ _ (so h) (sb u) u
          ·refine wCF hp48.1 tm (s1 u) <| wSeq <| rx (c2 <| .nil) <| pSeq ?_
           obtain ⟨hp52, h⟩ | ⟨hp52, h⟩ := ik h
           ·refine wCT hp52.1 tm (s1 u) <| wSeq <| wSeq <| rx (c4 <| cr (oLdK (n := 1) (k := 9) u u (by kernel_rfl) t3 tm) (s1 u) <| c1 <| .nil) <| pSeq ?_
            obtain ⟨hp53, h⟩ | ⟨hp53, h⟩ := ik h
            ·refine wCT hp53.1 tm (s1 u) ?_
             obtain ⟨y54, hy54, h⟩ := bd h
             exact rx (c4 <| c1 <| cr (oLdK (n := 1) (k := 12) u u (by kernel_rfl) t3 tm) (s1 u) <| c1 <| cm (oCallS (rest := []) (R' := [.row 580280 76 (kR f_api_Slot) y54.s_.Stack, .box 70000 111 [.d (kL kS) y54.l_.Names, .d (kL (kI .u32)) y54.l_.Up, .d ki y54.s_.Pc.V, .d ki y54.s_.Pc.L, .d (kL (kR f_api_Instr)) y54.s_.Code, .d (kL (kR f_api_Atom)) y54.s_.Mem, .v 580280, .d (kL (kR f_api_Atom)) y54.s_.Out, .d ki y54.x_.Op, .d ki y54.x_.N, .d ki y54.x_.L, .d kB y54.a_.Ret, .d ki y54.a_.V, .d ki y54.a_.L, .d kB y54.b_.Ret, .d ki y54.b_.V, .d ki y54.b_.L, .d kB y54.r_.Ret, .d ki y54.r_.V, .d ki y54.r_.L, .d ki y54.below_, .d ki y54.one_.x0_, .d ki y54.one_.x1_, .d ki y54.one_.x2_]]) (out' := .d (tup [])) [(70000, 70000), (70007, 3505006)] [(70007, 580280)] [1, 0] [] [1, 0] u (step_machine_put.ok hy54) b105 (oE1 tm (oE1 tm (oE1 tm oE0))) u u u u u u u u) (s3 u u u) <| .nil) <| pSeq <| rx (c4 <| cr (oLdK (n := 1) (k := 18) u u (by kernel_rfl) t3 tm) (s1 u) <| c1 <| .nil) <| pBlkN <| pFrzR (n := 0) (id := 580280) [] u u tv <| pJ2 _ _ (so h) (sb u) u
            ·exact wCF hp53.1 tm (s1 u) <| wSkip <| pSeq <| rx (c4 <| cr (oLdK (n := 1) (k := 18) u u (by kernel_rfl) t3 tm) (s1 u) <| c1 <| .nil) <| pBlkN <| pFrzR (n := 0) (id := 3505006) [] u u tv <| pJ2 _ _ (so h) (sb u) u
           ·exact wCF hp52.1 tm (s1 u) <| wSkip <| pBlkN <| pFrzR (n := 0) (id := 3505006) [] u u tv <| pJ2 _ _ (so h) (sb u) u
 ·rintro x28 x29 rfl
  replace h := hk1
  refine pSeq <| rx (c6 <| cwn (oStK (n := 0) (k := 2) u u u (by kernel_rfl) z3 tm tm) (s2 u u) <| .nil) ?_
  obtain rfl := so h
  exact pSn [0] u u (.inr u) u u (.nil)
theorem step_step.ok {a0 : api_Lattice} {a1 : api_Table} {a2 : api_State} {r : api_State × Int} (h : step_step.f a0 a1 a2 = some r) : FnA PP 25 [(kR f_api_Lattice).sig a0, (kR f_api_Table).sig a1, (kR f_api_State).sig a2] (tup [(kR f_api_State).sig r.1, ki.sig r.2]) := by
 unfold step_step.f at h
 obtain ⟨z, hB, hr⟩ := bd h
 clear h
 obtain rfl := so hr
 replace h := hB
 refine fnDefer (Γ := [(0, .d ((kR f_api_Lattice).sig a0)), (1, .d ((kR f_api_Table).sig a1)), (2, .d ((kR f_api_State).sig a2)), (3, .d (sP (kR f_api_Lattice) a0)), (4, .d (sP (kR f_api_Table) a1)), (5, .d (sP (kR f_api_State) a2)), (6, .p 6 0), (7, .p 7 0)]) (R := [.box 7 3 [.d ki 0], .box 6 35 [.d ki 0, .d ki 0, .d (kL (kR f_api_Instr)) [], .d (kL (kR f_api_Atom)) [], .d (kL (kR f_api_Slot)) [], .d (kL (kR f_api_Atom)) []]]) (n6 := 1) (n7 := 0) Tryz.func25 u (by kernel_rfl) (by kernel_rfl) u Tryz.func54 ((u : Tryz.f54.body = some (recX _ _ _ _ _ _ _ _ _ _ _ _ _ _ _ _ _ _ _)).trans (congrArg some (recX_eq (A := 20) (E := 105) (S := 35) (I := 3) ⟨u, u, u⟩ ⟨u, u, u⟩ ⟨u, u, u⟩ ⟨u, u, u⟩ ⟨u, u, u⟩ ⟨u, u, u⟩ ⟨u, u, u⟩ ⟨u, u, u⟩ ⟨u, u, u⟩ ⟨u, u, u⟩ ⟨u, u, u⟩))) u u u20 cb105 b54 t35 z35 t3 z3 u u u u u u (fun H0 w0 Q hpost => ?_) (fun X H0 w0 pv ds => ?_)
 ·exact rx (c3 <| cw (oAlloc (id := 6) (ls := Z35) ze35 zl35) tv <| cw (oAlloc (id := 7) (ls := [.d ki 0]) ze3 (fun g => ⟨[(.int .i64 0)], _, u, zI_i64 g.H, u⟩)) tv <| .nil) <| pSub (Γ' := [(0, .d ((kR f_api_Lattice).sig a0)), (1, .d ((kR f_api_Table).sig a1)), (2, .d ((kR f_api_State).sig a2)), (3, .d (sP (kR f_api_Lattice) a0)), (4, .d (sP (kR f_api_Table) a1)), (5, .d (sP (kR f_api_State) a2)), (6, .p 6 0), (7, .p 7 0)]) (sb u) hpost
 ·unfold step_step.B at h
  refine wSeq <| wT0 <| wTk 0 7 (c6 <| c1 <| .nil) (by kernel_rfl) u ?_
  obtain ⟨z1, hz1, h⟩ := bd h
  rcases z1 with p2 | y3
  ·refine wTx (Γp := [(6, .p 6 0), (7, .p 7 0)]) 7 u (oCallX (rest := [.box 7 3 [.d ki 0], .box 6 35 [.d ki 0, .d ki 0, .d (kL (kR f_api_Instr)) [], .d (kL (kR f_api_Atom)) [], .d (kL (kR f_api_Slot)) [], .d (kL (kR f_api_Atom)) []]]) [] [] [0, 1] u (step_need.okP hz1) b55 (oE1 tm oE0) u u) u u (s1 u) ⟨u, u, tv⟩ <| pThenP ?_
   obtain rfl := so h
   exact pDpan (n6 := 1) (n7 := 0) u u u (by kernel_rfl) (by kernel_rfl)
  ·refine wTe 7 (cm (oCallS (rest := [.box 7 3 [.d ki 0], .box 6 35 [.d ki 0, .d ki 0, .d (kL (kR f_api_Instr)) [], .d (kL (kR f_api_Atom)) [], .d (kL (kR f_api_Slot)) [], .d (kL (kR f_api_Atom)) []]]) (R' := [.box 7 3 [.d ki 0], .box 6 35 [.d ki 0, .d ki 0, .d (kL (kR f_api_Instr)) [], .d (kL (kR f_api_Atom)) [], .d (kL (kR f_api_Slot)) [], .d (kL (kR f_api_Atom)) []]]) (out' := .d (tup [])) [] [] [] [0, 1] [0, 1] u (step_need.okR hz1) b55 (oE1 tm oE0) u u u u u u u u) (s1 u) <| .nil) (by kernel_rfl) <| pSeq <| wSeq ?_
   obtain ⟨y4, hy4, h⟩ := bd h
   refine rx (c1 <| cC (lattice_Bottom.ok hy4) <| c4 <| c1 <| .nil) <| pSeq <| wSeq ?_
   obtain ⟨y5, hy5, h⟩ := bd h
   refine rdx hm (c6 <| c1 <| cp (oIdx u31 z74 hy5 tm tm) (s2 u u) <| c4 <| cp (oBuildA (fs := f_S109) (u := ⟨y4.1, y4.1, y4.1⟩) u ze109 u109 z3 po109 (.op (zc := [(.int .i64 0)]) tm u (.op (zc := [(.int .i64 0)]) tm u (.op (zc := [(.int .i64 0)]) tm u .nil)))) (s3 u u u) <| cp (oBuild (fs := f_step_machine) (u := ⟨a0, a2, y5, (⟨false, 0, 0⟩ : api_Slot), (⟨false, 0, 0⟩ : api_Slot), (⟨false, 0, 0⟩ : api_Slot), 0, (⟨y4.1, y4.1, y4.1⟩ : S109)⟩) u ze111 pl111 po111 (.op (zc := [(.slice none 0 0), (.slice none 0 0)]) tm u (.op (zc := [(.int .i64 0), (.int .i64 0), (.slice none 0 0), (.slice none 0 0), (.slice none 0 0), (.slice none 0 0)]) tm u (.op (zc := [(.int .i64 0), (.int .i64 0), (.int .i64 0)]) tm u (.ze (zc := [(.bool false), (.int .i64 0), (.int .i64 0)]) zR_api_Slot (.ze (zc := [(.bool false), (.int .i64 0), (.int .i64 0)]) zR_api_Slot (.ze (zc := [(.bool false), (.int .i64 0), (.int .i64 0)]) zR_api_Slot (.ze (zc := [(.int .i64 0)]) zI_i64 (.op (zc := [(.int .i64 0), (.int .i64 0), (.int .i64 0)]) tm u .nil))))))))) ⟨u, u, u, u, tv⟩ <| cw (oBoxP (id := 47) (d := (kR f_step_machine)) (ls := [.d (kL kS) a0.Names, .d (kL (kI .u32)) a0.Up, .d ki a2.Pc.V, .d ki a2.Pc.L, .d (kL (kR f_api_Instr)) a2.Code, .d (kL (kR f_api_Atom)) a2.Mem, .d (kL (kR f_api_Slot)) a2.Stack, .d (kL (kR f_api_Atom)) a2.Out, .d ki y5.Op, .d ki y5.N, .d ki y5.L, .d kB false, .d ki 0, .d ki 0, .d kB false, .d ki 0, .d ki 0, .d kB false, .d ki 0, .d ki 0, .d ki 0, .d ki y4.1, .d ki y4.1, .d ki y4.1]) pt111 u tm) (s1 u) <| c1 <| .nil) <| pSeq <| wSeq <| wT0 <| wTk 0 1 (c1 <| .nil) (by kernel_rfl) u ?_
   obtain ⟨z6, hz6, h⟩ := bd h
   rcases z6 with p7 | y8
   ·refine wTx (Γp := [(6, .p 6 0), (7, .p 7 0)]) 1 u (oCallX (rest := [.box 7 3 [.d ki 0], .box 6 35 [.d ki 0, .d ki 0, .d (kL (kR f_api_Instr)) [], .d (kL (kR f_api_Atom)) [], .d (kL (kR f_api_Slot)) [], .d (kL (kR f_api_Atom)) []]]) [(70000, 47)] [0] [1, 2] u (step_machine_needs.okP hz6) b57 (oE1 tm oE0) u u) u u (s1 u) ⟨u, u, tv⟩ <| pThenP ?_
    obtain rfl := so h
    exact pDpan (n6 := 1) (n7 := 0) u u u (by kernel_rfl) (by kernel_rfl)
   ·refine wTe 1 (cm (oCallS (rest := [.box 7 3 [.d ki 0], .box 6 35 [.d ki 0, .d ki 0, .d (kL (kR f_api_Instr)) [], .d (kL (kR f_api_Atom)) [], .d (kL (kR f_api_Slot)) [], .d (kL (kR f_api_Atom)) []]]) (R' := [.box 47 111 (L111 y8), .box 7 3 [.d ki 0], .box 6 35 [.d ki 0, .d ki 0, .d (kL (kR f_api_Instr)) [], .d (kL (kR f_api_Atom)) [], .d (kL (kR f_api_Slot)) [], .d (kL (kR f_api_Atom)) []]]) (out' := .d (tup [])) [(70000, 47)] [] [0] [1, 2] [0, 1, 2] u (step_machine_needs.okR hz6) b57 (oE1 tm oE0) u u u u u u u u) (s1 u) <| .nil) (by kernel_rfl) <| pSeq <| wSeq <| wSeq <| rx (c4 <| cr (oLdK (n := 0) (k := 8) u u (by kernel_rfl) t3 tm) (s1 u) <| c1 <| .nil) <| pSeq ?_
    obtain ⟨hp9, h⟩ | ⟨hp9, h⟩ := ik h
    ·refine wCT hp9.1 tm (s1 u) <| wT0 <| wTk 0 1 (cp (oMkX 1 cb105 (cI (by decide))) tv <| .nil) (by kernel_rfl) u <| wTx (Γp := [(6, .p 6 0), (7, .p 7 0)]) 1 u (oPanic tm) u u (s1 u) ⟨u, u, tv⟩ <| pThenP ?_
     obtain rfl := so h
     exact pDpan (n6 := 2) (n7 := 1) u u u (by kernel_rfl) (by kernel_rfl)
    ·refine wCF hp9.1 tm (s1 u) <| wSkip <| pSeq <| wSeq ?_
     obtain ⟨y10, hy10, h⟩ := bd h
     refine rgL hm (c6 <| cl [] u (oLdK (n := 0) (k := 8) u u (by kernel_rfl) t3 tm) (s1 u) <| cp (oIdx u26 z61 hy10 tm tm) (s2 u u) <| c1 <| cn (oAlloc (id := 11) (ls := Z61) ze61 zl61) tv <| cwn (oStA (n := 0) (fs := f_api_Row) u u z61 tm tm) (s2 u u) <| .nil) (by kernel_rfl) (by kernel_rfl) (by kernel_rfl) <| pSeq <| wSeq <| rdx hm (c6 <| cp (oIdxA 0 0 u u109 z3 u tm (cI (by decide))) (s1 u) <| cr (oLdK (n := 1) (k := 21) u u (by kernel_rfl) t3 tm) (s1 u) <| c3 <| cp (oIdxA 1 1 u u109 z3 u tm (cI (by decide))) (s1 u) <| cr (oLdK (n := 1) (k := 22) u u (by kernel_rfl) t3 tm) (s1 u) <| c3 <| cp (oIdxA 2 2 u u109 z3 u tm (cI (by decide))) (s1 u) <| cr (oLdK (n := 1) (k := 23) u u (by kernel_rfl) t3 tm) (s1 u) <| cp (oLit (d := ki) el59 (by decide) u u u (e1 tm (e1 tm (e1 tm (e1 tm e0))))) ⟨u, u, u, u, tv⟩ <| c1 <| .nil) <| pSeq <| wSeq <| wSeq ?_
     obtain ⟨y11, hy11, h⟩ := bd h
     refine rx (c2 <| cr (oLdB (n := 0) (k := 0) u u u t59 tm) (s1 u) <| c1 <| cC (judge_Cond.ok hy11) <| c4 <| c1 <| .nil) <| pSeq <| wSeq <| rx (c2 <| .nil) <| pSeq ?_
     obtain ⟨hp12, h⟩ | ⟨hp12, h⟩ := ik h
     ·refine wBT hp12.1 tm (s1 u) <| wT0 <| wTk 0 1 (cp (oMkX 2 cb105 (cI (by decide))) tv <| .nil) (by kernel_rfl) u <| wTx (Γp := [(6, .p 6 0), (7, .p 7 0)]) 1 u (oPanic tm) u u (s1 u) ⟨u, u, tv⟩ <| pThenP ?_
      obtain rfl := so h
      exact pDpan (n6 := 3) (n7 := 2) u u u (by kernel_rfl) (by kernel_rfl)
     ·refine wBF hp12.1 tm (s1 u) <| wSkip <| pSeq <| wSeq ?_
      obtain ⟨y13, hy13, h⟩ := bd h
      refine rx (c2 <| cr (oLdB (n := 0) (k := 1) u u u t59 tm) (s1 u) <| c1 <| cC (judge_Label.ok hy13) <| c4 <| c1 <| .nil) <| pSeq <| wSeq ?_
      obtain ⟨y14, hy14, h⟩ := bd h
      refine rx (c2 <| cr (oLdB (n := 0) (k := 2) u u u t59 tm) (s1 u) <| c1 <| cC (judge_Label.ok hy14) <| c4 <| c1 <| .nil) <| pSeq <| wSeq ?_
      obtain ⟨y15, hy15, h⟩ := bd h
      refine rx (c2 <| cm (oCallS (rest := [.box 11 61 (L61 y10), .box 7 3 [.d ki 0], .box 6 35 [.d ki 0, .d ki 0, .d (kL (kR f_api_Instr)) [], .d (kL (kR f_api_Atom)) [], .d (kL (kR f_api_Slot)) [], .d (kL (kR f_api_Atom)) []]]) (R' := [.box 11 61 (L61 y10), .box 47 111 (L111 y15), .box 7 3 [.d ki 0], .box 6 35 [.d ki 0, .d ki 0, .d (kL (kR f_api_Instr)) [], .d (kL (kR f_api_Atom)) [], .d (kL (kR f_api_Slot)) [], .d (kL (kR f_api_Atom)) []]]) (out' := .d (tup [])) [(70000, 47)] [] [1] [0, 2, 3] [1, 0, 2, 3] u (step_machine_does.ok hy15) b60 (oE1 tm (oE1 tm oE0)) u u u u u u u u) (s2 u u) <| .nil) <| pSeq <| wSeq <| rx (c6 <| cwn (oStK (n := 1) (k := 3) u u u (by kernel_rfl) z3 tm tm) (s2 u u) <| .nil) <| pSeq <| wSeq ?_
      obtain ⟨y16, hy16, h⟩ := bd h
      obtain ⟨z17, hz17, h⟩ := bd h
      rcases z17 with p18 | y19
      ·refine rgXD (Γp := [(6, .p 6 0), (7, .p 7 0)]) hm (c4 <| cr (oLdPK (n := 1) (k := 2) (m := 6) (d := (kR f_api_State)) (u := (⟨⟨y15.s_.Pc.V, y14.1⟩, y15.s_.Code, y15.s_.Mem, y15.s_.Stack, y15.s_.Out⟩ : api_State)) pt35 u u (by kernel_rfl) t35 tm) (s1 u) <| cC (state_Right.ok hy16) <| cb (oCallX (rest := [.box 11 61 (L61 y10), .box 47 111 [.d (kL kS) y15.l_.Names, .d (kL (kI .u32)) y15.l_.Up, .d ki y15.s_.Pc.V, .d ki y14.1, .d (kL (kR f_api_Instr)) y15.s_.Code, .d (kL (kR f_api_Atom)) y15.s_.Mem, .d (kL (kR f_api_Slot)) y15.s_.Stack, .d (kL (kR f_api_Atom)) y15.s_.Out, .d ki y15.x_.Op, .d ki y15.x_.N, .d ki y15.x_.L, .d kB y15.a_.Ret, .d ki y15.a_.V, .d ki y15.a_.L, .d kB y15.b_.Ret, .d ki y15.b_.V, .d ki y15.b_.L, .d kB y15.r_.Ret, .d ki y15.r_.V, .d ki y15.r_.L, .d ki y15.below_, .d ki y15.one_.x0_, .d ki y15.one_.x1_, .d ki y15.one_.x2_], .box 7 3 [.d ki 0], .box 6 35 [.d ki 0, .d ki 0, .d (kL (kR f_api_Instr)) [], .d (kL (kR f_api_Atom)) [], .d (kL (kR f_api_Slot)) [], .d (kL (kR f_api_Atom)) []]]) [] [] [0, 1, 2, 3] u (step_need.okP hz17) b55 (oE1 tm oE0) u u) (s1 u) <| .nil) (by kernel_rfl) (by kernel_rfl) ⟨u, u, tv⟩ <| pThenP ?_
       obtain rfl := so h
       exact pDpan (n6 := 3) (n7 := 2) u u u (by kernel_rfl) (by kernel_rfl)
      ·refine rdx hm (c4 <| cr (oLdPK (n := 1) (k := 2) (m := 6) (d := (kR f_api_State)) (u := (⟨⟨y15.s_.Pc.V, y14.1⟩, y15.s_.Code, y15.s_.Mem, y15.s_.Stack, y15.s_.Out⟩ : api_State)) pt35 u u (by kernel_rfl) t35 tm) (s1 u) <| cC (state_Right.ok hy16) <| cm (oCallS (rest := [.box 11 61 (L61 y10), .box 47 111 [.d (kL kS) y15.l_.Names, .d (kL (kI .u32)) y15.l_.Up, .d ki y15.s_.Pc.V, .d ki y14.1, .d (kL (kR f_api_Instr)) y15.s_.Code, .d (kL (kR f_api_Atom)) y15.s_.Mem, .d (kL (kR f_api_Slot)) y15.s_.Stack, .d (kL (kR f_api_Atom)) y15.s_.Out, .d ki y15.x_.Op, .d ki y15.x_.N, .d ki y15.x_.L, .d kB y15.a_.Ret, .d ki y15.a_.V, .d ki y15.a_.L, .d kB y15.b_.Ret, .d ki y15.b_.V, .d ki y15.b_.L, .d kB y15.r_.Ret, .d ki y15.r_.V, .d ki y15.r_.L, .d ki y15.below_, .d ki y15.one_.x0_, .d ki y15.one_.x1_, .d ki y15.one_.x2_], .box 7 3 [.d ki 0], .box 6 35 [.d ki 0, .d ki 0, .d (kL (kR f_api_Instr)) [], .d (kL (kR f_api_Atom)) [], .d (kL (kR f_api_Slot)) [], .d (kL (kR f_api_Atom)) []]]) (R' := [.box 11 61 (L61 y10), .box 47 111 [.d (kL kS) y15.l_.Names, .d (kL (kI .u32)) y15.l_.Up, .d ki y15.s_.Pc.V, .d ki y14.1, .d (kL (kR f_api_Instr)) y15.s_.Code, .d (kL (kR f_api_Atom)) y15.s_.Mem, .d (kL (kR f_api_Slot)) y15.s_.Stack, .d (kL (kR f_api_Atom)) y15.s_.Out, .d ki y15.x_.Op, .d ki y15.x_.N, .d ki y15.x_.L, .d kB y15.a_.Ret, .d ki y15.a_.V, .d ki y15.a_.L, .d kB y15.b_.Ret, .d ki y15.b_.V, .d ki y15.b_.L, .d kB y15.r_.Ret, .d ki y15.r_.V, .d ki y15.r_.L, .d ki y15.below_, .d ki y15.one_.x0_, .d ki y15.one_.x1_, .d ki y15.one_.x2_], .box 7 3 [.d ki 0], .box 6 35 [.d ki 0, .d ki 0, .d (kL (kR f_api_Instr)) [], .d (kL (kR f_api_Atom)) [], .d (kL (kR f_api_Slot)) [], .d (kL (kR f_api_Atom)) []]]) (out' := .d (tup [])) [] [] [] [0, 1, 2, 3] [0, 1, 2, 3] u (step_need.okR hz17) b55 (oE1 tm oE0) u u u u u u u u) (s1 u) <| .nil) <| pSeq <| wSeq <| rx (c3 <| cr (oLdPK (n := 1) (k := 2) (m := 6) (d := (kR f_api_State)) (u := (⟨⟨y15.s_.Pc.V, y14.1⟩, y15.s_.Code, y15.s_.Mem, y15.s_.Stack, y15.s_.Out⟩ : api_State)) pt35 u u (by kernel_rfl) t35 tm) (s1 u) <| cwn (oStP (n := 3) (k := 0) (m := 6) (d := (kR f_api_State)) (u := (⟨⟨y15.s_.Pc.V, y14.1⟩, y15.s_.Code, y15.s_.Mem, y15.s_.Stack, y15.s_.Out⟩ : api_State)) pt35 u u u z35 tm tm) (s2 u u) <| cwn (oSt (n := 2) (k := 0) u u u u z3 tm (cI (by decide))) (s1 u) <| .nil) <| pSeq <| wRet ?_
       obtain rfl := so h
       exact pDret (.inl u) (.boxP (n := 3) (d := (kR f_api_State)) (u := (⟨⟨y15.s_.Pc.V, y14.1⟩, y15.s_.Code, y15.s_.Mem, y15.s_.Stack, y15.s_.Out⟩ : api_State)) u u pt35 u t35 <| .boxV (n := 2) u u t3 <| .nil)
theorem step_One.ok {a0 : api_Lattice} {a1 : api_Table} {a2 : api_State} {r : api_State × Int × Int} (h : step_One.f a0 a1 a2 = some r) : FnA PP 8 [(kR f_api_Lattice).sig a0, (kR f_api_Table).sig a1, (kR f_api_State).sig a2] (tup [(kR f_api_State).sig r.1, ki.sig r.2.1, ki.sig r.2.2]) := by
 refine fnIntro Tryz.func8 u (by kernel_rfl) fun H0 w0 => ?_
 unfold step_One.f at h
 refine wSeq <| rx (c3 <| cw (oAlloc (id := 6) (ls := Z35) ze35 zl35) tv <| c2 <| .nil) <| pSeq <| wSeq <| wSeq ?_
 obtain ⟨y1, hy1, h⟩ := bd h
 refine rx (c1 <| cC (lattice_Check.ok hy1) <| c1 <| .nil) <| pSeq <| wSeq <| rx (c2 <| .nil) <| pSeq ?_
 obtain ⟨hp2, h⟩ | ⟨hp2, h⟩ := ik h
 ·refine wNT hp2.1 tm (s1 u) <| wSkip <| pSeq <| wSeq <| wSeq ?_
  obtain ⟨y3, hy3, h⟩ := bd h
  refine rx (c1 <| cC (table_Check.ok hy3) <| c4 <| c1 <| .nil) <| pSeq <| wSeq <| rx (c2 <| .nil) <| pSeq ?_
  obtain ⟨hp4, h⟩ | ⟨hp4, h⟩ := ik h
  ·refine wNT hp4.1 tm (s1 u) <| wSkip <| pSeq <| wSeq <| wSeq ?_
   obtain ⟨y5, hy5, h⟩ := bd h
   refine rx (c2 <| cC (state_Right.ok hy5) <| c1 <| .nil) <| pSeq ?_
   obtain ⟨hp6, h⟩ | ⟨hp6, h⟩ := ik h
   ·refine wBT hp6.1 tm (s1 u) <| wSeq <| rx (cp (oBuild (fs := f_api_State) (u := ⟨(⟨0, 0⟩ : api_Atom), [], [], [], []⟩) u ze35 pl35 po35 (.ze (zc := [(.int .i64 0), (.int .i64 0)]) zR_api_Atom (.ze (zc := [(.slice none 0 0)]) zL (.ze (zc := [(.slice none 0 0)]) zL (.ze (zc := [(.slice none 0 0)]) zL (.ze (zc := [(.slice none 0 0)]) zL .nil)))))) tv <| cwn (oStP (n := 0) (k := 0) (m := 6) (d := (kR f_api_State)) (u := (⟨(⟨0, 0⟩ : api_Atom), [], [], [], []⟩ : api_State)) pt35 u u u z35 tm tm) (s2 u u) <| c2 <| .nil) <| pSeq <| wRet <| pThenR ?_
    obtain rfl := so h
    exact pRn (.inl u) u u (.boxP (n := 0) (d := (kR f_api_State)) (u := (⟨⟨0, 0⟩, [], [], [], []⟩ : api_State)) u u pt35 u t35 <| .tmp u <| .tmp u <| .nil)
   ·refine wBF hp6.1 tm (s1 u) <| wSkip <| pSeq <| wSeq ?_
    obtain ⟨y7, hy7, h⟩ := bd h
    refine rx (c3 <| cC (step_step.ok hy7) <| c3 <| cw (oAlloc (id := 12) (ls := Z35) ze35 zl35) tv <| cwn (oStP (n := 0) (k := 0) (m := 6) (d := (kR f_api_State)) (u := y7.1) pt35 u u u z35 tm tm) (s2 u u) <| c1 <| .nil) <| pSeq <| wSeq <| rx (cr (oLdP (n := 0) (k := 0) (m := 6) (d := (kR f_api_State)) (u := y7.1) pt35 u u u t35 tm) (s1 u) <| c1 <| cwn (oStP (n := 1) (k := 0) (m := 6) (d := (kR f_api_State)) (u := y7.1) pt35 u u u z35 tm tm) (s2 u u) <| c2 <| .nil) <| pSeq <| wRet ?_
    obtain rfl := so h
    exact pRn (.inl u) u u (.boxP (n := 1) (d := (kR f_api_State)) (u := y7.1) u u pt35 u t35 <| .tmp u <| .tmp u <| .nil)
  ·refine wNF hp4.1 tm (s1 u) <| wSeq <| rx (cp (oBuild (fs := f_api_State) (u := ⟨(⟨0, 0⟩ : api_Atom), [], [], [], []⟩) u ze35 pl35 po35 (.ze (zc := [(.int .i64 0), (.int .i64 0)]) zR_api_Atom (.ze (zc := [(.slice none 0 0)]) zL (.ze (zc := [(.slice none 0 0)]) zL (.ze (zc := [(.slice none 0 0)]) zL (.ze (zc := [(.slice none 0 0)]) zL .nil)))))) tv <| c1 <| cwn (oStP (n := 0) (k := 0) (m := 6) (d := (kR f_api_State)) (u := (⟨(⟨0, 0⟩ : api_Atom), [], [], [], []⟩ : api_State)) pt35 u u u z35 tm tm) (s2 u u) <| c2 <| .nil) <| pSeq <| wRet <| pThenR ?_
   obtain rfl := so h
   exact pRn (.inl u) u u (.boxP (n := 0) (d := (kR f_api_State)) (u := (⟨⟨0, 0⟩, [], [], [], []⟩ : api_State)) u u pt35 u t35 <| .tmp u <| .tmp u <| .nil)
 ·refine wNF hp2.1 tm (s1 u) <| wSeq <| rx (cp (oBuild (fs := f_api_State) (u := ⟨(⟨0, 0⟩ : api_Atom), [], [], [], []⟩) u ze35 pl35 po35 (.ze (zc := [(.int .i64 0), (.int .i64 0)]) zR_api_Atom (.ze (zc := [(.slice none 0 0)]) zL (.ze (zc := [(.slice none 0 0)]) zL (.ze (zc := [(.slice none 0 0)]) zL (.ze (zc := [(.slice none 0 0)]) zL .nil)))))) tv <| c1 <| cwn (oStP (n := 0) (k := 0) (m := 6) (d := (kR f_api_State)) (u := (⟨(⟨0, 0⟩ : api_Atom), [], [], [], []⟩ : api_State)) pt35 u u u z35 tm tm) (s2 u u) <| c2 <| .nil) <| pSeq <| wRet <| pThenR ?_
  obtain rfl := so h
  exact pRn (.inl u) u u (.boxP (n := 0) (d := (kR f_api_State)) (u := (⟨⟨0, 0⟩, [], [], [], []⟩ : api_State)) u u pt35 u t35 <| .tmp u <| .tmp u <| .nil)
theorem run_may.ok {a0 : api_Lattice} {a1 : api_Table} {a2 : api_State} {a3 : Int} {r : Int} (h : run_may.f a0 a1 a2 a3 = some r) : FnA PP 37 [(kR f_api_Lattice).sig a0, (kR f_api_Table).sig a1, (kR f_api_State).sig a2, ki.sig a3] (ki.sig r) := by
 refine fnIntro Tryz.func37 u (by kernel_rfl) fun H0 w0 => ?_
 unfold run_may.f at h
 refine wSeq <| rx (c4 <| .nil) <| pSeq <| wSeq <| wSeq ?_
 obtain ⟨y1, hy1, h⟩ := bd h
 refine rx (c3 <| cC (step_One.ok hy1) <| c4 <| cw (oAlloc (id := 9) (ls := Z35) ze35 zl35) tv <| cwn (oStP (n := 0) (k := 0) (m := 6) (d := (kR f_api_State)) (u := y1.1) pt35 u u u z35 tm tm) (s2 u u) <| c2 <| .nil) <| pSeq <| wSeq <| rx (c2 <| .nil) <| pSeq ?_
 obtain ⟨hp2, h⟩ | ⟨hp2, h⟩ := ik h
 ·refine wNT hp2.1 tm (s1 u) <| wSkip <| pSeq <| wSeq ?_
  obtain ⟨o1, h, hk1⟩ := bd h
  refine wJ1 (fun x4 => x4 = o1) (fun x4 => [(28, .d (kB.sig x4))]) (fun x4 => [.box 9 35 (L35 y1.1)]) ?_ ?_
  ·obtain ⟨hp5, h⟩ | ⟨hp5, h⟩ := ik h
   ·exact rx (c6 <| .nil) <| pJ1 _ (so h) (sb u) u
   ·exact rx (c6 <| .nil) <| pJ1 _ (so h) (sb u) u
  ·rintro x4 rfl
   replace h := hk1
   obtain ⟨hp6, h⟩ | ⟨hp6, h⟩ := ik h
   ·refine wBT hp6.1 tm (s1 u) <| wSeq <| rx (c1 <| .nil) <| pSeq <| wRet <| pThenR ?_
    obtain rfl := so h
    exact pR1 (.inl u) u (.tmp u <| .nil)
   ·refine wBF hp6.1 tm (s1 u) <| wSkip <| pSeq <| wSeq <| rx (c1 <| .nil) <| pSeq <| wRet ?_
    obtain rfl := so h
    exact pR1 (.inl u) u (.tmp u <| .nil)
 ·refine wNF hp2.1 tm (s1 u) <| wSeq <| rx (c2 <| .nil) <| pSeq <| wRet <| pThenR ?_
  obtain rfl := so h
  exact pR1 (.inl u) u (.tmp u <| .nil)
theorem run_states_1.ok {a1 : Int} {a2 : api_Lattice} {a3 : api_Table} {a4 : api_State} : FnYN PP 76 (fun z => (kR f_api_State).sig z) (fun z => ki.sig z) [.d (sP ki a1), .d (sP (kR f_api_Lattice) a2), .d (sP (kR f_api_Table) a3), .p 70400 0] [.box 70400 35 (L35 a4)] (fun {σ} a_y a_s => run_states_1.f a_y a_s a1 a2 a3 a4) := by
 refine fnIntroYN 7777 Tryz.func76 u (by kernel_rfl) u (fun σ A a_y a_s a_r h bs X H0 w0 => ?_)
 replace h : run_states_1.f a_y a_s a1 a2 a3 a4 = some a_r := h
 unfold run_states_1.f at h
 refine wSeq <| wSeq <| rx (c2 <| .nil) <| pSeq ?_
 obtain ⟨o1, h, hk1⟩ := bd h
 refine wK2 (fun x22 x23 => .inr (x22, x23) = o1) (fun x22 x23 => [(0, .d (sYield PP A a_y (fun z => (kR f_api_State).sig z) (fun z => ki.sig z))), (4, .p 70400 0)]) (fun x22 x23 => [.abs 7777 A x23, .box 70400 35 (L35 x22)]) ?_ ?_
 ·refine wBlock (wLoop ?_)
  refine lW (pc3 o1 (fun v19 v20 v21 => [(0, .d (sYield PP A a_y (fun z => (kR f_api_State).sig z) (fun z => ki.sig z))), (2, .d (sP (kR f_api_Lattice) a2)), (3, .d (sP (kR f_api_Table) a3)), (4, .p 70400 0), (9, .d (ki.sig a1)), (10, .d (ki.sig v21))]) (fun v19 v20 v21 => [.abs 7777 A v20, .box 70400 35 (L35 v19)]) (run_states_1.l0.partial_correctness a_y a1 a2 a3) ?_ _ _ _ h) ⟨u, u, u, u, u, u, tv⟩ u
  clear h
  intro f' ih v19 v20 v21 h
  refine wSeq <| rx (c1 <| .nil) <| pSeq <| wSeq ?_
  obtain ⟨hp24, h⟩ | ⟨hp24, h⟩ := ik h
  ·refine wCT hp24.1 tm (s1 u) <| wSkip <| pSeq <| wSeq <| wBlock <| wSeq ?_
   obtain ⟨y25, hy25, h⟩ := bd h
   refine rx (c2 <| cr (oLdP (n := 1) (k := 0) (m := 6) (d := (kR f_api_State)) (u := v19) pt35 u u u t35 tm) (s1 u) <| cC (step_One.ok hy25) <| c4 <| cw (oAlloc (id := 6) (ls := Z35) ze35 zl35) tv <| cwn (oStP (n := 0) (k := 0) (m := 6) (d := (kR f_api_State)) (u := y25.1) pt35 u u u z35 tm tm) (s2 u u) <| c2 <| .nil) <| pSeq <| wSeq ?_
   obtain ⟨o2, h, hk2⟩ := bd h
   refine wJ2 (fun x28 x29 => (x28, x29) = o2) (fun x28 x29 => [(0, .d (sYield PP A a_y (fun z => (kR f_api_State).sig z) (fun z => ki.sig z))), (2, .d (sP (kR f_api_Lattice) a2)), (3, .d (sP (kR f_api_Table) a3)), (4, .p 70400 0), (6, .p 6 0), (9, .d (ki.sig a1)), (10, .d (ki.sig v21)), (28, .d (kB.sig x29))]) (fun x28 x29 => [.box 6 35 (L35 y25.1), .abs 7777 A x28, .box 70400 35 (L35 v19)]) ?_ ?_
   ·obtain ⟨y30, hy30, h⟩ := bd h
    obtain ⟨hp31, h⟩ | ⟨hp31, h⟩ := ik h
    ·exact rx (c1 <| cr (oLdP (n := 2) (k := 0) (m := 6) (d := (kR f_api_State)) (u := v19) pt35 u u u t35 tm) (s1 u) <| c1 <| cm (oYield (n := 1) (id' := 23) u hy30 tm tm tm) (s3 u u u) <| c4 <| c1 <| .nil) <| pSub (Γ' := [(0, .d (sYield PP A a_y (fun z => (kR f_api_State).sig z) (fun z => ki.sig z))), (2, .d (sP (kR f_api_Lattice) a2)), (3, .d (sP (kR f_api_Table) a3)), (4, .p 70400 0), (6, .p 6 0), (9, .d (ki.sig a1)), (10, .d (ki.sig v21)), (28, .d (kB.sig true))]) (sb u) <| pRen 23 7777 u <| pJ2 _ _ (so h) (sb u) u
    ·exact rx (c1 <| cr (oLdP (n := 2) (k := 0) (m := 6) (d := (kR f_api_State)) (u := v19) pt35 u u u t35 tm) (s1 u) <| c1 <| cm (oYield (n := 1) (id' := 23) u hy30 tm tm tm) (s3 u u u) <| c4 <| c1 <| .nil) <| pSub (Γ' := [(0, .d (sYield PP A a_y (fun z => (kR f_api_State).sig z) (fun z => ki.sig z))), (2, .d (sP (kR f_api_Lattice) a2)), (3, .d (sP (kR f_api_Table) a3)), (4, .p 70400 0), (6, .p 6 0), (9, .d (ki.sig a1)), (10, .d (ki.sig v21)), (28, .d (kB.sig (!decide (y25.2.1 = 0))))]) (sb u) <| pRen 23 7777 u <| pJ2 _ _ (so h) (sb u) u
   ·rintro x28 x29 rfl
    replace h := hk2
    obtain ⟨hp32, h⟩ | ⟨hp32, h⟩ := ik h
    ·refine wBT hp32.1 tm (s1 u) <| wRet <| pThenR <| pBlkR <| pThenR <| pThenR <| pBlkR <| pThenR ?_
     obtain rfl := so h
     replace h := hk1
     refine pThenR ?_
     obtain rfl := so h
     exact pRYN (n := 1) (.inl u) u u u
    ·exact wBF hp32.1 tm (s1 u) <| wSkip <| pSeq <| rx (cr (oLdP (n := 0) (k := 0) (m := 6) (d := (kR f_api_State)) (u := y25.1) pt35 u u u t35 tm) (s1 u) <| cwn (oStP (n := 2) (k := 0) (m := 6) (d := (kR f_api_State)) (u := y25.1) pt35 u u u z35 tm tm) (s2 u u) <| .nil) <| pBlkN <| pSeq <| rx (c2 <| .nil) <| pDrop (.cons _ (.cons_cons _ (.cons_cons _ .slnil))) <| pLoop (lW (ih _ _ _ h) ⟨u, u, u, u, u, u, tv⟩ u)
  ·exact wCF hp24.1 tm (s1 u) <| wExit <| pThenX <| pThenX <| pBlkX <| pJ2 _ _ (so h) (sb u) u
 ·rintro x22 x23 rfl
  replace h := hk1
  refine pSeq ?_
  obtain ⟨y33, hy33, h⟩ := bd h
  refine rx (c1 <| cr (oLdP (n := 1) (k := 0) (m := 6) (d := (kR f_api_State)) (u := x22) pt35 u u u t35 tm) (s1 u) <| cm (oYield (n := 0) (id' := 33) u hy33 tm tm (cI (by decide))) (s2 u u) <| .nil) ?_
  obtain rfl := so h
  exact pRYN (n := 0) (.inr u) u u u
theorem run_states.ok {a0 : api_Lattice} {a1 : api_Table} {a2 : api_State} {a3 : Int} {r : Int × api_Lattice × api_Table × api_State} (h : run_states.f a0 a1 a2 a3 = some r) : FnS PP 38 [.d ((kR f_api_Lattice).sig a0), .d ((kR f_api_Table).sig a1), .d ((kR f_api_State).sig a2), .d (ki.sig a3)] [] [] (.f [6] (sCloN 76 [some (sP ki r.1), some (sP (kR f_api_Lattice) r.2.1), some (sP (kR f_api_Table) r.2.2.1), none])) [.box 6 35 (L35 r.2.2.2)] := by
 refine fnIntroS Tryz.func38 u (by kernel_rfl) fun X H0 w0 pv => ?_
 unfold run_states.f at h
 refine wSeq <| rx (c2 <| cw (oBoxP (id := 6) (d := (kR f_api_State)) (ls := [.d ki a2.Pc.V, .d ki a2.Pc.L, .d (kL (kR f_api_Instr)) a2.Code, .d (kL (kR f_api_Atom)) a2.Mem, .d (kL (kR f_api_Slot)) a2.Stack, .d (kL (kR f_api_Atom)) a2.Out]) pt35 u tm) (s1 u) <| c1 <| cp (oAs cV) tv <| .nil) <| pSeq <| wSeq <| rx (cp (oMkN (ids := [6]) (caps := [some (sP ki a3), some (sP (kR f_api_Lattice) a0), some (sP (kR f_api_Table) a1), none]) u (oNs tm (oNs tm (oNs tm (oNp tm oN0))))) ⟨u, u, u, u, tv⟩ <| c1 <| .nil) <| pSeq <| wRet ?_
 obtain rfl := so h
 exact pSF [0] u u (.inl u) u u
theorem run_Run.ok {a0 : api_Lattice} {a1 : api_Table} {a2 : api_State} {a3 : Int} {r : (List api_State) × Int × Int} (h : run_Run.f a0 a1 a2 a3 = some r) : FnA PP 16 [(kR f_api_Lattice).sig a0, (kR f_api_Table).sig a1, (kR f_api_State).sig a2, ki.sig a3] (tup [(kL (kR f_api_State)).sig r.1, ki.sig r.2.1, ki.sig r.2.2]) := by
 refine fnIntro Tryz.func16 u (by kernel_rfl) fun H0 w0 => ?_
 unfold run_Run.f at h
 refine wSeq <| rx (c3 <| cp (oAs cV) tv <| c2 <| .nil) <| pSeq <| wSeq <| wSeq ?_
 obtain ⟨y1, hy1, h⟩ := bd h
 refine rx (c4 <| cC (run_may.ok hy1) <| c1 <| .nil) <| pSeq <| wSeq <| rx (c2 <| .nil) <| pSeq ?_
 obtain ⟨hp2, h⟩ | ⟨hp2, h⟩ := ik h
 ·refine wNT hp2.1 tm (s1 u) <| wSkip <| pSeq <| wSeq <| rx (cw (oAlloc (id := 12) (ls := [.d (kN api_State) []]) ze49 (fun g => ⟨[(.slice none 0 0)], _, u, zN g.H, u⟩)) tv <| .nil) <| pSeq <| wSeq <| rx (cw (oAlloc (id := 13) (ls := [.d ki 0]) ze3 (fun g => ⟨[(.int .i64 0)], _, u, zI_i64 g.H, u⟩)) tv <| cwn (oSt (n := 0) (k := 0) u u u u z3 tm (cI (by decide))) (s1 u) <| .nil) <| pSeq <| wSeq <| wSeq ?_
  obtain ⟨y3, hy3, h⟩ := bd h
  refine rx (c4 <| cm (oCallS (rest := [.box 13 3 [.d ki 0], .box 12 49 [.d (kN api_State) []]]) (R' := [.box 360160 35 (L35 y3.2.2.2), .box 13 3 [.d ki 0], .box 12 49 [.d (kN api_State) []]]) (out' := .f [360160] (sCloN 76 [some (sP ki y3.1), some (sP (kR f_api_Lattice) y3.2.1), some (sP (kR f_api_Table) y3.2.2.1), none])) [] [(6, 360160)] [] [0, 1] [0, 1, 2] u (run_states.ok hy3) b38 (oE1 tm (oE1 tm (oE1 tm (oE1 tm oE0)))) u u u u u u u u) ⟨u, u, u, u, tv⟩ <| .nil) <| pSeq <| wBlock <| wPick (R' := [.box 13 3 [.d ki 0], .box 12 49 [.d (kN api_State) []], .box 360160 35 (L35 y3.2.2.2)]) [1, 2, 0] u u <| wNilL (kR f_api_State) 35 5600 (n := 1) (k := 0) u u u ?_
  obtain ⟨y10, hy10, h⟩ := bd h
  refine wRangeN (Γ' := [(12, .p 12 0), (13, .p 13 0)]) (Γ2 := fun v7 v8 => [(12, .p 12 0), (13, .p 13 0), (14, .p 14 0), (15, .d (ki.sig v8))]) (caps := [some (sP ki y3.1), some (sP (kR f_api_Lattice) y3.2.1), some (sP (kR f_api_Table) y3.2.2.1), none]) (kn := [70400]) (Rc := [.box 70400 35 (L35 y3.2.2.2)]) [(70400, 360160)] (fun (v6 : Int × (List api_State)) => [.row 5600 35 (kR f_api_State) v6.2, .box 13 3 [.d ki v6.1], .box 12 49 [.v 5600]]) (fun (v6 : Int × (List api_State)) v7 v8 => [.box 14 35 (L35 v7), .row 5600 35 (kR f_api_State) v6.2, .box 13 3 [.d ki v6.1], .box 12 49 [.v 5600]]) [] [12, 13] (run_Run.y0) (0, ([] : List api_State)) u (run_states_1.ok (a1 := y3.1) (a2 := y3.2.1) (a3 := y3.2.2.1) (a4 := y3.2.2.2)) u b76 hy10 u ⟨u, u, tv⟩ u u u ?_ ?_ ?_
  ·intro X H0 w0 l pv v6 v7 v8
   exact wSeq <| rx (cw (oAlloc (id := 14) (ls := Z35) ze35 zl35) tv <| cwn (oStP (n := 0) (k := 0) (m := 6) (d := (kR f_api_State)) (u := v7) pt35 u u u z35 tm tm) (s2 u u) <| .nil) <| pSeq <| rx (c1 <| .nil) <| qA ⟨u, u, u, u, tv⟩
  ·intro X H0 w0 l pv v6 v7 v8 o h
   unfold run_Run.y0 at h
   refine wBlock ?_
   obtain ⟨hc9, h⟩ := ib h
   refine rx (cr (oLdN (n := 3) (k := 0) u u u t49 tm) (s1 u) <| cr (oLdP (n := 0) (k := 0) (m := 6) (d := (kR f_api_State)) (u := v7) pt35 u u u t35 tm) (s1 u) <| cp (oLit (d := (kR f_api_State)) el49 (by decide) u u u (e1 tm e0)) (s1 u) <| cw (oApp (n := 1) (id' := 34) el49 (by decide) u (by decide) hc9 tm tm) (s2 u u) <| c1 <| cwn (oStN (n := 3) (m := 1) (k := 0) u u u u z49 u tm tm) (s2 u u) <| cwn (oSt (n := 2) (k := 0) u u u u z3 tm tm) (s2 u u) <| .nil) <| pBlkN <| pDrop (.cons _ (.cons_cons _ (.cons_cons _ (.cons_cons _ .slnil)))) <| pSub (Γ' := []) tv <| pRen 34 5600 u ?_
   obtain rfl := so h
   exact qN
  ·obtain ⟨hj10, h⟩ | ⟨hj10, h⟩ := ic h
   ·refine jp0 hj10 <| pBlkN <| pSeq <| wSeq <| rdx hm (cr (oLdN (n := 2) (k := 0) u u u t49 tm) (s1 u) <| cr (oLdB (n := 1) (k := 0) u u u t3 tm) (s1 u) <| c3 <| .nil) <| pSeq <| wFrzR (n := 0) (id := 5600) [8] u u ⟨u, tv⟩ <| wRet ?_
    obtain rfl := so h
    exact pRn (.inl u) u u (.tmp u <| .tmp u <| .tmp u <| .nil)
   ·cases h
 ·refine wNF hp2.1 tm (s1 u) <| wSeq <| rx (c1 <| cp (oAs cV) tv <| c2 <| .nil) <| pSeq <| wNil (kR f_api_State) 35 9008 8 u u <| wFrzR (n := 0) (id := 9008) [8] u u ⟨u, tv⟩ <| wRet <| pThenR ?_
  obtain rfl := so h
  exact pRn (.inl u) u u (.tmp u <| .tmp u <| .tmp u <| .nil)
theorem run_Last.ok {a0 : api_Lattice} {a1 : api_Table} {a2 : api_State} {a3 : Int} {r : api_State × Int × Int} (h : run_Last.f a0 a1 a2 a3 = some r) : FnA PP 17 [(kR f_api_Lattice).sig a0, (kR f_api_Table).sig a1, (kR f_api_State).sig a2, ki.sig a3] (tup [(kR f_api_State).sig r.1, ki.sig r.2.1, ki.sig r.2.2]) := by
 refine fnIntro Tryz.func17 u (by kernel_rfl) fun H0 w0 => ?_
 unfold run_Last.f at h
 refine wSeq <| rx (c2 <| cw (oBoxP (id := 6) (d := (kR f_api_State)) (ls := [.d ki a2.Pc.V, .d ki a2.Pc.L, .d (kL (kR f_api_Instr)) a2.Code, .d (kL (kR f_api_Atom)) a2.Mem, .d (kL (kR f_api_Slot)) a2.Stack, .d (kL (kR f_api_Atom)) a2.Out]) pt35 u tm) (s1 u) <| cw (oAlloc (id := 8) (ls := Z35) ze35 zl35) tv <| c2 <| .nil) <| pSeq <| wSeq <| wSeq ?_
 obtain ⟨y1, hy1, h⟩ := bd h
 refine rx (c2 <| cr (oLdP (n := 1) (k := 0) (m := 6) (d := (kR f_api_State)) (u := a2) pt35 u u u t35 tm) (s1 u) <| c1 <| cC (run_may.ok hy1) <| c1 <| .nil) <| pSeq <| wSeq <| rx (c2 <| .nil) <| pSeq ?_
 obtain ⟨hp2, h⟩ | ⟨hp2, h⟩ := ik h
 ·refine wNT hp2.1 tm (s1 u) <| wSkip <| pSeq <| wSeq <| rx (cw (oAlloc (id := 12) (ls := [.d ki 0]) ze3 (fun g => ⟨[(.int .i64 0)], _, u, zI_i64 g.H, u⟩)) tv <| cwn (oSt (n := 0) (k := 0) u u u u z3 tm (cI (by decide))) (s1 u) <| .nil) <| pSeq <| wSeq <| wSeq ?_
  obtain ⟨y3, hy3, h⟩ := bd h
  refine rx (c2 <| cr (oLdP (n := 2) (k := 0) (m := 6) (d := (kR f_api_State)) (u := a2) pt35 u u u t35 tm) (s1 u) <| c1 <| cm (oCallS (rest := [.box 12 3 [.d ki 0], .box 8 35 [.d ki 0, .d ki 0, .d (kL (kR f_api_Instr)) [], .d (kL (kR f_api_Atom)) [], .d (kL (kR f_api_Slot)) [], .d (kL (kR f_api_Atom)) []], .box 6 35 (L35 a2)]) (R' := [.box 350160 35 (L35 y3.2.2.2), .box 12 3 [.d ki 0], .box 8 35 [.d ki 0, .d ki 0, .d (kL (kR f_api_Instr)) [], .d (kL (kR f_api_Atom)) [], .d (kL (kR f_api_Slot)) [], .d (kL (kR f_api_Atom)) []], .box 6 35 (L35 a2)]) (out' := .f [350160] (sCloN 76 [some (sP ki y3.1), some (sP (kR f_api_Lattice) y3.2.1), some (sP (kR f_api_Table) y3.2.2.1), none])) [] [(6, 350160)] [] [0, 1, 2] [0, 1, 2, 3] u (run_states.ok hy3) b38 (oE1 tm (oE1 tm (oE1 tm (oE1 tm oE0)))) u u u u u u u u) ⟨u, u, u, u, tv⟩ <| .nil) <| pSeq <| wBlock <| wPick (R' := [.box 12 3 [.d ki 0], .box 8 35 [.d ki 0, .d ki 0, .d (kL (kR f_api_Instr)) [], .d (kL (kR f_api_Atom)) [], .d (kL (kR f_api_Slot)) [], .d (kL (kR f_api_Atom)) []], .box 6 35 (L35 a2), .box 350160 35 (L35 y3.2.2.2)]) [1, 2, 3, 0] u u ?_
  obtain ⟨y7, hy7, h⟩ := bd h
  refine wRangeN (Γ' := [(6, .p 6 0), (8, .p 8 0), (12, .p 12 0)]) (Γ2 := fun v5 v6 => [(6, .p 6 0), (8, .p 8 0), (12, .p 12 0), (13, .p 13 0), (14, .d (ki.sig v6))]) (caps := [some (sP ki y3.1), some (sP (kR f_api_Lattice) y3.2.1), some (sP (kR f_api_Table) y3.2.2.1), none]) (kn := [70400]) (Rc := [.box 70400 35 (L35 y3.2.2.2)]) [(70400, 350160)] (fun (v4 : api_State × Int × Int × Int × (List api_Instr) × (List api_Atom) × (List api_Slot) × (List api_Atom)) => [.box 12 3 [.d ki v4.2.1], .box 8 35 [.d ki 0, .d ki 0, .d (kL (kR f_api_Instr)) [], .d (kL (kR f_api_Atom)) [], .d (kL (kR f_api_Slot)) [], .d (kL (kR f_api_Atom)) []], .box 6 35 (L35 v4.1)]) (fun (v4 : api_State × Int × Int × Int × (List api_Instr) × (List api_Atom) × (List api_Slot) × (List api_Atom)) v5 v6 => [.box 13 35 (L35 v5), .box 12 3 [.d ki v4.2.1], .box 8 35 [.d ki 0, .d ki 0, .d (kL (kR f_api_Instr)) [], .d (kL (kR f_api_Atom)) [], .d (kL (kR f_api_Slot)) [], .d (kL (kR f_api_Atom)) []], .box 6 35 (L35 v4.1)]) [] [6, 8, 12] (run_Last.y0) (a2, 0, a2.Pc.V, a2.Pc.L, a2.Code, a2.Mem, a2.Stack, a2.Out) u (run_states_1.ok (a1 := y3.1) (a2 := y3.2.1) (a3 := y3.2.2.1) (a4 := y3.2.2.2)) u b76 hy7 u ⟨u, u, u, tv⟩ u u u ?_ ?_ ?_
  ·intro X H0 w0 l pv v4 v5 v6
   exact wSeq <| rx (cw (oAlloc (id := 13) (ls := Z35) ze35 zl35) tv <| cwn (oStP (n := 0) (k := 0) (m := 6) (d := (kR f_api_State)) (u := v5) pt35 u u u z35 tm tm) (s2 u u) <| .nil) <| pSeq <| rx (c1 <| .nil) <| qA ⟨u, u, u, u, u, tv⟩
  ·intro X H0 w0 l pv v4 v5 v6 o h
   unfold run_Last.y0 at h
   refine wBlock <| rx (cr (oLdP (n := 0) (k := 0) (m := 6) (d := (kR f_api_State)) (u := v5) pt35 u u u t35 tm) (s1 u) <| c1 <| cwn (oStP (n := 3) (k := 0) (m := 6) (d := (kR f_api_State)) (u := v5) pt35 u u u z35 tm tm) (s2 u u) <| cwn (oSt (n := 1) (k := 0) u u u u z3 tm tm) (s2 u u) <| .nil) <| pBlkN <| pDrop (.cons _ (.cons_cons _ (.cons_cons _ (.cons_cons _ .slnil)))) ?_
   obtain rfl := so h
   exact qN
  ·obtain ⟨hj7, h⟩ | ⟨hj7, h⟩ := ic h
   ·refine jp0 hj7 <| pBlkN <| pSeq <| wSeq <| wFrzV 12 (n := 0) (id := 12) u u u <| rdx hm (cr (oLdP (n := 1) (k := 0) (m := 6) (d := (kR f_api_State)) (u := y7.1.1) pt35 u u u t35 tm) (s1 u) <| c1 <| cwn (oStP (n := 0) (k := 0) (m := 6) (d := (kR f_api_State)) (u := y7.1.1) pt35 u u u z35 tm tm) (s2 u u) <| c2 <| .nil) <| pSeq <| wRet ?_
    obtain rfl := so h
    exact pRn (.inl u) u u (.boxP (n := 0) (d := (kR f_api_State)) (u := y7.1.1) u u pt35 u t35 <| .tmp u <| .tmp u <| .nil)
   ·cases h
 ·refine wNF hp2.1 tm (s1 u) <| wSeq <| rx (cp (oBuild (fs := f_api_State) (u := ⟨(⟨0, 0⟩ : api_Atom), [], [], [], []⟩) u ze35 pl35 po35 (.ze (zc := [(.int .i64 0), (.int .i64 0)]) zR_api_Atom (.ze (zc := [(.slice none 0 0)]) zL (.ze (zc := [(.slice none 0 0)]) zL (.ze (zc := [(.slice none 0 0)]) zL (.ze (zc := [(.slice none 0 0)]) zL .nil)))))) tv <| c1 <| cwn (oStP (n := 0) (k := 0) (m := 6) (d := (kR f_api_State)) (u := (⟨(⟨0, 0⟩ : api_Atom), [], [], [], []⟩ : api_State)) pt35 u u u z35 tm tm) (s2 u u) <| c2 <| .nil) <| pSeq <| wRet <| pThenR ?_
  obtain rfl := so h
  exact pRn (.inl u) u u (.boxP (n := 0) (d := (kR f_api_State)) (u := (⟨⟨0, 0⟩, [], [], [], []⟩ : api_State)) u u pt35 u t35 <| .tmp u <| .tmp u <| .nil)
theorem reticentref01_Name.ok {a0 : Str} {r : Bool} (h : reticentref01_Name.f a0 = some r) : FnA PP 108 [kS.sig a0] (kB.sig r) := by
 refine fnIntro Tryz.func108 u (by kernel_rfl) fun H0 w0 => ?_
 unfold reticentref01_Name.f at h
 refine wSeq <| rx (c1 <| .nil) <| pSeq <| wSeq <| wSeq <| rx (c1 <| .nil) <| pSeq ?_
 obtain ⟨o1, h, hk1⟩ := bd h
 refine wK0 (.inr () = o1) ([(0, .d (kS.sig a0))]) ([]) ?_ ?_
 ·refine wBlock (wLoop ?_)
  refine lW (pc1 o1 (fun v19 => [(0, .d (kS.sig a0)), (3, .d (ki.sig v19))]) (fun v19 => []) (reticentref01_Name.l0.partial_correctness a0) ?_ _ h) ⟨u, u, tv⟩ u
  clear h
  intro f' ih v19 h
  refine wSeq <| wSeq <| rx (c2 <| cp (oLenS u9 tm) (s1 u) <| c1 <| .nil) <| pSeq ?_
  obtain ⟨hp20, h⟩ | ⟨hp20, h⟩ := ik h
  ·refine wCT hp20.1 tm (s1 u) <| wSkip <| pSeq <| wSeq <| wBlock ?_
   obtain ⟨o2, h, hk2⟩ := bd h
   refine wJ1 (fun x24 => x24 = o2) (fun x24 => [(0, .d (kS.sig a0)), (3, .d (ki.sig v19)), (19, .d (kB.sig x24))]) (fun x24 => []) ?_ ?_
   ·obtain ⟨hc25, h⟩ := ib h
    obtain ⟨hp26, h⟩ | ⟨hp26, h⟩ := ik h
    ·exact rx (c2 <| cp (oIdxS u9 hc25.1 hc25.2 tm tm) (s2 u u) <| c6 <| c1 <| .nil) <| pJ1 _ (so h) (sb u) u
    ·obtain ⟨hc27, h⟩ := ib h
     exact rx (c2 <| cp (oIdxS u9 hc25.1 hc25.2 tm tm) (s2 u u) <| c4 <| cgB (dF hp26.1) u u (oIdxS u9 hc27.1 hc27.2 tm tm) (s2 u u) <| c2 <| .nil) <| pJ1 _ (so h) (sb u) u
   ·rintro x24 rfl
    replace h := hk2
    obtain ⟨hp28, h⟩ | ⟨hp28, h⟩ := ik h
    ·refine wBT hp28.1 tm (s1 u) <| wSeq <| rx (c1 <| .nil) <| pSeq <| wRet <| pBlkR <| pThenR <| pThenR <| pBlkR <| pThenR ?_
     obtain rfl := so h
     replace h := hk1
     refine pThenR ?_
     obtain rfl := so h
     exact pR1 (.inl u) u (.tmp u <| .nil)
    ·exact wBF hp28.1 tm (s1 u) <| wSkip <| pBlkN <| pSeq <| rx (c3 <| .nil) <| pLoop (lW (ih _ h) ⟨u, u, tv⟩ u)
  ·exact wCF hp20.1 tm (s1 u) <| wExit <| pThenX <| pThenX <| pBlkX <| pJ0 (so h) (sb u) u
 ·rintro rfl
  replace h := hk1
  refine pSeq ?_
  obtain ⟨o1, h, hk1⟩ := bd h
  refine wJ1 (fun x30 => x30 = o1) (fun x30 => [(2, .d (kB.sig x30))]) (fun x30 => []) ?_ ?_
  ·obtain ⟨hp31, h⟩ | ⟨hp31, h⟩ := ik h
   ·exact rx (c1 <| cp (oLenS u9 tm) (s1 u) <| c3 <| cgB (dT hp31.1) u u (oLenS u9 tm) (s1 u) <| c3 <| .nil) <| pJ1 _ (so h) (sb u) u
   ·exact rx (c1 <| cp (oLenS u9 tm) (s1 u) <| c6 <| c1 <| .nil) <| pJ1 _ (so h) (sb u) u
  ·rintro x30 rfl
   replace h := hk1
   refine wRet ?_
   obtain rfl := so h
   exact pR1 (.inl u) u (.tmp u <| .nil)
theorem reticentref01_high.ok {a0 : Int} {a1 : Int} {r : Bool} (h : reticentref01_high.f a0 a1 = some r) : FnA PP 109 [(kI .u32).sig a0, ki.sig a1] (kB.sig r) := by
 refine fnIntro Tryz.func109 u (by kernel_rfl) fun H0 w0 => ?_
 unfold reticentref01_high.f at h
 refine wSeq <| rx (c1 <| .nil) <| pSeq <| wSeq <| wSeq <| rx (c1 <| .nil) <| pSeq ?_
 obtain ⟨o1, h, hk1⟩ := bd h
 refine wK1 (fun x5 => x5 = o1) (fun x5 => [(0, .d ((kI .u32).sig x5))]) (fun x5 => []) ?_ ?_
 ·refine wBlock (wLoop ?_)
  refine lW (pc2 o1 (fun v3 v4 => [(0, .d ((kI .u32).sig v3)), (1, .d (ki.sig a1)), (5, .d (ki.sig v4))]) (fun v3 v4 => []) (reticentref01_high.l0.partial_correctness a1) ?_ _ _ h) ⟨u, u, u, tv⟩ u
  clear h
  intro f' ih v3 v4 h
  refine wSeq <| wSeq <| rx (c3 <| .nil) <| pSeq ?_
  obtain ⟨hp6, h⟩ | ⟨hp6, h⟩ := ik h
  ·exact wCT hp6.1 tm (s1 u) <| wSkip <| pSeq <| wSeq <| wBlock <| rx (c1 <| cp (oQuo (by decide) tm (cI (by decide))) (s1 u) <| c1 <| .nil) <| pBlkN <| pSeq <| rx (c3 <| .nil) <| pLoop (lW (ih _ _ h) ⟨u, u, u, tv⟩ u)
  ·exact wCF hp6.1 tm (s1 u) <| wExit <| pThenX <| pThenX <| pBlkX <| pJ1 _ (so h) (sb u) u
 ·rintro x5 rfl
  replace h := hk1
  refine pSeq <| wSeq <| rx (c3 <| .nil) <| pSeq <| wRet ?_
  obtain rfl := so h
  exact pR1 (.inl u) u (.tmp u <| .nil)
theorem reticentref01_may.ok {a0 : api_Lattice} {r : Bool} (h : reticentref01_may.f a0 = some r) : FnA PP 61 [(kR f_api_Lattice).sig a0] (kB.sig r) := by
 refine fnIntro Tryz.func61 u (by kernel_rfl) fun H0 w0 => ?_
 unfold reticentref01_may.f at h
 refine wSeq <| rx (c2 <| .nil) <| pSeq <| wSeq ?_
 obtain ⟨o1, h, hk1⟩ := bd h
 refine wJ1 (fun x3 => x3 = o1) (fun x3 => [(1, .d (sP (kR f_api_Lattice) a0)), (25, .d (kB.sig x3))]) (fun x3 => []) ?_ ?_
 ·obtain ⟨hp4, h⟩ | ⟨hp4, h⟩ := ik h
  ·exact rx (c12 <| c6 <| c1 <| .nil) <| pJ1 _ (so h) (sb u) u
  ·obtain ⟨hp5, h⟩ | ⟨hp5, h⟩ := ik h
   ·exact rx (c12 <| c6 <| c1 <| .nil) <| pJ1 _ (so h) (sb u) u
   ·exact rx (c12 <| c6 <| c1 <| .nil) <| pJ1 _ (so h) (sb u) u
 ·rintro x3 rfl
  replace h := hk1
  obtain ⟨hp6, h⟩ | ⟨hp6, h⟩ := ik h
  ·refine wBT hp6.1 tm (s1 u) <| wSeq <| rx (c1 <| .nil) <| pSeq <| wRet <| pThenR ?_
   obtain rfl := so h
   exact pR1 (.inl u) u (.tmp u <| .nil)
  ·refine wBF hp6.1 tm (s1 u) <| wSkip <| pSeq <| wSeq <| wSeq <| rx (c4 <| .nil) <| pSeq ?_
   obtain ⟨o1, h, hk1⟩ := bd h
   refine wK0 (.inr () = o1) ([]) ([]) ?_ ?_
   ·refine wBlock (wLoop ?_)
    refine lW (pc1 o1 (fun v53 => [(1, .d (sP (kR f_api_Lattice) a0)), (27, .d ((kL kS).sig a0.Names)), (28, .d (ki.sig (a0.Names.length : Int))), (29, .d (ki.sig v53))]) (fun v53 => []) (reticentref01_may.l2.partial_correctness a0) ?_ _ h) ⟨u, u, u, u, tv⟩ u
    clear h
    intro f' ih v53 h
    refine wSeq <| rx (c1 <| .nil) <| pSeq <| wSeq ?_
    obtain ⟨hp54, h⟩ | ⟨hp54, h⟩ := ik h
    ·refine wCT hp54.1 tm (s1 u) <| wSkip <| pSeq <| wSeq <| wBlock <| wSeq ?_
     obtain ⟨y55, hy55, h⟩ := bd h
     refine rx (c1 <| cp (oIdx u22 z9 hy55 tm tm) (s2 u u) <| c3 <| .nil) <| pSeq <| wSeq ?_
     obtain ⟨o2, h, hk2⟩ := bd h
     refine wJ1 (fun x60 => x60 = o2) (fun x60 => [(1, .d (sP (kR f_api_Lattice) a0)), (3, .d (ki.sig v53)), (4, .d (kS.sig y55)), (27, .d ((kL kS).sig a0.Names)), (28, .d (ki.sig (a0.Names.length : Int))), (29, .d (ki.sig v53)), (47, .d (kB.sig x60))]) (fun x60 => []) ?_ ?_
     ·obtain ⟨y61, hy61, h⟩ := bd h
      obtain ⟨hp62, h⟩ | ⟨hp62, h⟩ := ik h
      ·exact rdx hm (c1 <| cC (reticentref01_Name.ok hy61) <| c12 <| .nil) <| pJ1 _ (so h) (sb u) u
      ·obtain ⟨y63, hy63, h⟩ := bd h
       obtain ⟨y64, hy64, h⟩ := bd h
       exact rdx hm (c1 <| cC (reticentref01_Name.ok hy61) <| c4 <| c1 <| cgB (nb hp62.1) u u (oIdx u23 z71 hy63 tm tm) (s2 u u) <| c4 <| cgB (nb hp62.1) u u (oCall u (reticentref01_high.ok hy64) b109 (oc tm (oc tm o0))) (s2 u u) <| c1 <| .nil) <| pJ1 _ (so h) (sb u) u
     ·rintro x60 rfl
      replace h := hk2
      obtain ⟨hp65, h⟩ | ⟨hp65, h⟩ := ik h
      ·refine wBT hp65.1 tm (s1 u) <| wSeq <| rx (c1 <| .nil) <| pSeq <| wRet <| pThenR <| pBlkR <| pThenR <| pThenR <| pBlkR <| pThenR ?_
       obtain rfl := so h
       replace h := hk1
       refine pThenR ?_
       obtain rfl := so h
       exact pR1 (.inl u) u (.tmp u <| .nil)
      ·refine wBF hp65.1 tm (s1 u) <| wSkip <| pSeq <| wSeq ?_
       obtain ⟨hc66, h⟩ := ib h
       refine rx (c3 <| cp (oCutHi u22 z9 hc66.1 hc66.2 tm tm) (s2 u u) <| c2 <| .nil) <| pSeq ?_
       obtain ⟨o2, h, hk2⟩ := bd h
       refine wK0 (.inr () = o2) ([(1, .d (sP (kR f_api_Lattice) a0)), (27, .d ((kL kS).sig a0.Names)), (28, .d (ki.sig (a0.Names.length : Int))), (29, .d (ki.sig v53))]) ([]) ?_ ?_
       ·refine wBlock (wLoop ?_)
        refine lW (pc1 o2 (fun v73 => [(1, .d (sP (kR f_api_Lattice) a0)), (4, .d (kS.sig y55)), (27, .d ((kL kS).sig a0.Names)), (28, .d (ki.sig (a0.Names.length : Int))), (29, .d (ki.sig v53)), (51, .d ((kL kS).sig (lCut a0.Names 0 v53))), (52, .d (ki.sig ((lCut a0.Names 0 v53).length : Int))), (53, .d (ki.sig v73))]) (fun v73 => []) (reticentref01_may.l3.partial_correctness a0 v53 y55) ?_ _ h) ⟨u, u, u, u, u, u, u, u, tv⟩ u
        clear h
        intro f' ih v73 h
        refine wSeq <| rx (c1 <| .nil) <| pSeq <| wSeq ?_
        obtain ⟨hp74, h⟩ | ⟨hp74, h⟩ := ik h
        ·refine wCT hp74.1 tm (s1 u) <| wSkip <| pSeq <| wSeq <| wBlock <| wSeq ?_
         obtain ⟨y75, hy75, h⟩ := bd h
         refine rx (cp (oIdx u22 z9 hy75 tm tm) (s2 u u) <| c2 <| .nil) <| pSeq <| wSeq <| rx (c2 <| cp (oSEq u tm tm) (s2 u u) <| .nil) <| pSeq ?_
         obtain ⟨hp76, h⟩ | ⟨hp76, h⟩ := ik h
         ·refine wCT hp76.1 tm (s1 u) <| wSeq <| rx (c1 <| .nil) <| pSeq <| wRet <| pBlkR <| pThenR <| pThenR <| pBlkR <| pThenR ?_
          obtain rfl := so h
          replace h := hk2
          refine pBlkR <| pThenR <| pThenR <| pBlkR <| pThenR ?_
          obtain rfl := so h
          replace h := hk1
          refine pThenR ?_
          obtain rfl := so h
          exact pR1 (.inl u) u (.tmp u <| .nil)
         ·exact wCF hp76.1 tm (s1 u) <| wSkip <| pBlkN <| pSeq <| rx (c2 <| .nil) <| pLoop (lW (ih _ h) ⟨u, u, u, u, u, u, u, u, tv⟩ u)
        ·exact wCF hp74.1 tm (s1 u) <| wExit <| pThenX <| pThenX <| pBlkX <| pJ0 (so h) (sb u) u
       ·rintro rfl
        replace h := hk2
        exact pBlkN <| pSeq <| rx (c2 <| .nil) <| pLoop (lW (ih _ h) ⟨u, u, u, u, tv⟩ u)
    ·exact wCF hp54.1 tm (s1 u) <| wExit <| pThenX <| pThenX <| pBlkX <| pJ0 (so h) tv u
   ·rintro rfl
    replace h := hk1
    refine pSeq <| wSeq <| rx (c1 <| .nil) <| pSeq <| wRet ?_
    obtain rfl := so h
    exact pR1 (.inl u) u (.tmp u <| .nil)
theorem reticentref01_Flows.ok {a0 : api_Lattice} {a1 : Int} {a2 : Int} {r : Bool} (h : reticentref01_Flows.f a0 a1 a2 = some r) : FnA PP 110 [(kR f_api_Lattice).sig a0, ki.sig a1, ki.sig a2] (kB.sig r) := by
 refine fnIntro Tryz.func110 u (by kernel_rfl) fun H0 w0 => ?_
 unfold reticentref01_Flows.f at h
 refine wSeq <| rx (c2 <| .nil) <| pSeq <| wSeq ?_
 obtain ⟨y1, hy1, h⟩ := bd h
 refine rx (c3 <| cp (oIdx u23 z71 hy1 tm tm) (s2 u u) <| c2 <| .nil) <| pSeq <| wSeq <| wSeq <| rx (c1 <| .nil) <| pSeq ?_
 obtain ⟨o1, h, hk1⟩ := bd h
 refine wK1 (fun x6 => x6 = o1) (fun x6 => [(7, .d ((kI .u32).sig x6))]) (fun x6 => []) ?_ ?_
 ·refine wBlock (wLoop ?_)
  refine lW (pc2 o1 (fun v4 v5 => [(2, .d (ki.sig a2)), (7, .d ((kI .u32).sig v4)), (8, .d (ki.sig v5))]) (fun v4 v5 => []) (reticentref01_Flows.l0.partial_correctness a2) ?_ _ _ h) ⟨u, u, u, tv⟩ u
  clear h
  intro f' ih v4 v5 h
  refine wSeq <| wSeq <| rx (c3 <| .nil) <| pSeq ?_
  obtain ⟨hp7, h⟩ | ⟨hp7, h⟩ := ik h
  ·exact wCT hp7.1 tm (s1 u) <| wSkip <| pSeq <| wSeq <| wBlock <| rx (c1 <| cp (oQuo (by decide) tm (cI (by decide))) (s1 u) <| c1 <| .nil) <| pBlkN <| pSeq <| rx (c3 <| .nil) <| pLoop (lW (ih _ _ h) ⟨u, u, u, tv⟩ u)
  ·exact wCF hp7.1 tm (s1 u) <| wExit <| pThenX <| pThenX <| pBlkX <| pJ1 _ (so h) (sb u) u
 ·rintro x6 rfl
  replace h := hk1
  refine pSeq <| wSeq <| rx (c1 <| cp (oRem (by decide) tm (cI (by decide))) (s1 u) <| c2 <| .nil) <| pSeq <| wRet ?_
  obtain rfl := so h
  exact pR1 (.inl u) u (.tmp u <| .nil)
theorem reticentref01_order.ok {a0 : api_Lattice} {r : Bool} (h : reticentref01_order.f a0 = some r) : FnA PP 62 [(kR f_api_Lattice).sig a0] (kB.sig r) := by
 refine fnIntro Tryz.func62 u (by kernel_rfl) fun H0 w0 => ?_
 unfold reticentref01_order.f at h
 refine wSeq <| rx (c2 <| .nil) <| pSeq <| wSeq <| wSeq <| rx (c4 <| .nil) <| pSeq ?_
 obtain ⟨o1, h, hk1⟩ := bd h
 refine wK0 (.inr () = o1) ([]) ([]) ?_ ?_
 ·refine wBlock (wLoop ?_)
  refine lW (pc1 o1 (fun v315 => [(1, .d (sP (kR f_api_Lattice) a0)), (8, .d (ki.sig (a0.Up.length : Int))), (9, .d (ki.sig v315))]) (fun v315 => []) (reticentref01_order.l8.partial_correctness a0) ?_ _ h) ⟨u, u, u, tv⟩ u
  clear h
  intro f' ih v315 h
  refine wSeq <| rx (c1 <| .nil) <| pSeq <| wSeq ?_
  obtain ⟨hp316, h⟩ | ⟨hp316, h⟩ := ik h
  ·refine wCT hp316.1 tm (s1 u) <| wSkip <| pSeq <| wSeq <| wBlock <| wSeq <| rx (c2 <| .nil) <| pSeq <| wSeq <| wSeq ?_
   obtain ⟨y317, hy317, h⟩ := bd h
   refine rx (c3 <| cC (reticentref01_Flows.ok hy317) <| c1 <| .nil) <| pSeq ?_
   obtain ⟨hp318, h⟩ | ⟨hp318, h⟩ := ik h
   ·refine wBT hp318.1 tm (s1 u) <| wSeq <| rx (c1 <| .nil) <| pSeq <| wRet <| pThenR <| pBlkR <| pThenR <| pThenR <| pBlkR <| pThenR ?_
    obtain rfl := so h
    replace h := hk1
    refine pThenR ?_
    obtain rfl := so h
    exact pR1 (.inl u) u (.tmp u <| .nil)
   ·refine wBF hp318.1 tm (s1 u) <| wSkip <| pSeq <| wSeq <| rx (c4 <| .nil) <| pSeq ?_
    obtain ⟨o2, h, hk2⟩ := bd h
    refine wK0 (.inr () = o2) ([(1, .d (sP (kR f_api_Lattice) a0)), (8, .d (ki.sig (a0.Up.length : Int))), (9, .d (ki.sig v315))]) ([]) ?_ ?_
    ·refine wBlock (wLoop ?_)
     refine lW (pc1 o2 (fun v421 => [(1, .d (sP (kR f_api_Lattice) a0)), (3, .d (ki.sig v315)), (8, .d (ki.sig (a0.Up.length : Int))), (9, .d (ki.sig v315)), (19, .d (ki.sig (a0.Up.length : Int))), (20, .d (ki.sig v421))]) (fun v421 => []) (reticentref01_order.l11.partial_correctness a0 v315) ?_ _ h) ⟨u, u, u, u, u, u, tv⟩ u
     clear h
     intro f' ih v421 h
     refine wSeq <| rx (c1 <| .nil) <| pSeq <| wSeq ?_
     obtain ⟨hp422, h⟩ | ⟨hp422, h⟩ := ik h
     ·refine wCT hp422.1 tm (s1 u) <| wSkip <| pSeq <| wSeq <| wBlock <| wSeq <| rx (c2 <| .nil) <| pSeq <| wSeq ?_
      obtain ⟨o3, h, hk3⟩ := bd h
      refine wJ1 (fun x427 => x427 = o3) (fun x427 => [(1, .d (sP (kR f_api_Lattice) a0)), (3, .d (ki.sig v315)), (4, .d (ki.sig v421)), (8, .d (ki.sig (a0.Up.length : Int))), (9, .d (ki.sig v315)), (19, .d (ki.sig (a0.Up.length : Int))), (20, .d (ki.sig v421)), (37, .d (kB.sig x427))]) (fun x427 => []) ?_ ?_
      ·obtain ⟨hp428, h⟩ | ⟨hp428, h⟩ := ik h
       ·exact rx (c12 <| c3 <| .nil) <| pJ1 _ (so h) (sb u) u
       ·obtain ⟨y429, hy429, h⟩ := bd h
        obtain ⟨hp430, h⟩ | ⟨hp430, h⟩ := ik h
        ·obtain ⟨y431, hy431, h⟩ := bd h
         exact rx (c6 <| c1 <| cgB (nt hp428.1) u u (oCall u (reticentref01_Flows.ok hy429) b110 (oc tm (oc tm (oc tm o0)))) (s3 u u u) <| c4 <| c1 <| cgB hp430.1 u u (oCall u (reticentref01_Flows.ok hy431) b110 (oc tm (oc tm (oc tm o0)))) (s3 u u u) <| c1 <| .nil) <| pJ1 _ (so h) (sb u) u
        ·exact rx (c6 <| c1 <| cgB (nt hp428.1) u u (oCall u (reticentref01_Flows.ok hy429) b110 (oc tm (oc tm (oc tm o0)))) (s3 u u u) <| c6 <| c1 <| .nil) <| pJ1 _ (so h) (sb u) u
      ·rintro x427 rfl
       replace h := hk3
       obtain ⟨hp432, h⟩ | ⟨hp432, h⟩ := ik h
       ·refine wBT hp432.1 tm (s1 u) <| wSeq <| rx (c1 <| .nil) <| pSeq <| wRet <| pThenR <| pBlkR <| pThenR <| pThenR <| pBlkR <| pThenR ?_
        obtain rfl := so h
        replace h := hk2
        refine pBlkR <| pThenR <| pThenR <| pBlkR <| pThenR ?_
        obtain rfl := so h
        replace h := hk1
        refine pThenR ?_
        obtain rfl := so h
        exact pR1 (.inl u) u (.tmp u <| .nil)
       ·refine wBF hp432.1 tm (s1 u) <| wSkip <| pSeq <| wSeq <| rx (c4 <| .nil) <| pSeq ?_
        obtain ⟨o3, h, hk3⟩ := bd h
        refine wK0 (.inr () = o3) ([(1, .d (sP (kR f_api_Lattice) a0)), (3, .d (ki.sig v315)), (8, .d (ki.sig (a0.Up.length : Int))), (9, .d (ki.sig v315)), (19, .d (ki.sig (a0.Up.length : Int))), (20, .d (ki.sig v421))]) ([]) ?_ ?_
        ·refine wBlock (wLoop ?_)
         refine lW (pc1 o3 (fun v459 => [(1, .d (sP (kR f_api_Lattice) a0)), (3, .d (ki.sig v315)), (4, .d (ki.sig v421)), (8, .d (ki.sig (a0.Up.length : Int))), (9, .d (ki.sig v315)), (19, .d (ki.sig (a0.Up.length : Int))), (20, .d (ki.sig v421)), (40, .d (ki.sig (a0.Up.length : Int))), (41, .d (ki.sig v459))]) (fun v459 => []) (reticentref01_order.l12.partial_correctness a0 v315 v421) ?_ _ h) ⟨u, u, u, u, u, u, u, u, u, tv⟩ u
         clear h
         intro f' ih v459 h
         refine wSeq <| rx (c1 <| .nil) <| pSeq <| wSeq ?_
         obtain ⟨hp460, h⟩ | ⟨hp460, h⟩ := ik h
         ·refine wCT hp460.1 tm (s1 u) <| wSkip <| pSeq <| wSeq <| wBlock <| wSeq <| rx (c2 <| .nil) <| pSeq ?_
          obtain ⟨o4, h, hk4⟩ := bd h
          refine wJ1 (fun x466 => x466 = o4) (fun x466 => [(1, .d (sP (kR f_api_Lattice) a0)), (3, .d (ki.sig v315)), (4, .d (ki.sig v421)), (8, .d (ki.sig (a0.Up.length : Int))), (9, .d (ki.sig v315)), (19, .d (ki.sig (a0.Up.length : Int))), (20, .d (ki.sig v421)), (40, .d (ki.sig (a0.Up.length : Int))), (41, .d (ki.sig v459)), (60, .d (kB.sig x466))]) (fun x466 => []) ?_ ?_
          ·obtain ⟨y467, hy467, h⟩ := bd h
           obtain ⟨hp468, h⟩ | ⟨hp468, h⟩ := ik h
           ·obtain ⟨y469, hy469, h⟩ := bd h
            obtain ⟨hp470, h⟩ | ⟨hp470, h⟩ := ik h
            ·obtain ⟨y471, hy471, h⟩ := bd h
             exact rx (c3 <| cC (reticentref01_Flows.ok hy467) <| c4 <| cgB hp468.1 u u (oCall u (reticentref01_Flows.ok hy469) b110 (oc tm (oc tm (oc tm o0)))) (s3 u u u) <| c4 <| c1 <| cgB hp470.1 u u (oCall u (reticentref01_Flows.ok hy471) b110 (oc tm (oc tm (oc tm o0)))) (s3 u u u) <| c2 <| .nil) <| pJ1 _ (so h) (sb u) u
            ·exact rx (c3 <| cC (reticentref01_Flows.ok hy467) <| c4 <| cgB hp468.1 u u (oCall u (reticentref01_Flows.ok hy469) b110 (oc tm (oc tm (oc tm o0)))) (s3 u u u) <| c8 <| .nil) <| pJ1 _ (so h) (sb u) u
           ·exact rx (c3 <| cC (reticentref01_Flows.ok hy467) <| c12 <| c1 <| .nil) <| pJ1 _ (so h) (sb u) u
          ·rintro x466 rfl
           replace h := hk4
           obtain ⟨hp472, h⟩ | ⟨hp472, h⟩ := ik h
           ·refine wBT hp472.1 tm (s1 u) <| wSeq <| rx (c1 <| .nil) <| pSeq <| wRet <| pBlkR <| pThenR <| pThenR <| pBlkR <| pThenR ?_
            obtain rfl := so h
            replace h := hk3
            refine pBlkR <| pThenR <| pThenR <| pBlkR <| pThenR ?_
            obtain rfl := so h
            replace h := hk2
            refine pBlkR <| pThenR <| pThenR <| pBlkR <| pThenR ?_
            obtain rfl := so h
            replace h := hk1
            refine pThenR ?_
            obtain rfl := so h
            exact pR1 (.inl u) u (.tmp u <| .nil)
           ·exact wBF hp472.1 tm (s1 u) <| wSkip <| pBlkN <| pSeq <| rx (c2 <| .nil) <| pLoop (lW (ih _ h) ⟨u, u, u, u, u, u, u, u, u, tv⟩ u)
         ·exact wCF hp460.1 tm (s1 u) <| wExit <| pThenX <| pThenX <| pBlkX <| pJ0 (so h) (sb u) u
        ·rintro rfl
         replace h := hk3
         exact pBlkN <| pSeq <| rx (c2 <| .nil) <| pLoop (lW (ih _ h) ⟨u, u, u, u, u, u, tv⟩ u)
     ·exact wCF hp422.1 tm (s1 u) <| wExit <| pThenX <| pThenX <| pBlkX <| pJ0 (so h) (sb u) u
    ·rintro rfl
     replace h := hk2
     exact pBlkN <| pSeq <| rx (c2 <| .nil) <| pLoop (lW (ih _ h) ⟨u, u, u, tv⟩ u)
  ·exact wCF hp316.1 tm (s1 u) <| wExit <| pThenX <| pThenX <| pBlkX <| pJ0 (so h) tv u
 ·rintro rfl
  replace h := hk1
  refine pSeq <| wSeq <| rx (c1 <| .nil) <| pSeq <| wRet ?_
  obtain rfl := so h
  exact pR1 (.inl u) u (.tmp u <| .nil)
theorem reticentref01_Join.ok {a0 : api_Lattice} {a1 : Int} {a2 : Int} {r : Int} (h : reticentref01_Join.f a0 a1 a2 = some r) : FnA PP 63 [(kR f_api_Lattice).sig a0, ki.sig a1, ki.sig a2] (ki.sig r) := by
 refine fnIntro Tryz.func63 u (by kernel_rfl) fun H0 w0 => ?_
 unfold reticentref01_Join.f at h
 refine wSeq <| rx (c2 <| .nil) <| pSeq <| wSeq <| wSeq <| rx (c4 <| .nil) <| pSeq ?_
 obtain ⟨o1, h, hk1⟩ := bd h
 refine wK0 (.inr () = o1) ([]) ([]) ?_ ?_
 ·refine wBlock (wLoop ?_)
  refine lW (pc1 o1 (fun v181 => [(1, .d (ki.sig a1)), (2, .d (ki.sig a2)), (3, .d (sP (kR f_api_Lattice) a0)), (12, .d (ki.sig (a0.Up.length : Int))), (13, .d (ki.sig v181))]) (fun v181 => []) (reticentref01_Join.l2.partial_correctness a0 a1 a2) ?_ _ h) ⟨u, u, u, u, u, tv⟩ u
  clear h
  intro f' ih v181 h
  refine wSeq <| rx (c1 <| .nil) <| pSeq <| wSeq ?_
  obtain ⟨hp182, h⟩ | ⟨hp182, h⟩ := ik h
  ·refine wCT hp182.1 tm (s1 u) <| wSkip <| pSeq <| wSeq <| wBlock <| wSeq <| rx (c2 <| .nil) <| pSeq ?_
   obtain ⟨o2, h, hk2⟩ := bd h
   refine wJ1 (fun x186 => x186 = o2) (fun x186 => [(1, .d (ki.sig a1)), (2, .d (ki.sig a2)), (3, .d (sP (kR f_api_Lattice) a0)), (7, .d (ki.sig v181)), (8, .d (kB.sig x186)), (12, .d (ki.sig (a0.Up.length : Int))), (13, .d (ki.sig v181))]) (fun x186 => []) ?_ ?_
   ·obtain ⟨y187, hy187, h⟩ := bd h
    obtain ⟨hp188, h⟩ | ⟨hp188, h⟩ := ik h
    ·obtain ⟨y189, hy189, h⟩ := bd h
     exact rx (c3 <| cC (reticentref01_Flows.ok hy187) <| c4 <| cgB hp188.1 u u (oCall u (reticentref01_Flows.ok hy189) b110 (oc tm (oc tm (oc tm o0)))) (s3 u u u) <| c2 <| .nil) <| pJ1 _ (so h) (sb u) u
    ·exact rx (c3 <| cC (reticentref01_Flows.ok hy187) <| c6 <| c1 <| .nil) <| pJ1 _ (so h) (sb u) u
   ·rintro x186 rfl
    replace h := hk2
    refine wSeq <| wSeq <| rx (c4 <| .nil) <| pSeq ?_
    obtain ⟨o2, h, hk2⟩ := bd h
    refine wK1 (fun x244 => x244 = o2) (fun x244 => [(1, .d (ki.sig a1)), (2, .d (ki.sig a2)), (3, .d (sP (kR f_api_Lattice) a0)), (7, .d (ki.sig v181)), (8, .d (kB.sig x244)), (12, .d (ki.sig (a0.Up.length : Int))), (13, .d (ki.sig v181))]) (fun x244 => []) ?_ ?_
    ·refine wBlock (wLoop ?_)
     refine lW (pc2 o2 (fun v242 v243 => [(1, .d (ki.sig a1)), (2, .d (ki.sig a2)), (3, .d (sP (kR f_api_Lattice) a0)), (7, .d (ki.sig v181)), (8, .d (kB.sig v243)), (12, .d (ki.sig (a0.Up.length : Int))), (13, .d (ki.sig v181)), (28, .d (ki.sig (a0.Up.length : Int))), (29, .d (ki.sig v242))]) (fun v242 v243 => []) (reticentref01_Join.l3.partial_correctness a0 a1 a2 v181) ?_ _ _ h) ⟨u, u, u, u, u, u, u, u, u, tv⟩ u
     clear h
     intro f' ih v242 v243 h
     refine wSeq <| rx (c1 <| .nil) <| pSeq <| wSeq ?_
     obtain ⟨hp245, h⟩ | ⟨hp245, h⟩ := ik h
     ·refine wCT hp245.1 tm (s1 u) <| wSkip <| pSeq ?_
      obtain ⟨o3, h, hk3⟩ := bd h
      refine wJ1 (fun x258 => x258 = o3) (fun x258 => [(1, .d (ki.sig a1)), (2, .d (ki.sig a2)), (3, .d (sP (kR f_api_Lattice) a0)), (7, .d (ki.sig v181)), (8, .d (kB.sig x258)), (12, .d (ki.sig (a0.Up.length : Int))), (13, .d (ki.sig v181)), (28, .d (ki.sig (a0.Up.length : Int))), (29, .d (ki.sig v242))]) (fun x258 => []) ?_ ?_
      ·refine wBlock <| wSeq <| rx (c2 <| .nil) <| pSeq ?_
       obtain ⟨o4, h, hk4⟩ := bd h
       refine wJ1 (fun x264 => x264 = o4) (fun x264 => [(1, .d (ki.sig a1)), (2, .d (ki.sig a2)), (3, .d (sP (kR f_api_Lattice) a0)), (7, .d (ki.sig v181)), (8, .d (kB.sig v243)), (12, .d (ki.sig (a0.Up.length : Int))), (13, .d (ki.sig v181)), (28, .d (ki.sig (a0.Up.length : Int))), (29, .d (ki.sig v242)), (48, .d (kB.sig x264))]) (fun x264 => []) ?_ ?_
       ·obtain ⟨y265, hy265, h⟩ := bd h
        obtain ⟨hp266, h⟩ | ⟨hp266, h⟩ := ik h
        ·obtain ⟨y267, hy267, h⟩ := bd h
         obtain ⟨hp268, h⟩ | ⟨hp268, h⟩ := ik h
         ·obtain ⟨y269, hy269, h⟩ := bd h
          exact rx (c3 <| cC (reticentref01_Flows.ok hy265) <| c4 <| cgB hp266.1 u u (oCall u (reticentref01_Flows.ok hy267) b110 (oc tm (oc tm (oc tm o0)))) (s3 u u u) <| c4 <| c1 <| cgB hp268.1 u u (oCall u (reticentref01_Flows.ok hy269) b110 (oc tm (oc tm (oc tm o0)))) (s3 u u u) <| c2 <| .nil) <| pJ1 _ (so h) (sb u) u
         ·exact rx (c3 <| cC (reticentref01_Flows.ok hy265) <| c4 <| cgB hp266.1 u u (oCall u (reticentref01_Flows.ok hy267) b110 (oc tm (oc tm (oc tm o0)))) (s3 u u u) <| c8 <| .nil) <| pJ1 _ (so h) (sb u) u
        ·exact rx (c3 <| cC (reticentref01_Flows.ok hy265) <| c12 <| c1 <| .nil) <| pJ1 _ (so h) (sb u) u
       ·rintro x264 rfl
        replace h := hk4
        obtain ⟨hp270, h⟩ | ⟨hp270, h⟩ := ik h
        ·exact wBT hp270.1 tm (s1 u) <| rx (c1 <| .nil) <| pBlkN <| pJ1 _ (so h) (sb u) u
        ·exact wBF hp270.1 tm (s1 u) <| wSkip <| pBlkN <| pJ1 _ (so h) (sb u) u
      ·rintro x258 rfl
       replace h := hk3
       exact rx (c2 <| .nil) <| pLoop (lW (ih _ _ h) ⟨u, u, u, u, u, u, u, u, u, tv⟩ u)
     ·exact wCF hp245.1 tm (s1 u) <| wExit <| pThenX <| pThenX <| pBlkX <| pJ1 _ (so h) (sb u) u
    ·rintro x244 rfl
     replace h := hk2
     refine pSeq <| wSeq <| rx (c1 <| .nil) <| pSeq ?_
     obtain ⟨hp271, h⟩ | ⟨hp271, h⟩ := ik h
     ·refine wBT hp271.1 tm (s1 u) <| wSeq <| rx (c2 <| .nil) <| pSeq <| wRet <| pBlkR <| pThenR <| pThenR <| pBlkR <| pThenR ?_
      obtain rfl := so h
      replace h := hk1
      refine pThenR ?_
      obtain rfl := so h
      exact pR1 (.inl u) u (.tmp u <| .nil)
     ·exact wBF hp271.1 tm (s1 u) <| wSkip <| pBlkN <| pSeq <| rx (c2 <| .nil) <| pLoop (lW (ih _ h) ⟨u, u, u, u, u, tv⟩ u)
  ·exact wCF hp182.1 tm (s1 u) <| wExit <| pThenX <| pThenX <| pBlkX <| pJ0 (so h) tv u
 ·rintro rfl
  replace h := hk1
  refine pSeq <| wSeq <| rx (c1 <| .nil) <| pSeq <| wRet ?_
  obtain rfl := so h
  exact pR1 (.inl u) u (.tmp u <| .nil)
theorem reticentref01_Meet.ok {a0 : api_Lattice} {a1 : Int} {a2 : Int} {r : Int} (h : reticentref01_Meet.f a0 a1 a2 = some r) : FnA PP 64 [(kR f_api_Lattice).sig a0, ki.sig a1, ki.sig a2] (ki.sig r) := by
 refine fnIntro Tryz.func64 u (by kernel_rfl) fun H0 w0 => ?_
 unfold reticentref01_Meet.f at h
 refine wSeq <| rx (c2 <| .nil) <| pSeq <| wSeq <| wSeq <| rx (c4 <| .nil) <| pSeq ?_
 obtain ⟨o1, h, hk1⟩ := bd h
 refine wK0 (.inr () = o1) ([]) ([]) ?_ ?_
 ·refine wBlock (wLoop ?_)
  refine lW (pc1 o1 (fun v181 => [(1, .d (ki.sig a1)), (2, .d (ki.sig a2)), (3, .d (sP (kR f_api_Lattice) a0)), (12, .d (ki.sig (a0.Up.length : Int))), (13, .d (ki.sig v181))]) (fun v181 => []) (reticentref01_Meet.l2.partial_correctness a0 a1 a2) ?_ _ h) ⟨u, u, u, u, u, tv⟩ u
  clear h
  intro f' ih v181 h
  refine wSeq <| rx (c1 <| .nil) <| pSeq <| wSeq ?_
  obtain ⟨hp182, h⟩ | ⟨hp182, h⟩ := ik h
  ·refine wCT hp182.1 tm (s1 u) <| wSkip <| pSeq <| wSeq <| wBlock <| wSeq <| rx (c2 <| .nil) <| pSeq ?_
   obtain ⟨o2, h, hk2⟩ := bd h
   refine wJ1 (fun x186 => x186 = o2) (fun x186 => [(1, .d (ki.sig a1)), (2, .d (ki.sig a2)), (3, .d (sP (kR f_api_Lattice) a0)), (7, .d (ki.sig v181)), (8, .d (kB.sig x186)), (12, .d (ki.sig (a0.Up.length : Int))), (13, .d (ki.sig v181))]) (fun x186 => []) ?_ ?_
   ·obtain ⟨y187, hy187, h⟩ := bd h
    obtain ⟨hp188, h⟩ | ⟨hp188, h⟩ := ik h
    ·obtain ⟨y189, hy189, h⟩ := bd h
     exact rx (c3 <| cC (reticentref01_Flows.ok hy187) <| c4 <| cgB hp188.1 u u (oCall u (reticentref01_Flows.ok hy189) b110 (oc tm (oc tm (oc tm o0)))) (s3 u u u) <| c2 <| .nil) <| pJ1 _ (so h) (sb u) u
    ·exact rx (c3 <| cC (reticentref01_Flows.ok hy187) <| c6 <| c1 <| .nil) <| pJ1 _ (so h) (sb u) u
   ·rintro x186 rfl
    replace h := hk2
    refine wSeq <| wSeq <| rx (c4 <| .nil) <| pSeq ?_
    obtain ⟨o2, h, hk2⟩ := bd h
    refine wK1 (fun x244 => x244 = o2) (fun x244 => [(1, .d (ki.sig a1)), (2, .d (ki.sig a2)), (3, .d (sP (kR f_api_Lattice) a0)), (7, .d (ki.sig v181)), (8, .d (kB.sig x244)), (12, .d (ki.sig (a0.Up.length : Int))), (13, .d (ki.sig v181))]) (fun x244 => []) ?_ ?_
    ·refine wBlock (wLoop ?_)
     refine lW (pc2 o2 (fun v242 v243 => [(1, .d (ki.sig a1)), (2, .d (ki.sig a2)), (3, .d (sP (kR f_api_Lattice) a0)), (7, .d (ki.sig v181)), (8, .d (kB.sig v243)), (12, .d (ki.sig (a0.Up.length : Int))), (13, .d (ki.sig v181)), (28, .d (ki.sig (a0.Up.length : Int))), (29, .d (ki.sig v242))]) (fun v242 v243 => []) (reticentref01_Meet.l3.partial_correctness a0 a1 a2 v181) ?_ _ _ h) ⟨u, u, u, u, u, u, u, u, u, tv⟩ u
     clear h
     intro f' ih v242 v243 h
     refine wSeq <| rx (c1 <| .nil) <| pSeq <| wSeq ?_
     obtain ⟨hp245, h⟩ | ⟨hp245, h⟩ := ik h
     ·refine wCT hp245.1 tm (s1 u) <| wSkip <| pSeq ?_
      obtain ⟨o3, h, hk3⟩ := bd h
      refine wJ1 (fun x258 => x258 = o3) (fun x258 => [(1, .d (ki.sig a1)), (2, .d (ki.sig a2)), (3, .d (sP (kR f_api_Lattice) a0)), (7, .d (ki.sig v181)), (8, .d (kB.sig x258)), (12, .d (ki.sig (a0.Up.length : Int))), (13, .d (ki.sig v181)), (28, .d (ki.sig (a0.Up.length : Int))), (29, .d (ki.sig v242))]) (fun x258 => []) ?_ ?_
      ·refine wBlock <| wSeq <| rx (c2 <| .nil) <| pSeq ?_
       obtain ⟨o4, h, hk4⟩ := bd h
       refine wJ1 (fun x264 => x264 = o4) (fun x264 => [(1, .d (ki.sig a1)), (2, .d (ki.sig a2)), (3, .d (sP (kR f_api_Lattice) a0)), (7, .d (ki.sig v181)), (8, .d (kB.sig v243)), (12, .d (ki.sig (a0.Up.length : Int))), (13, .d (ki.sig v181)), (28, .d (ki.sig (a0.Up.length : Int))), (29, .d (ki.sig v242)), (48, .d (kB.sig x264))]) (fun x264 => []) ?_ ?_
       ·obtain ⟨y265, hy265, h⟩ := bd h
        obtain ⟨hp266, h⟩ | ⟨hp266, h⟩ := ik h
        ·obtain ⟨y267, hy267, h⟩ := bd h
         obtain ⟨hp268, h⟩ | ⟨hp268, h⟩ := ik h
         ·obtain ⟨y269, hy269, h⟩ := bd h
          exact rx (c3 <| cC (reticentref01_Flows.ok hy265) <| c4 <| cgB hp266.1 u u (oCall u (reticentref01_Flows.ok hy267) b110 (oc tm (oc tm (oc tm o0)))) (s3 u u u) <| c4 <| c1 <| cgB hp268.1 u u (oCall u (reticentref01_Flows.ok hy269) b110 (oc tm (oc tm (oc tm o0)))) (s3 u u u) <| c2 <| .nil) <| pJ1 _ (so h) (sb u) u
         ·exact rx (c3 <| cC (reticentref01_Flows.ok hy265) <| c4 <| cgB hp266.1 u u (oCall u (reticentref01_Flows.ok hy267) b110 (oc tm (oc tm (oc tm o0)))) (s3 u u u) <| c8 <| .nil) <| pJ1 _ (so h) (sb u) u
        ·exact rx (c3 <| cC (reticentref01_Flows.ok hy265) <| c12 <| c1 <| .nil) <| pJ1 _ (so h) (sb u) u
       ·rintro x264 rfl
        replace h := hk4
        obtain ⟨hp270, h⟩ | ⟨hp270, h⟩ := ik h
        ·exact wBT hp270.1 tm (s1 u) <| rx (c1 <| .nil) <| pBlkN <| pJ1 _ (so h) (sb u) u
        ·exact wBF hp270.1 tm (s1 u) <| wSkip <| pBlkN <| pJ1 _ (so h) (sb u) u
      ·rintro x258 rfl
       replace h := hk3
       exact rx (c2 <| .nil) <| pLoop (lW (ih _ _ h) ⟨u, u, u, u, u, u, u, u, u, tv⟩ u)
     ·exact wCF hp245.1 tm (s1 u) <| wExit <| pThenX <| pThenX <| pBlkX <| pJ1 _ (so h) (sb u) u
    ·rintro x244 rfl
     replace h := hk2
     refine pSeq <| wSeq <| rx (c1 <| .nil) <| pSeq ?_
     obtain ⟨hp271, h⟩ | ⟨hp271, h⟩ := ik h
     ·refine wBT hp271.1 tm (s1 u) <| wSeq <| rx (c2 <| .nil) <| pSeq <| wRet <| pBlkR <| pThenR <| pThenR <| pBlkR <| pThenR ?_
      obtain rfl := so h
      replace h := hk1
      refine pThenR ?_
      obtain rfl := so h
      exact pR1 (.inl u) u (.tmp u <| .nil)
     ·exact wBF hp271.1 tm (s1 u) <| wSkip <| pBlkN <| pSeq <| rx (c2 <| .nil) <| pLoop (lW (ih _ h) ⟨u, u, u, u, u, tv⟩ u)
  ·exact wCF hp182.1 tm (s1 u) <| wExit <| pThenX <| pThenX <| pBlkX <| pJ0 (so h) tv u
 ·rintro rfl
  replace h := hk1
  refine pSeq <| wSeq <| rx (c1 <| .nil) <| pSeq <| wRet ?_
  obtain rfl := so h
  exact pR1 (.inl u) u (.tmp u <| .nil)
theorem reticentref01_Check.ok {a0 : api_Lattice} {r : Int} (h : reticentref01_Check.f a0 = some r) : FnA PP 26 [(kR f_api_Lattice).sig a0] (ki.sig r) := by
 refine fnIntro Tryz.func26 u (by kernel_rfl) fun H0 w0 => ?_
 unfold reticentref01_Check.f at h
 refine wSeq <| rx (c2 <| .nil) <| pSeq <| wSeq <| wSeq ?_
 obtain ⟨y1, hy1, h⟩ := bd h
 refine rx (c1 <| cC (reticentref01_may.ok hy1) <| c1 <| .nil) <| pSeq ?_
 obtain ⟨hp2, h⟩ | ⟨hp2, h⟩ := ik h
 ·refine wBT hp2.1 tm (s1 u) <| wSeq <| rx (c1 <| .nil) <| pSeq <| wRet <| pThenR ?_
  obtain rfl := so h
  exact pR1 (.inl u) u (.tmp u <| .nil)
 ·refine wBF hp2.1 tm (s1 u) <| wSkip <| pSeq <| wSeq <| wSeq ?_
  obtain ⟨y3, hy3, h⟩ := bd h
  refine rx (c1 <| cC (reticentref01_order.ok hy3) <| c1 <| .nil) <| pSeq ?_
  obtain ⟨hp4, h⟩ | ⟨hp4, h⟩ := ik h
  ·refine wBT hp4.1 tm (s1 u) <| wSeq <| rx (c1 <| .nil) <| pSeq <| wRet <| pThenR ?_
   obtain rfl := so h
   exact pR1 (.inl u) u (.tmp u <| .nil)
  ·refine wBF hp4.1 tm (s1 u) <| wSkip <| pSeq <| wSeq <| wSeq <| rx (c4 <| .nil) <| pSeq ?_
   obtain ⟨o1, h, hk1⟩ := bd h
   refine wK0 (.inr () = o1) ([]) ([]) ?_ ?_
   ·refine wBlock (wLoop ?_)
    refine lW (pc1 o1 (fun v63 => [(1, .d (sP (kR f_api_Lattice) a0)), (13, .d (ki.sig (a0.Up.length : Int))), (14, .d (ki.sig v63))]) (fun v63 => []) (reticentref01_Check.l2.partial_correctness a0) ?_ _ h) ⟨u, u, u, tv⟩ u
    clear h
    intro f' ih v63 h
    refine wSeq <| rx (c1 <| .nil) <| pSeq <| wSeq ?_
    obtain ⟨hp64, h⟩ | ⟨hp64, h⟩ := ik h
    ·refine wCT hp64.1 tm (s1 u) <| wSkip <| pSeq <| wSeq <| wBlock <| wSeq <| rx (c2 <| .nil) <| pSeq <| wSeq <| rx (c4 <| .nil) <| pSeq ?_
     obtain ⟨o2, h, hk2⟩ := bd h
     refine wK0 (.inr () = o2) ([(1, .d (sP (kR f_api_Lattice) a0)), (13, .d (ki.sig (a0.Up.length : Int))), (14, .d (ki.sig v63))]) ([]) ?_ ?_
     ·refine wBlock (wLoop ?_)
      refine lW (pc1 o2 (fun v83 => [(1, .d (sP (kR f_api_Lattice) a0)), (3, .d (ki.sig v63)), (13, .d (ki.sig (a0.Up.length : Int))), (14, .d (ki.sig v63)), (19, .d (ki.sig (a0.Up.length : Int))), (20, .d (ki.sig v83))]) (fun v83 => []) (reticentref01_Check.l3.partial_correctness a0 v63) ?_ _ h) ⟨u, u, u, u, u, u, tv⟩ u
      clear h
      intro f' ih v83 h
      refine wSeq <| rx (c1 <| .nil) <| pSeq <| wSeq ?_
      obtain ⟨hp84, h⟩ | ⟨hp84, h⟩ := ik h
      ·refine wCT hp84.1 tm (s1 u) <| wSkip <| pSeq <| wSeq <| wBlock <| wSeq <| rx (c2 <| .nil) <| pSeq ?_
       obtain ⟨o3, h, hk3⟩ := bd h
       refine wJ1 (fun x88 => x88 = o3) (fun x88 => [(1, .d (sP (kR f_api_Lattice) a0)), (3, .d (ki.sig v63)), (13, .d (ki.sig (a0.Up.length : Int))), (14, .d (ki.sig v63)), (19, .d (ki.sig (a0.Up.length : Int))), (20, .d (ki.sig v83)), (34, .d (kB.sig x88))]) (fun x88 => []) ?_ ?_
       ·obtain ⟨y89, hy89, h⟩ := bd h
        obtain ⟨hp90, h⟩ | ⟨hp90, h⟩ := ik h
        ·exact rx (c3 <| cC (reticentref01_Join.ok hy89) <| c8 <| .nil) <| pJ1 _ (so h) (sb u) u
        ·obtain ⟨y91, hy91, h⟩ := bd h
         exact rx (c3 <| cC (reticentref01_Join.ok hy89) <| c4 <| c1 <| cgB (dF hp90.1) u u (oCall u (reticentref01_Meet.ok hy91) b64 (oc tm (oc tm (oc tm o0)))) (s3 u u u) <| c2 <| .nil) <| pJ1 _ (so h) (sb u) u
       ·rintro x88 rfl
        replace h := hk3
        obtain ⟨hp92, h⟩ | ⟨hp92, h⟩ := ik h
        ·refine wBT hp92.1 tm (s1 u) <| wSeq <| rx (c1 <| .nil) <| pSeq <| wRet <| pBlkR <| pThenR <| pThenR <| pBlkR <| pThenR ?_
         obtain rfl := so h
         replace h := hk2
         refine pBlkR <| pThenR <| pThenR <| pBlkR <| pThenR ?_
         obtain rfl := so h
         replace h := hk1
         refine pThenR ?_
         obtain rfl := so h
         exact pR1 (.inl u) u (.tmp u <| .nil)
        ·exact wBF hp92.1 tm (s1 u) <| wSkip <| pBlkN <| pSeq <| rx (c2 <| .nil) <| pLoop (lW (ih _ h) ⟨u, u, u, u, u, u, tv⟩ u)
      ·exact wCF hp84.1 tm (s1 u) <| wExit <| pThenX <| pThenX <| pBlkX <| pJ0 (so h) (sb u) u
     ·rintro rfl
      replace h := hk2
      exact pBlkN <| pSeq <| rx (c2 <| .nil) <| pLoop (lW (ih _ h) ⟨u, u, u, tv⟩ u)
    ·exact wCF hp64.1 tm (s1 u) <| wExit <| pThenX <| pThenX <| pBlkX <| pJ0 (so h) tv u
   ·rintro rfl
    replace h := hk1
    refine pSeq <| wSeq <| rx (c1 <| .nil) <| pSeq <| wRet ?_
    obtain rfl := so h
    exact pR1 (.inl u) u (.tmp u <| .nil)
theorem reticentref04_two.ok {a0 : List Int} {a1 : Int} {r : Bool} (h : reticentref04_two.f a0 a1 = some r) : FnA PP 142 [(kL ki).sig a0, ki.sig a1] (kB.sig r) := by
 refine fnIntro Tryz.func142 u (by kernel_rfl) fun H0 w0 => ?_
 unfold reticentref04_two.f at h
 refine wSeq <| rx (c1 <| .nil) <| pSeq <| wSeq <| rx (c3 <| .nil) <| pSeq ?_
 obtain ⟨o1, h, hk1⟩ := bd h
 refine wJ1 (fun x5 => x5 = o1) (fun x5 => [(4, .d (kB.sig x5))]) (fun x5 => []) ?_ ?_
 ·obtain ⟨hp6, h⟩ | ⟨hp6, h⟩ := ik h
  ·obtain ⟨y7, hy7, h⟩ := bd h
   obtain ⟨hp8, h⟩ | ⟨hp8, h⟩ := ik h
   ·obtain ⟨y9, hy9, h⟩ := bd h
    exact rx (c6 <| cgB (dT hp6.1) u u (oIdx u59 z3 hy7 tm tm) (s2 u u) <| c8 <| cgB (dT hp8.1) u u (oIdx u59 z3 hy9 tm tm) (s2 u u) <| c4 <| c1 <| .nil) <| pJ1 _ (so h) (sb u) u
   ·exact rx (c6 <| cgB (dT hp6.1) u u (oIdx u59 z3 hy7 tm tm) (s2 u u) <| c12 <| c2 <| .nil) <| pJ1 _ (so h) (sb u) u
  ·exact rx (c12 <| c8 <| c1 <| .nil) <| pJ1 _ (so h) (sb u) u
 ·rintro x5 rfl
  replace h := hk1
  refine wRet ?_
  obtain rfl := so h
  exact pR1 (.inl u) u (.tmp u <| .nil)
theorem reticentref04_Made.ok {a0 : List Int} {r : Int} (h : reticentref04_Made.f a0 = some r) : FnA PP 130 [(kL ki).sig a0] (ki.sig r) := by
 refine fnIntro Tryz.func130 u (by kernel_rfl) fun H0 w0 => ?_
 unfold reticentref04_Made.f at h
 refine wSeq <| rx (c1 <| .nil) <| pSeq <| wSeq <| rx (cw (oLitR (id := 7) (d := ki) el59 (by decide) u u u e0) tv <| c1 <| .nil) <| pSeq <| wSeq <| wSeq <| rx (c3 <| .nil) <| pSeq <| wWeak (Γ' := [(0, .d ((kL ki).sig a0)), (3, .v 7), (8, .d ((kL ki).sig a0)), (9, .d (ki.sig (a0.length : Int))), (10, .d (ki.sig 0))]) (sb u) <| wRen 7 1003 u ?_
 obtain ⟨o1, h, hk1⟩ := bd h
 refine wK1 (fun x171 => .inr x171 = o1) (fun x171 => [(0, .d ((kL ki).sig a0)), (3, .v 1003)]) (fun x171 => [.row 1003 3 ki x171]) ?_ ?_
 ·refine wBlock (wLoop ?_)
  refine lW (pc2 o1 (fun v169 v170 => [(0, .d ((kL ki).sig a0)), (3, .v 1003), (8, .d ((kL ki).sig a0)), (9, .d (ki.sig (a0.length : Int))), (10, .d (ki.sig v170))]) (fun v169 v170 => [.row 1003 3 ki v169]) (reticentref04_Made.l0.partial_correctness a0) ?_ _ _ h) ⟨u, u, u, u, u, tv⟩ u
  clear h
  intro f' ih v169 v170 h
  refine wSeq <| rx (c1 <| .nil) <| pSeq <| wSeq ?_
  obtain ⟨hp172, h⟩ | ⟨hp172, h⟩ := ik h
  ·refine wCT hp172.1 tm (s1 u) <| wSkip <| pSeq ?_
   obtain ⟨o2, h, hk2⟩ := bd h
   refine wJ1 (fun x214 => .inr x214 = o2) (fun x214 => [(0, .d ((kL ki).sig a0)), (3, .v 1003), (8, .d ((kL ki).sig a0)), (9, .d (ki.sig (a0.length : Int))), (10, .d (ki.sig v170))]) (fun x214 => [.row 1003 3 ki x214]) ?_ ?_
   ·refine wBlock <| wSeq ?_
    obtain ⟨y215, hy215, h⟩ := bd h
    refine rx (cp (oIdx u59 z3 hy215 tm tm) (s2 u u) <| c2 <| .nil) <| pSeq <| wSeq <| rx (c1 <| cr (oLenR (n := 0) u59 u tm) (s1 u) <| c1 <| .nil) <| pSeq ?_
    obtain ⟨o3, h, hk3⟩ := bd h
    refine wJ1 (fun x217 => x217 = o3) (fun x217 => [(0, .d ((kL ki).sig a0)), (3, .v 1003), (5, .d (ki.sig y215)), (6, .d (ki.sig (v169.length : Int))), (8, .d ((kL ki).sig a0)), (9, .d (ki.sig (a0.length : Int))), (10, .d (ki.sig v170)), (21, .d (kB.sig x217))]) (fun x217 => [.row 1003 3 ki v169]) ?_ ?_
    ·obtain ⟨hp218, h⟩ | ⟨hp218, h⟩ := ik h
     ·exact rx (c6 <| .nil) <| pJ1 _ (so h) (sb u) u
     ·exact rx (c6 <| .nil) <| pJ1 _ (so h) (sb u) u
    ·rintro x217 rfl
     replace h := hk3
     obtain ⟨hp219, h⟩ | ⟨hp219, h⟩ := ik h
     ·refine wBT hp219.1 tm (s1 u) ?_
      obtain ⟨hc220, h⟩ := ib h
      exact rx (c1 <| cp (oLit (d := ki) el59 (by decide) u u u (e1 (cI (by decide)) e0)) tv <| cw (oApp (n := 0) (id' := 24) el59 (by decide) u (by decide) hc220 tm tm) (s2 u u) <| c1 <| .nil) <| pBlkN <| pSub (Γ' := [(0, .d ((kL ki).sig a0)), (3, .v 24), (8, .d ((kL ki).sig a0)), (9, .d (ki.sig (a0.length : Int))), (10, .d (ki.sig v170))]) (sb u) <| pRen 24 1003 u <| pJ1 _ (so h) (sb u) u
     ·refine wBF hp219.1 tm (s1 u) ?_
      obtain ⟨o3, h, hk3⟩ := bd h
      refine wJ1 (fun x222 => x222 = o3) (fun x222 => [(0, .d ((kL ki).sig a0)), (3, .v 1003), (5, .d (ki.sig y215)), (6, .d (ki.sig (v169.length : Int))), (8, .d ((kL ki).sig a0)), (9, .d (ki.sig (a0.length : Int))), (10, .d (ki.sig v170)), (30, .d (kB.sig x222))]) (fun x222 => [.row 1003 3 ki v169]) ?_ ?_
      ·obtain ⟨hp223, h⟩ | ⟨hp223, h⟩ := ik h
       ·exact rx (c6 <| .nil) <| pJ1 _ (so h) (sb u) u
       ·exact rx (c6 <| .nil) <| pJ1 _ (so h) (sb u) u
      ·rintro x222 rfl
       replace h := hk3
       obtain ⟨hp224, h⟩ | ⟨hp224, h⟩ := ik h
       ·refine wBT hp224.1 tm (s1 u) ?_
        obtain ⟨hc225, h⟩ := ib h
        exact rx (c1 <| cp (oLit (d := ki) el59 (by decide) u u u (e1 (cI (by decide)) e0)) tv <| cw (oApp (n := 0) (id' := 33) el59 (by decide) u (by decide) hc225 tm tm) (s2 u u) <| c1 <| .nil) <| pBlkN <| pSub (Γ' := [(0, .d ((kL ki).sig a0)), (3, .v 33), (8, .d ((kL ki).sig a0)), (9, .d (ki.sig (a0.length : Int))), (10, .d (ki.sig v170))]) (sb u) <| pRen 33 1003 u <| pJ1 _ (so h) (sb u) u
       ·refine wBF hp224.1 tm (s1 u) ?_
        obtain ⟨o3, h, hk3⟩ := bd h
        refine wJ1 (fun x230 => x230 = o3) (fun x230 => [(0, .d ((kL ki).sig a0)), (3, .v 1003), (5, .d (ki.sig y215)), (6, .d (ki.sig (v169.length : Int))), (8, .d ((kL ki).sig a0)), (9, .d (ki.sig (a0.length : Int))), (10, .d (ki.sig v170)), (43, .d (kB.sig x230))]) (fun x230 => [.row 1003 3 ki v169]) ?_ ?_
        ·obtain ⟨hp231, h⟩ | ⟨hp231, h⟩ := ik h
         ·obtain ⟨y232, hy232, h⟩ := bd h
          exact rx (c8 <| crgB u u u (oCallB u (reticentref04_two.ok hy232) (fK fB) b142 (rc1 (rR (n := 0) u) (rc1 (rD (cI (by decide))) rn0))) (s1 u) <| c1 <| .nil) <| pJ1 _ (so h) (sb u) u
         ·obtain ⟨hp233, h⟩ | ⟨hp233, h⟩ := ik h
          ·obtain ⟨y234, hy234, h⟩ := bd h
           exact rx (c8 <| crgB (dT hp233.1) u u (oCallB u (reticentref04_two.ok hy234) (fK fB) b142 (rc1 (rR (n := 0) u) (rc1 (rD (cI (by decide))) rn0))) (s1 u) <| c1 <| .nil) <| pJ1 _ (so h) (sb u) u
          ·exact rx (c8 <| c2 <| .nil) <| pJ1 _ (so h) (sb u) u
        ·rintro x230 rfl
         replace h := hk3
         obtain ⟨hp235, h⟩ | ⟨hp235, h⟩ := ik h
         ·refine wBT hp235.1 tm (s1 u) ?_
          obtain ⟨hc236, h⟩ := ib h
          exact rx (c3 <| cw (oCutR (n := 0) (id' := 47) u59 z3 u hc236.1 hc236.2 tm tm) (s2 u u) <| c1 <| .nil) <| pBlkN <| pSub (Γ' := [(0, .d ((kL ki).sig a0)), (3, .v 47), (8, .d ((kL ki).sig a0)), (9, .d (ki.sig (a0.length : Int))), (10, .d (ki.sig v170))]) (sb u) <| pRen 47 1003 u <| pJ1 _ (so h) (sb u) u
         ·refine wBF hp235.1 tm (s1 u) ?_
          obtain ⟨o3, h, hk3⟩ := bd h
          refine wJ1 (fun x239 => x239 = o3) (fun x239 => [(0, .d ((kL ki).sig a0)), (3, .v 1003), (5, .d (ki.sig y215)), (6, .d (ki.sig (v169.length : Int))), (8, .d ((kL ki).sig a0)), (9, .d (ki.sig (a0.length : Int))), (10, .d (ki.sig v170)), (53, .d (kB.sig x239))]) (fun x239 => [.row 1003 3 ki v169]) ?_ ?_
          ·obtain ⟨hp240, h⟩ | ⟨hp240, h⟩ := ik h
           ·obtain ⟨y241, hy241, h⟩ := bd h
            exact rx (c4 <| crgB (dT hp240.1) u u (oCallB u (reticentref04_two.ok hy241) (fK fB) b142 (rc1 (rR (n := 0) u) (rc1 (rD (cI (by decide))) rn0))) (s1 u) <| c1 <| .nil) <| pJ1 _ (so h) (sb u) u
           ·exact rx (c6 <| .nil) <| pJ1 _ (so h) (sb u) u
          ·rintro x239 rfl
           replace h := hk3
           obtain ⟨hp242, h⟩ | ⟨hp242, h⟩ := ik h
           ·refine wBT hp242.1 tm (s1 u) <| wSeq ?_
            obtain ⟨hc243, h⟩ := ib h
            refine rx (c3 <| cw (oCutR (n := 0) (id' := 57) u59 z3 u hc243.1 hc243.2 tm tm) (s2 u u) <| c1 <| .nil) <| pSeq ?_
            obtain ⟨hc244, h⟩ := ib h
            exact rx (c1 <| cp (oLit (d := ki) el59 (by decide) u u u (e1 (cI (by decide)) e0)) tv <| cw (oApp (n := 0) (id' := 60) el59 (by decide) u (by decide) hc244 tm tm) (s2 u u) <| c1 <| .nil) <| pBlkN <| pSub (Γ' := [(0, .d ((kL ki).sig a0)), (3, .v 60), (8, .d ((kL ki).sig a0)), (9, .d (ki.sig (a0.length : Int))), (10, .d (ki.sig v170))]) (sb u) <| pRen 60 1003 u <| pJ1 _ (so h) (sb u) u
           ·refine wBF hp242.1 tm (s1 u) ?_
            obtain ⟨o3, h, hk3⟩ := bd h
            refine wJ1 (fun x249 => x249 = o3) (fun x249 => [(0, .d ((kL ki).sig a0)), (3, .v 1003), (6, .d (ki.sig (v169.length : Int))), (8, .d ((kL ki).sig a0)), (9, .d (ki.sig (a0.length : Int))), (10, .d (ki.sig v170)), (70, .d (kB.sig x249))]) (fun x249 => [.row 1003 3 ki v169]) ?_ ?_
            ·obtain ⟨hp250, h⟩ | ⟨hp250, h⟩ := ik h
             ·obtain ⟨y251, hy251, h⟩ := bd h
              exact rx (c8 <| crgB u u u (oCallB u (reticentref04_two.ok hy251) (fK fB) b142 (rc1 (rR (n := 0) u) (rc1 (rD (cI (by decide))) rn0))) (s1 u) <| c1 <| .nil) <| pJ1 _ (so h) (sb u) u
             ·obtain ⟨hp252, h⟩ | ⟨hp252, h⟩ := ik h
              ·obtain ⟨y253, hy253, h⟩ := bd h
               exact rx (c8 <| crgB (dT hp252.1) u u (oCallB u (reticentref04_two.ok hy253) (fK fB) b142 (rc1 (rR (n := 0) u) (rc1 (rD (cI (by decide))) rn0))) (s1 u) <| c1 <| .nil) <| pJ1 _ (so h) (sb u) u
              ·exact rx (c8 <| c2 <| .nil) <| pJ1 _ (so h) (sb u) u
            ·rintro x249 rfl
             replace h := hk3
             obtain ⟨hp254, h⟩ | ⟨hp254, h⟩ := ik h
             ·refine wBT hp254.1 tm (s1 u) ?_
              obtain ⟨hc255, h⟩ := ib h
              exact rx (c3 <| cw (oCutR (n := 0) (id' := 74) u59 z3 u hc255.1 hc255.2 tm tm) (s2 u u) <| c1 <| .nil) <| pBlkN <| pSub (Γ' := [(0, .d ((kL ki).sig a0)), (3, .v 74), (8, .d ((kL ki).sig a0)), (9, .d (ki.sig (a0.length : Int))), (10, .d (ki.sig v170))]) (sb u) <| pRen 74 1003 u <| pJ1 _ (so h) (sb u) u
             ·refine wBF hp254.1 tm (s1 u) <| wSeq <| rx (c1 <| .nil) <| pSeq <| wRet <| pBlkR <| pThenR ?_
              obtain rfl := so h
              replace h := hk2
              refine pThenR <| pBlkR <| pThenR ?_
              obtain rfl := so h
              replace h := hk1
              refine pThenR ?_
              obtain rfl := so h
              exact pR1 (.inl u) u (.tmp u <| .nil)
   ·rintro x214 rfl
    replace h := hk2
    exact rx (c2 <| .nil) <| pLoop (lW (ih _ _ h) ⟨u, u, u, u, u, tv⟩ u)
  ·exact wCF hp172.1 tm (s1 u) <| wExit <| pThenX <| pThenX <| pBlkX <| pJ1 _ (so h) (sb u) u
 ·rintro x171 rfl
  replace h := hk1
  refine pSeq <| wSeq ?_
  obtain ⟨o1, h, hk1⟩ := bd h
  refine wJ1 (fun x257 => x257 = o1) (fun x257 => [(3, .v 1003), (83, .d (kB.sig x257))]) (fun x257 => [.row 1003 3 ki x171]) ?_ ?_
  ·obtain ⟨hp258, h⟩ | ⟨hp258, h⟩ := ik h
   ·exact rx (c1 <| cr (oLenR (n := 0) u59 u tm) (s1 u) <| c6 <| .nil) <| pJ1 _ (so h) (sb u) u
   ·exact rx (c1 <| cr (oLenR (n := 0) u59 u tm) (s1 u) <| c6 <| .nil) <| pJ1 _ (so h) (sb u) u
  ·rintro x257 rfl
   replace h := hk1
   obtain ⟨hp259, h⟩ | ⟨hp259, h⟩ := ik h
   ·refine wBT hp259.1 tm (s1 u) <| wSeq <| rx (c1 <| .nil) <| pSeq <| wRet <| pThenR ?_
    obtain rfl := so h
    exact pR1 (.inl u) u (.tmp u <| .nil)
   ·refine wBF hp259.1 tm (s1 u) <| wSkip <| pSeq <| wSeq ?_
    obtain ⟨y260, hy260, h⟩ := bd h
    refine rx (c1 <| cr (oIdxR (n := 0) u59 z3 u hy260 tm (cI (by decide))) (s1 u) <| cr (oLdE (n := 0) u hy260 u t3 tm) (s1 u) <| c1 <| .nil) <| pSeq <| wRet ?_
    obtain rfl := so h
    exact pR1 (.inl u) u (.tmp u <| .nil)
theorem reticentref04_Right.ok {a0 : List Int} {a1 : Bool} {r : Bool} (h : reticentref04_Right.f a0 a1 = some r) : FnA PP 111 [(kL ki).sig a0, kB.sig a1] (kB.sig r) := by
 refine fnIntro Tryz.func111 u (by kernel_rfl) fun H0 w0 => ?_
 unfold reticentref04_Right.f at h
 refine wSeq <| rx (c1 <| .nil) <| pSeq <| wSeq <| wSeq <| rx (c1 <| .nil) <| pSeq ?_
 obtain ⟨hp1, h⟩ | ⟨hp1, h⟩ := ik h
 ·refine wBT hp1.1 tm (s1 u) <| wSeq ?_
  obtain ⟨y2, hy2, h⟩ := bd h
  refine rx (c1 <| cC (reticentref04_Made.ok hy2) <| c2 <| .nil) <| pSeq <| wRet <| pThenR ?_
  obtain rfl := so h
  exact pR1 (.inl u) u (.tmp u <| .nil)
 ·refine wBF hp1.1 tm (s1 u) <| wSkip <| pSeq <| wSeq ?_
  obtain ⟨y3, hy3, h⟩ := bd h
  refine rx (c1 <| cC (reticentref04_Made.ok hy3) <| c2 <| .nil) <| pSeq <| wRet ?_
  obtain rfl := so h
  exact pR1 (.inl u) u (.tmp u <| .nil)
theorem reticentref06_Arity.ok {a0 : Int} {r : Int} (h : reticentref06_Arity.f a0 = some r) : FnA PP 131 [ki.sig a0] (ki.sig r) := by
 refine fnIntro Tryz.func131 u (by kernel_rfl) fun H0 w0 => ?_
 unfold reticentref06_Arity.f at h
 refine wSeq <| rx (c1 <| .nil) <| pSeq <| wSeq ?_
 obtain ⟨y1, hy1, h⟩ := bd h
 refine rx (cp (oLit (d := ki) el59 (by decide) u u u (e1 (cI (by decide)) (e1 (cI (by decide)) (e1 (cI (by decide)) (e1 (cI (by decide)) (e1 (cI (by decide)) (e1 (cI (by decide)) (e1 (cI (by decide)) (e1 (cI (by decide)) (e1 (cI (by decide)) (e1 (cI (by decide)) (e1 (cI (by decide)) (e1 (cI (by decide)) (e1 (cI (by decide)) e0)))))))))))))) tv <| c1 <| cp (oIdx u59 z3 hy1 tm tm) (s2 u u) <| c2 <| .nil) <| pSeq <| wRet ?_
 obtain rfl := so h
 exact pR1 (.inl u) u (.tmp u <| .nil)
theorem reticentref04_Has.ok {a0 : List Int} {a1 : Int} {r : Bool} (h : reticentref04_Has.f a0 a1 = some r) : FnA PP 132 [(kL ki).sig a0, ki.sig a1] (kB.sig r) := by
 refine fnIntro Tryz.func132 u (by kernel_rfl) fun H0 w0 => ?_
 unfold reticentref04_Has.f at h
 refine wSeq <| rx (c1 <| .nil) <| pSeq <| wSeq <| wSeq <| rx (c3 <| .nil) <| pSeq ?_
 obtain ⟨o1, h, hk1⟩ := bd h
 refine wK0 (.inr () = o1) ([]) ([]) ?_ ?_
 ·refine wBlock (wLoop ?_)
  refine lW (pc1 o1 (fun v7 => [(1, .d (ki.sig a1)), (7, .d ((kL ki).sig a0)), (8, .d (ki.sig (a0.length : Int))), (9, .d (ki.sig v7))]) (fun v7 => []) (reticentref04_Has.l0.partial_correctness a0 a1) ?_ _ h) ⟨u, u, u, u, tv⟩ u
  clear h
  intro f' ih v7 h
  refine wSeq <| rx (c1 <| .nil) <| pSeq <| wSeq ?_
  obtain ⟨hp8, h⟩ | ⟨hp8, h⟩ := ik h
  ·refine wCT hp8.1 tm (s1 u) <| wSkip <| pSeq <| wSeq <| wBlock <| wSeq ?_
   obtain ⟨y9, hy9, h⟩ := bd h
   refine rx (cp (oIdx u59 z3 hy9 tm tm) (s2 u u) <| c2 <| .nil) <| pSeq <| wSeq <| rx (c4 <| .nil) <| pSeq ?_
   obtain ⟨hp10, h⟩ | ⟨hp10, h⟩ := ik h
   ·refine wCT hp10.1 tm (s1 u) <| wSeq <| rx (c1 <| .nil) <| pSeq <| wRet <| pBlkR <| pThenR <| pThenR <| pBlkR <| pThenR ?_
    obtain rfl := so h
    replace h := hk1
    refine pThenR ?_
    obtain rfl := so h
    exact pR1 (.inl u) u (.tmp u <| .nil)
   ·exact wCF hp10.1 tm (s1 u) <| wSkip <| pBlkN <| pSeq <| rx (c2 <| .nil) <| pLoop (lW (ih _ h) ⟨u, u, u, u, tv⟩ u)
  ·exact wCF hp8.1 tm (s1 u) <| wExit <| pThenX <| pThenX <| pBlkX <| pJ0 (so h) tv u
 ·rintro rfl
  replace h := hk1
  refine pSeq <| wSeq <| rx (c1 <| .nil) <| pSeq <| wRet ?_
  obtain rfl := so h
  exact pR1 (.inl u) u (.tmp u <| .nil)
theorem reticentref06_has.ok {a0 : Int} {a1 : List Int} {r : Bool} (h : reticentref06_has.f a0 a1 = some r) : FnA PP 112 [ki.sig a0, (kL ki).sig a1] (kB.sig r) := by
 refine fnIntro Tryz.func112 u (by kernel_rfl) fun H0 w0 => ?_
 unfold reticentref06_has.f at h
 refine wSeq <| rx (c1 <| .nil) <| pSeq <| wSeq <| wSeq ?_
 obtain ⟨y1, hy1, h⟩ := bd h
 refine rx (c1 <| cC (reticentref06_Arity.ok hy1) <| c2 <| .nil) <| pSeq ?_
 obtain ⟨o1, h, hk1⟩ := bd h
 refine wK0 (.inr () = o1) ([]) ([]) ?_ ?_
 ·refine wBlock (wLoop ?_)
  refine lW (pc1 o1 (fun v8 => [(1, .d ((kL ki).sig a1)), (5, .d (ki.sig v8))]) (fun v8 => []) (reticentref06_has.l0.partial_correctness a1) ?_ _ h) ⟨u, u, tv⟩ u
  clear h
  intro f' ih v8 h
  refine wSeq <| wSeq <| rx (c2 <| .nil) <| pSeq ?_
  obtain ⟨hp9, h⟩ | ⟨hp9, h⟩ := ik h
  ·refine wCT hp9.1 tm (s1 u) <| wSkip <| pSeq <| wSeq <| wBlock <| wSeq ?_
   obtain ⟨y10, hy10, h⟩ := bd h
   refine rx (c2 <| cC (reticentref04_Has.ok hy10) <| .nil) <| pSeq ?_
   obtain ⟨hp11, h⟩ | ⟨hp11, h⟩ := ik h
   ·refine wBT hp11.1 tm (s1 u) <| wSeq <| rx (c1 <| .nil) <| pSeq <| wRet <| pBlkR <| pThenR <| pThenR <| pBlkR <| pThenR ?_
    obtain rfl := so h
    replace h := hk1
    refine pThenR ?_
    obtain rfl := so h
    exact pR1 (.inl u) u (.tmp u <| .nil)
   ·exact wBF hp11.1 tm (s1 u) <| wSkip <| pBlkN <| pSeq <| rx (c3 <| .nil) <| pLoop (lW (ih _ h) ⟨u, u, tv⟩ u)
  ·exact wCF hp9.1 tm (s1 u) <| wExit <| pThenX <| pThenX <| pBlkX <| pJ0 (so h) tv u
 ·rintro rfl
  replace h := hk1
  refine pSeq <| wSeq <| rx (c1 <| .nil) <| pSeq <| wRet ?_
  obtain rfl := so h
  exact pR1 (.inl u) u (.tmp u <| .nil)
theorem reticentref06_Row.ok {a0 : Int} {a1 : api_Row} {r : Int} (h : reticentref06_Row.f a0 a1 = some r) : FnA PP 65 [ki.sig a0, (kR f_api_Row).sig a1] (ki.sig r) := by
 refine fnIntro Tryz.func65 u (by kernel_rfl) fun H0 w0 => ?_
 unfold reticentref06_Row.f at h
 refine wSeq <| rx (c2 <| .nil) <| pSeq <| wSeq ?_
 obtain ⟨o1, h, hk1⟩ := bd h
 refine wJ1 (fun x6 => x6 = o1) (fun x6 => [(0, .d (ki.sig a0)), (3, .d (sP (kR f_api_Row) a1)), (20, .d (kB.sig x6))]) (fun x6 => []) ?_ ?_
 ·obtain ⟨y7, hy7, h⟩ := bd h
  obtain ⟨hp8, h⟩ | ⟨hp8, h⟩ := ik h
  ·exact rx (c2 <| cC (reticentref04_Right.ok hy7) <| c12 <| c1 <| .nil) <| pJ1 _ (so h) (sb u) u
  ·obtain ⟨y9, hy9, h⟩ := bd h
   obtain ⟨hp10, h⟩ | ⟨hp10, h⟩ := ik h
   ·exact rx (c2 <| cC (reticentref04_Right.ok hy7) <| c4 <| cgB (nb hp8.1) u u (oCall u (reticentref04_Right.ok hy9) b111 (oc tm (oc cB o0))) (s1 u) <| c8 <| .nil) <| pJ1 _ (so h) (sb u) u
   ·obtain ⟨y11, hy11, h⟩ := bd h
    exact rx (c2 <| cC (reticentref04_Right.ok hy7) <| c4 <| cgB (nb hp8.1) u u (oCall u (reticentref04_Right.ok hy9) b111 (oc tm (oc cB o0))) (s1 u) <| c4 <| c1 <| cgB (nb hp10.1) u u (oCall u (reticentref04_Right.ok hy11) b111 (oc tm (oc cB o0))) (s1 u) <| c2 <| .nil) <| pJ1 _ (so h) (sb u) u
 ·rintro x6 rfl
  replace h := hk1
  obtain ⟨hp12, h⟩ | ⟨hp12, h⟩ := ik h
  ·refine wBT hp12.1 tm (s1 u) <| wSeq <| rx (c1 <| .nil) <| pSeq <| wRet <| pThenR ?_
   obtain rfl := so h
   exact pR1 (.inl u) u (.tmp u <| .nil)
  ·refine wBF hp12.1 tm (s1 u) <| wSkip <| pSeq <| wSeq ?_
   obtain ⟨o1, h, hk1⟩ := bd h
   refine wJ1 (fun x18 => x18 = o1) (fun x18 => [(39, .d (kB.sig x18))]) (fun x18 => []) ?_ ?_
   ·obtain ⟨y19, hy19, h⟩ := bd h
    obtain ⟨hp20, h⟩ | ⟨hp20, h⟩ := ik h
    ·exact rx (c3 <| cC (reticentref06_has.ok hy19) <| c12 <| c3 <| .nil) <| pJ1 _ (so h) (sb u) u
    ·obtain ⟨y21, hy21, h⟩ := bd h
     obtain ⟨hp22, h⟩ | ⟨hp22, h⟩ := ik h
     ·exact rx (c3 <| cC (reticentref06_has.ok hy19) <| c4 <| c1 <| cgB (nb hp20.1) u u (oCall u (reticentref06_has.ok hy21) b112 (oc tm (oc tm o0))) (s2 u u) <| c8 <| c1 <| .nil) <| pJ1 _ (so h) (sb u) u
     ·obtain ⟨y23, hy23, h⟩ := bd h
      exact rx (c3 <| cC (reticentref06_has.ok hy19) <| c4 <| c1 <| cgB (nb hp20.1) u u (oCall u (reticentref06_has.ok hy21) b112 (oc tm (oc tm o0))) (s2 u u) <| c6 <| cgB (nb hp22.1) u u (oCall u (reticentref06_has.ok hy23) b112 (oc tm (oc tm o0))) (s2 u u) <| c2 <| .nil) <| pJ1 _ (so h) (sb u) u
   ·rintro x18 rfl
    replace h := hk1
    obtain ⟨hp24, h⟩ | ⟨hp24, h⟩ := ik h
    ·refine wBT hp24.1 tm (s1 u) <| wSeq <| rx (c1 <| .nil) <| pSeq <| wRet <| pThenR ?_
     obtain rfl := so h
     exact pR1 (.inl u) u (.tmp u <| .nil)
    ·refine wBF hp24.1 tm (s1 u) <| wSkip <| pSeq <| wSeq <| rx (c1 <| .nil) <| pSeq <| wRet ?_
     obtain rfl := so h
     exact pR1 (.inl u) u (.tmp u <| .nil)
theorem reticentref06_Check.ok {a0 : api_Table} {r : reticentref06_W} (h : reticentref06_Check.f a0 = some r) : FnA PP 27 [(kR f_api_Table).sig a0] ((kR f_reticentref06_W).sig r) := by
 refine fnIntro Tryz.func27 u (by kernel_rfl) fun H0 w0 => ?_
 unfold reticentref06_Check.f at h
 refine wSeq <| rx (c1 <| cw (oAlloc (id := 2) (ls := Z69) ze69 zl69) tv <| .nil) <| pSeq <| wSeq <| wSeq <| rx (c4 <| .nil) <| pSeq ?_
 obtain ⟨hp1, h⟩ | ⟨hp1, h⟩ := ik h
 ·refine wNT hp1.1 tm (s1 u) <| wSkip <| pSeq <| wSeq <| wSeq <| rx (c4 <| .nil) <| pSeq ?_
  obtain ⟨o1, h, hk1⟩ := bd h
  refine wK0 (.inr () = o1) ([(2, .p 2 0)]) ([.box 2 69 [.d ki 0, .d ki 0]]) ?_ ?_
  ·refine wBlock (wLoop ?_)
   refine lW (pc1 o1 (fun v10 => [(2, .p 2 0), (12, .d ((kL (kR f_api_Row)).sig a0.Rows)), (13, .d (ki.sig (a0.Rows.length : Int))), (14, .d (ki.sig v10))]) (fun v10 => [.box 2 69 [.d ki 0, .d ki 0]]) (reticentref06_Check.l0.partial_correctness a0) ?_ _ h) ⟨u, u, u, u, tv⟩ u
   clear h
   intro f' ih v10 h
   refine wSeq <| rx (c1 <| .nil) <| pSeq <| wSeq ?_
   obtain ⟨hp11, h⟩ | ⟨hp11, h⟩ := ik h
   ·refine wCT hp11.1 tm (s1 u) <| wSkip <| pSeq <| wSeq <| wBlock <| wSeq ?_
    obtain ⟨y12, hy12, h⟩ := bd h
    refine rx (c1 <| cp (oIdx u26 z61 hy12 tm tm) (s2 u u) <| c1 <| cw (oAlloc (id := 4) (ls := Z61) ze61 zl61) tv <| c1 <| cwn (oStA (n := 0) (fs := f_api_Row) u u z61 tm tm) (s2 u u) <| .nil) <| pSeq <| wSeq ?_
    obtain ⟨y13, hy13, h⟩ := bd h
    refine rx (c1 <| cr (oLdA (n := 0) (fs := f_api_Row) (u := ⟨y12.May, y12.Res, y12.Pc⟩) u ⟨u, u, u, tv⟩ t61 tm) (s1 u) <| cC (reticentref06_Row.ok hy13) <| c1 <| .nil) <| pSeq <| wSeq <| rx (c2 <| .nil) <| pSeq ?_
    obtain ⟨hp14, h⟩ | ⟨hp14, h⟩ := ik h
    ·exact wNT hp14.1 tm (s1 u) <| wSkip <| pBlkN <| pSeq <| rx (c2 <| .nil) <| pDrop (.cons _ (.cons_cons _ .slnil)) <| pLoop (lW (ih _ h) ⟨u, u, u, u, tv⟩ u)
    ·refine wNF hp14.1 tm (s1 u) <| wSeq <| rx (c2 <| cp (oBuild (fs := f_reticentref06_W) (u := ⟨v10, y13⟩) u ze69 pl69 po69 (.op (zc := [(.int .i64 0)]) tm u (.op (zc := [(.int .i64 0)]) tm u .nil))) (s2 u u) <| cwn (oStA (n := 1) (fs := f_reticentref06_W) u u z69 tm tm) (s2 u u) <| .nil) <| pSeq <| wRet <| pBlkR <| pThenR <| pThenR <| pBlkR <| pThenR ?_
     obtain rfl := so h
     replace h := hk1
     refine pThenR ?_
     obtain rfl := so h
     exact pR1 (.inl u) u (.box (n := 1) (fs := f_reticentref06_W) (u := ⟨v10, y13⟩) u u ⟨u, u, tv⟩ t69 <| .nil)
   ·exact wCF hp11.1 tm (s1 u) <| wExit <| pThenX <| pThenX <| pBlkX <| pJ0 (so h) (sb u) u
  ·rintro rfl
   replace h := hk1
   refine pSeq <| wSeq <| rx (cp (oBuild (fs := f_reticentref06_W) (u := ⟨0, 0⟩) u ze69 pl69 po69 (.ze (zc := [(.int .i64 0)]) zI_i64 (.ze (zc := [(.int .i64 0)]) zI_i64 .nil))) tv <| cwn (oStA (n := 0) (fs := f_reticentref06_W) u u z69 tm tm) (s2 u u) <| .nil) <| pSeq <| wRet ?_
   obtain rfl := so h
   exact pR1 (.inl u) u (.box (n := 0) (fs := f_reticentref06_W) (u := ⟨0, 0⟩) u u ⟨u, u, tv⟩ t69 <| .nil)
 ·refine wNF hp1.1 tm (s1 u) <| wSeq <| rx (cp (oBuild (fs := f_reticentref06_W) (u := ⟨0, 1⟩) u ze69 pl69 po69 (.ze (zc := [(.int .i64 0)]) zI_i64 (.op (zc := [(.int .i64 0)]) (cI (by decide)) u .nil))) tv <| cwn (oStA (n := 0) (fs := f_reticentref06_W) u u z69 tm tm) (s2 u u) <| .nil) <| pSeq <| wRet <| pThenR ?_
  obtain rfl := so h
  exact pR1 (.inl u) u (.box (n := 0) (fs := f_reticentref06_W) (u := ⟨0, 1⟩) u u ⟨u, u, tv⟩ t69 <| .nil)
theorem reticentref08_Instr.ok {a0 : Int} {a1 : api_Instr} {r : Bool} (h : reticentref08_Instr.f a0 a1 = some r) : FnA PP 113 [ki.sig a0, (kR f_api_Instr).sig a1] (kB.sig r) := by
 refine fnIntro Tryz.func113 u (by kernel_rfl) fun H0 w0 => ?_
 unfold reticentref08_Instr.f at h
 refine wSeq <| rx (c2 <| .nil) <| pSeq <| wSeq <| wSeq <| rx (c3 <| .nil) <| pSeq ?_
 obtain ⟨hp1, h⟩ | ⟨hp1, h⟩ := ik h
 ·refine wCT hp1.1 tm (s1 u) ?_
  obtain ⟨o1, h, hk1⟩ := bd h
  refine wJ1 (fun x5 => x5 = o1) (fun x5 => [(4, .d (kB.sig x5))]) (fun x5 => []) ?_ ?_
  ·obtain ⟨hp6, h⟩ | ⟨hp6, h⟩ := ik h
   ·obtain ⟨hp7, h⟩ | ⟨hp7, h⟩ := ik h
    ·obtain ⟨hp8, h⟩ | ⟨hp8, h⟩ := ik h
     ·exact rx (c12 <| c8 <| .nil) <| pJ1 _ (so h) (sb u) u
     ·exact rx (c12 <| c8 <| .nil) <| pJ1 _ (so h) (sb u) u
    ·exact rx (c12 <| c8 <| .nil) <| pJ1 _ (so h) (sb u) u
   ·exact rx (c12 <| c8 <| .nil) <| pJ1 _ (so h) (sb u) u
  ·rintro x5 rfl
   replace h := hk1
   refine wRet <| pThenR ?_
   obtain rfl := so h
   exact pR1 (.inl u) u (.tmp u <| .nil)
 ·refine wCF hp1.1 tm (s1 u) <| wSkip <| pSeq <| wSeq ?_
  obtain ⟨o1, h, hk1⟩ := bd h
  refine wJ1 (fun x11 => x11 = o1) (fun x11 => [(3, .d (sP (kR f_api_Instr) a1)), (39, .d (kB.sig x11))]) (fun x11 => []) ?_ ?_
  ·obtain ⟨hp12, h⟩ | ⟨hp12, h⟩ := ik h
   ·exact rx (c12 <| c1 <| .nil) <| pJ1 _ (so h) (sb u) u
   ·obtain ⟨hp13, h⟩ | ⟨hp13, h⟩ := ik h
    ·exact rx (c12 <| c1 <| .nil) <| pJ1 _ (so h) (sb u) u
    ·exact rx (c12 <| c1 <| .nil) <| pJ1 _ (so h) (sb u) u
  ·rintro x11 rfl
   replace h := hk1
   obtain ⟨hp14, h⟩ | ⟨hp14, h⟩ := ik h
   ·refine wBT hp14.1 tm (s1 u) <| wSeq <| rx (c1 <| .nil) <| pSeq <| wRet <| pThenR ?_
    obtain rfl := so h
    exact pR1 (.inl u) u (.tmp u <| .nil)
   ·refine wBF hp14.1 tm (s1 u) <| wSkip <| pSeq <| wSeq <| wSeq <| rx (c3 <| .nil) <| pSeq ?_
    obtain ⟨hp15, h⟩ | ⟨hp15, h⟩ := ik h
    ·refine wCT hp15.1 tm (s1 u) ?_
     obtain ⟨o1, h, hk1⟩ := bd h
     refine wJ1 (fun x17 => x17 = o1) (fun x17 => [(4, .d (kB.sig x17))]) (fun x17 => []) ?_ ?_
     ·obtain ⟨hp18, h⟩ | ⟨hp18, h⟩ := ik h
      ·exact rx (c8 <| c1 <| .nil) <| pJ1 _ (so h) (sb u) u
      ·exact rx (c8 <| c1 <| .nil) <| pJ1 _ (so h) (sb u) u
     ·rintro x17 rfl
      replace h := hk1
      refine wRet <| pThenR ?_
      obtain rfl := so h
      exact pR1 (.inl u) u (.tmp u <| .nil)
    ·refine wCF hp15.1 tm (s1 u) <| wSkip <| pSeq <| wSeq <| wSeq <| rx (c3 <| .nil) <| pSeq ?_
     obtain ⟨hp19, h⟩ | ⟨hp19, h⟩ := ik h
     ·refine wCT hp19.1 tm (s1 u) ?_
      obtain ⟨o1, h, hk1⟩ := bd h
      refine wJ1 (fun x21 => x21 = o1) (fun x21 => [(4, .d (kB.sig x21))]) (fun x21 => []) ?_ ?_
      ·obtain ⟨hp22, h⟩ | ⟨hp22, h⟩ := ik h
       ·exact rx (c8 <| c1 <| .nil) <| pJ1 _ (so h) (sb u) u
       ·exact rx (c8 <| c1 <| .nil) <| pJ1 _ (so h) (sb u) u
      ·rintro x21 rfl
       replace h := hk1
       refine wRet <| pThenR ?_
       obtain rfl := so h
       exact pR1 (.inl u) u (.tmp u <| .nil)
     ·refine wCF hp19.1 tm (s1 u) <| wSkip <| pSeq <| wSeq <| wSeq <| rx (c3 <| .nil) <| pSeq ?_
      obtain ⟨hp23, h⟩ | ⟨hp23, h⟩ := ik h
      ·refine wCT hp23.1 tm (s1 u) ?_
       obtain ⟨o1, h, hk1⟩ := bd h
       refine wJ1 (fun x25 => x25 = o1) (fun x25 => [(4, .d (kB.sig x25))]) (fun x25 => []) ?_ ?_
       ·obtain ⟨hp26, h⟩ | ⟨hp26, h⟩ := ik h
        ·exact rx (c8 <| c1 <| .nil) <| pJ1 _ (so h) (sb u) u
        ·exact rx (c8 <| c1 <| .nil) <| pJ1 _ (so h) (sb u) u
       ·rintro x25 rfl
        replace h := hk1
        refine wRet <| pThenR ?_
        obtain rfl := so h
        exact pR1 (.inl u) u (.tmp u <| .nil)
      ·refine wCF hp23.1 tm (s1 u) <| wSkip <| pSeq <| wSeq <| rx (c4 <| .nil) <| pSeq <| wRet ?_
       obtain rfl := so h
       exact pR1 (.inl u) u (.tmp u <| .nil)
theorem reticentref08_Right.ok {a0 : api_Lattice} {a1 : List api_Instr} {r : Bool} (h : reticentref08_Right.f a0 a1 = some r) : FnA PP 66 [(kR f_api_Lattice).sig a0, (kL (kR f_api_Instr)).sig a1] (kB.sig r) := by
 refine fnIntro Tryz.func66 u (by kernel_rfl) fun H0 w0 => ?_
 unfold reticentref08_Right.f at h
 refine wSeq <| rx (c2 <| .nil) <| pSeq <| wSeq <| wSeq <| rx (c3 <| .nil) <| pSeq ?_
 obtain ⟨o1, h, hk1⟩ := bd h
 refine wK0 (.inr () = o1) ([(1, .d ((kL (kR f_api_Instr)).sig a1))]) ([]) ?_ ?_
 ·refine wBlock (wLoop ?_)
  refine lW (pc1 o1 (fun v9 => [(1, .d ((kL (kR f_api_Instr)).sig a1)), (2, .d (sP (kR f_api_Lattice) a0)), (7, .d ((kL (kR f_api_Instr)).sig a1)), (8, .d (ki.sig (a1.length : Int))), (9, .d (ki.sig v9))]) (fun v9 => []) (reticentref08_Right.l0.partial_correctness a0 a1) ?_ _ h) ⟨u, u, u, u, u, tv⟩ u
  clear h
  intro f' ih v9 h
  refine wSeq <| rx (c1 <| .nil) <| pSeq <| wSeq ?_
  obtain ⟨hp10, h⟩ | ⟨hp10, h⟩ := ik h
  ·refine wCT hp10.1 tm (s1 u) <| wSkip <| pSeq <| wSeq <| wBlock <| wSeq ?_
   obtain ⟨y11, hy11, h⟩ := bd h
   refine rx (cp (oIdx u31 z74 hy11 tm tm) (s2 u u) <| c1 <| cw (oAlloc (id := 6) (ls := Z74) ze74 zl74) tv <| cwn (oStA (n := 0) (fs := f_api_Instr) u u z74 tm tm) (s2 u u) <| .nil) <| pSeq <| wSeq ?_
   obtain ⟨y12, hy12, h⟩ := bd h
   refine rx (c3 <| cr (oLdA (n := 0) (fs := f_api_Instr) (u := ⟨y11.Op, y11.N, y11.L⟩) u ⟨u, u, u, tv⟩ t74 tm) (s1 u) <| cC (reticentref08_Instr.ok hy12) <| c1 <| .nil) <| pSeq ?_
   obtain ⟨hp13, h⟩ | ⟨hp13, h⟩ := ik h
   ·refine wBT hp13.1 tm (s1 u) <| wSeq <| rx (c1 <| .nil) <| pSeq <| wRet <| pBlkR <| pThenR <| pThenR <| pBlkR <| pThenR ?_
    obtain rfl := so h
    replace h := hk1
    refine pThenR ?_
    obtain rfl := so h
    exact pR1 (.inl u) u (.tmp u <| .nil)
   ·exact wBF hp13.1 tm (s1 u) <| wSkip <| pBlkN <| pSeq <| rx (c2 <| .nil) <| pDrop (.cons _ .slnil) <| pLoop (lW (ih _ h) ⟨u, u, u, u, u, tv⟩ u)
  ·exact wCF hp10.1 tm (s1 u) <| wExit <| pThenX <| pThenX <| pBlkX <| pJ0 (so h) (sb u) u
 ·rintro rfl
  replace h := hk1
  refine pSeq <| wSeq <| rx (c4 <| .nil) <| pSeq <| wRet ?_
  obtain rfl := so h
  exact pR1 (.inl u) u (.tmp u <| .nil)
theorem reticentref09_label.ok {a0 : api_Lattice} {a1 : Int} {r : Bool} (h : reticentref09_label.f a0 a1 = some r) : FnA PP 67 [(kR f_api_Lattice).sig a0, ki.sig a1] (kB.sig r) := by
 refine fnIntro Tryz.func67 u (by kernel_rfl) fun H0 w0 => ?_
 unfold reticentref09_label.f at h
 refine wSeq <| rx (c2 <| .nil) <| pSeq ?_
 obtain ⟨o1, h, hk1⟩ := bd h
 refine wJ1 (fun x2 => x2 = o1) (fun x2 => [(4, .d (kB.sig x2))]) (fun x2 => []) ?_ ?_
 ·obtain ⟨hp3, h⟩ | ⟨hp3, h⟩ := ik h
  ·exact rx (c8 <| c2 <| .nil) <| pJ1 _ (so h) (sb u) u
  ·exact rx (c8 <| c2 <| .nil) <| pJ1 _ (so h) (sb u) u
 ·rintro x2 rfl
  replace h := hk1
  refine wRet ?_
  obtain rfl := so h
  exact pR1 (.inl u) u (.tmp u <| .nil)
theorem reticentref09_Atoms.ok {a0 : api_Lattice} {a1 : List api_Atom} {r : Bool} (h : reticentref09_Atoms.f a0 a1 = some r) : FnA PP 68 [(kR f_api_Lattice).sig a0, (kL (kR f_api_Atom)).sig a1] (kB.sig r) := by
 refine fnIntro Tryz.func68 u (by kernel_rfl) fun H0 w0 => ?_
 unfold reticentref09_Atoms.f at h
 refine wSeq <| rx (c2 <| .nil) <| pSeq <| wSeq <| wSeq <| rx (c3 <| .nil) <| pSeq ?_
 obtain ⟨o1, h, hk1⟩ := bd h
 refine wK0 (.inr () = o1) ([]) ([]) ?_ ?_
 ·refine wBlock (wLoop ?_)
  refine lW (pc1 o1 (fun v21 => [(2, .d (sP (kR f_api_Lattice) a0)), (7, .d ((kL (kR f_api_Atom)).sig a1)), (8, .d (ki.sig (a1.length : Int))), (9, .d (ki.sig v21))]) (fun v21 => []) (reticentref09_Atoms.l0.partial_correctness a0 a1) ?_ _ h) ⟨u, u, u, u, tv⟩ u
  clear h
  intro f' ih v21 h
  refine wSeq <| rx (c1 <| .nil) <| pSeq <| wSeq ?_
  obtain ⟨hp22, h⟩ | ⟨hp22, h⟩ := ik h
  ·refine wCT hp22.1 tm (s1 u) <| wSkip <| pSeq <| wSeq <| wBlock <| wSeq ?_
   obtain ⟨y23, hy23, h⟩ := bd h
   refine rx (cp (oIdx u32 z30 hy23 tm tm) (s2 u u) <| c1 <| cw (oAlloc (id := 6) (ls := Z30) ze30 zl30) tv <| cwn (oStA (n := 0) (fs := f_api_Atom) u u z30 tm tm) (s2 u u) <| .nil) <| pSeq ?_
   obtain ⟨o2, h, hk2⟩ := bd h
   refine wJ1 (fun x27 => x27 = o2) (fun x27 => [(2, .d (sP (kR f_api_Lattice) a0)), (7, .d ((kL (kR f_api_Atom)).sig a1)), (8, .d (ki.sig (a1.length : Int))), (9, .d (ki.sig v21)), (27, .d (kB.sig x27))]) (fun x27 => [.box 6 30 [.d ki y23.V, .d ki y23.L]]) ?_ ?_
   ·obtain ⟨hp28, h⟩ | ⟨hp28, h⟩ := ik h
    ·exact rx (c1 <| cr (oLdB (n := 0) (k := 0) u u u t3 tm) (s1 u) <| c12 <| c1 <| .nil) <| pJ1 _ (so h) (sb u) u
    ·obtain ⟨hp29, h⟩ | ⟨hp29, h⟩ := ik h
     ·exact rx (c1 <| cr (oLdB (n := 0) (k := 0) u u u t3 tm) (s1 u) <| c3 <| crgB (dF hp28.1) u u (oLdB (n := 0) (k := 0) u u u t3 tm) (s1 u) <| c8 <| c1 <| .nil) <| pJ1 _ (so h) (sb u) u
     ·obtain ⟨y30, hy30, h⟩ := bd h
      exact rx (c1 <| cr (oLdB (n := 0) (k := 0) u u u t3 tm) (s1 u) <| c3 <| crgB (dF hp28.1) u u (oLdB (n := 0) (k := 0) u u u t3 tm) (s1 u) <| c4 <| c1 <| crgB (dF hp29.1) u u (oLdB (n := 0) (k := 1) u u u t3 tm) (s1 u) <| cgB (dF hp29.1) u u (oCall u (reticentref09_label.ok hy30) b67 (oc tm (oc tm o0))) (s2 u u) <| c2 <| .nil) <| pJ1 _ (so h) (sb u) u
   ·rintro x27 rfl
    replace h := hk2
    obtain ⟨hp31, h⟩ | ⟨hp31, h⟩ := ik h
    ·refine wBT hp31.1 tm (s1 u) <| wSeq <| rx (c1 <| .nil) <| pSeq <| wRet <| pBlkR <| pThenR <| pThenR <| pBlkR <| pThenR ?_
     obtain rfl := so h
     replace h := hk1
     refine pThenR ?_
     obtain rfl := so h
     exact pR1 (.inl u) u (.tmp u <| .nil)
    ·exact wBF hp31.1 tm (s1 u) <| wSkip <| pBlkN <| pSeq <| rx (c2 <| .nil) <| pDrop (.cons _ .slnil) <| pLoop (lW (ih _ h) ⟨u, u, u, u, tv⟩ u)
  ·exact wCF hp22.1 tm (s1 u) <| wExit <| pThenX <| pThenX <| pBlkX <| pJ0 (so h) tv u
 ·rintro rfl
  replace h := hk1
  refine pSeq <| wSeq <| rx (c1 <| .nil) <| pSeq <| wRet ?_
  obtain rfl := so h
  exact pR1 (.inl u) u (.tmp u <| .nil)
theorem reticentref09_Stack.ok {a0 : api_Lattice} {a1 : List api_Slot} {r : Bool} (h : reticentref09_Stack.f a0 a1 = some r) : FnA PP 69 [(kR f_api_Lattice).sig a0, (kL (kR f_api_Slot)).sig a1] (kB.sig r) := by
 refine fnIntro Tryz.func69 u (by kernel_rfl) fun H0 w0 => ?_
 unfold reticentref09_Stack.f at h
 refine wSeq <| rx (c2 <| .nil) <| pSeq <| wSeq <| wSeq <| rx (c3 <| .nil) <| pSeq ?_
 obtain ⟨o1, h, hk1⟩ := bd h
 refine wK0 (.inr () = o1) ([(1, .d ((kL (kR f_api_Slot)).sig a1))]) ([]) ?_ ?_
 ·refine wBlock (wLoop ?_)
  refine lW (pc1 o1 (fun v33 => [(1, .d ((kL (kR f_api_Slot)).sig a1)), (2, .d (sP (kR f_api_Lattice) a0)), (7, .d ((kL (kR f_api_Slot)).sig a1)), (8, .d (ki.sig (a1.length : Int))), (9, .d (ki.sig v33))]) (fun v33 => []) (reticentref09_Stack.l0.partial_correctness a0 a1) ?_ _ h) ⟨u, u, u, u, u, tv⟩ u
  clear h
  intro f' ih v33 h
  refine wSeq <| rx (c1 <| .nil) <| pSeq <| wSeq ?_
  obtain ⟨hp34, h⟩ | ⟨hp34, h⟩ := ik h
  ·refine wCT hp34.1 tm (s1 u) <| wSkip <| pSeq <| wSeq <| wBlock <| wSeq ?_
   obtain ⟨y35, hy35, h⟩ := bd h
   refine rx (cp (oIdx u33 z76 hy35 tm tm) (s2 u u) <| c1 <| cw (oAlloc (id := 6) (ls := Z76) ze76 zl76) tv <| cwn (oStA (n := 0) (fs := f_api_Slot) u u z76 tm tm) (s2 u u) <| .nil) <| pSeq ?_
   obtain ⟨o2, h, hk2⟩ := bd h
   refine wJ1 (fun x42 => x42 = o2) (fun x42 => [(1, .d ((kL (kR f_api_Slot)).sig a1)), (2, .d (sP (kR f_api_Lattice) a0)), (7, .d ((kL (kR f_api_Slot)).sig a1)), (8, .d (ki.sig (a1.length : Int))), (9, .d (ki.sig v33)), (41, .d (kB.sig x42))]) (fun x42 => [.box 6 76 (L76 y35)]) ?_ ?_
   ·obtain ⟨hp43, h⟩ | ⟨hp43, h⟩ := ik h
    ·exact rx (c1 <| cr (oLdB (n := 0) (k := 1) u u u t3 tm) (s1 u) <| c12 <| c4 <| c1 <| csU u u <| csU u u <| csU u u <| csU u u <| csU u u <| csU u u <| csU u u <| csU u u <| c2 <| .nil) <| pJ1 _ (so h) (sb u) u
    ·obtain ⟨hp44, h⟩ | ⟨hp44, h⟩ := ik h
     ·exact rx (c1 <| cr (oLdB (n := 0) (k := 1) u u u t3 tm) (s1 u) <| c3 <| crgB (dF hp43.1) u u (oLdB (n := 0) (k := 1) u u u t3 tm) (s1 u) <| c12 <| c1 <| csU u u <| csU u u <| csU u u <| csU u u <| csU u u <| csU u u <| csU u u <| csU u u <| c2 <| .nil) <| pJ1 _ (so h) (sb u) u
     ·obtain ⟨y45, hy45, h⟩ := bd h
      obtain ⟨hp46, h⟩ | ⟨hp46, h⟩ := ik h
      ·exact rx (c1 <| cr (oLdB (n := 0) (k := 1) u u u t3 tm) (s1 u) <| c3 <| crgB (dF hp43.1) u u (oLdB (n := 0) (k := 1) u u u t3 tm) (s1 u) <| c4 <| c1 <| crgB (dF hp44.1) u u (oLdB (n := 0) (k := 2) u u u t3 tm) (s1 u) <| cgB (dF hp44.1) u u (oCall u (reticentref09_label.ok hy45) b67 (oc tm (oc tm o0))) (s2 u u) <| c6 <| csU u u <| csU u u <| csU u u <| csU u u <| csU u u <| csU u u <| csU u u <| csU u u <| c2 <| .nil) <| pJ1 _ (so h) (sb u) u
      ·obtain ⟨hp47, h⟩ | ⟨hp47, h⟩ := ik h
       ·obtain ⟨hp48, h⟩ | ⟨hp48, h⟩ := ik h
        ·exact rx (c1 <| cr (oLdB (n := 0) (k := 1) u u u t3 tm) (s1 u) <| c3 <| crgB (dF hp43.1) u u (oLdB (n := 0) (k := 1) u u u t3 tm) (s1 u) <| c4 <| c1 <| crgB (dF hp44.1) u u (oLdB (n := 0) (k := 2) u u u t3 tm) (s1 u) <| cgB (dF hp44.1) u u (oCall u (reticentref09_label.ok hy45) b67 (oc tm (oc tm o0))) (s2 u u) <| c4 <| crgB (nb hp46.1) u u (oLdB (n := 0) (k := 0) u u u t4 tm) (s1 u) <| c2 <| crgB hp47.1 u u (oLdB (n := 0) (k := 1) u u u t3 tm) (s1 u) <| c8 <| .nil) <| pJ1 _ (so h) (sb u) u
        ·exact rx (c1 <| cr (oLdB (n := 0) (k := 1) u u u t3 tm) (s1 u) <| c3 <| crgB (dF hp43.1) u u (oLdB (n := 0) (k := 1) u u u t3 tm) (s1 u) <| c4 <| c1 <| crgB (dF hp44.1) u u (oLdB (n := 0) (k := 2) u u u t3 tm) (s1 u) <| cgB (dF hp44.1) u u (oCall u (reticentref09_label.ok hy45) b67 (oc tm (oc tm o0))) (s2 u u) <| c4 <| crgB (nb hp46.1) u u (oLdB (n := 0) (k := 0) u u u t4 tm) (s1 u) <| c2 <| crgB hp47.1 u u (oLdB (n := 0) (k := 1) u u u t3 tm) (s1 u) <| c3 <| crgB (dF hp48.1) u u (oLdB (n := 0) (k := 1) u u u t3 tm) (s1 u) <| c4 <| .nil) <| pJ1 _ (so h) (sb u) u
       ·exact rx (c1 <| cr (oLdB (n := 0) (k := 1) u u u t3 tm) (s1 u) <| c3 <| crgB (dF hp43.1) u u (oLdB (n := 0) (k := 1) u u u t3 tm) (s1 u) <| c4 <| c1 <| crgB (dF hp44.1) u u (oLdB (n := 0) (k := 2) u u u t3 tm) (s1 u) <| cgB (dF hp44.1) u u (oCall u (reticentref09_label.ok hy45) b67 (oc tm (oc tm o0))) (s2 u u) <| c4 <| crgB (nb hp46.1) u u (oLdB (n := 0) (k := 0) u u u t4 tm) (s1 u) <| c4 <| c1 <| csU u u <| csU u u <| csU u u <| c3 <| .nil) <| pJ1 _ (so h) (sb u) u
   ·rintro x42 rfl
    replace h := hk2
    obtain ⟨hp49, h⟩ | ⟨hp49, h⟩ := ik h
    ·refine wBT hp49.1 tm (s1 u) <| wSeq <| rx (c1 <| .nil) <| pSeq <| wRet <| pBlkR <| pThenR <| pThenR <| pBlkR <| pThenR ?_
     obtain rfl := so h
     replace h := hk1
     refine pThenR ?_
     obtain rfl := so h
     exact pR1 (.inl u) u (.tmp u <| .nil)
    ·exact wBF hp49.1 tm (s1 u) <| wSkip <| pBlkN <| pSeq <| rx (c2 <| .nil) <| pDrop (.cons _ .slnil) <| pLoop (lW (ih _ h) ⟨u, u, u, u, u, tv⟩ u)
  ·exact wCF hp34.1 tm (s1 u) <| wExit <| pThenX <| pThenX <| pBlkX <| pJ0 (so h) (sb u) u
 ·rintro rfl
  replace h := hk1
  refine pSeq <| wSeq <| rx (c4 <| .nil) <| pSeq <| wRet ?_
  obtain rfl := so h
  exact pR1 (.inl u) u (.tmp u <| .nil)
theorem reticentref09_Right.ok {a0 : api_Lattice} {a1 : api_State} {r : Bool} (h : reticentref09_Right.f a0 a1 = some r) : FnA PP 28 [(kR f_api_Lattice).sig a0, (kR f_api_State).sig a1] (kB.sig r) := by
 refine fnIntro Tryz.func28 u (by kernel_rfl) fun H0 w0 => ?_
 unfold reticentref09_Right.f at h
 refine wSeq <| rx (c3 <| .nil) <| pSeq <| wSeq ?_
 obtain ⟨o1, h, hk1⟩ := bd h
 refine wJ1 (fun x6 => x6 = o1) (fun x6 => [(2, .d (sP (kR f_api_Lattice) a0)), (3, .d (sP (kR f_api_State) a1)), (29, .d (kB.sig x6))]) (fun x6 => []) ?_ ?_
 ·obtain ⟨y7, hy7, h⟩ := bd h
  obtain ⟨hp8, h⟩ | ⟨hp8, h⟩ := ik h
  ·exact rx (c3 <| cC (reticentref08_Right.ok hy7) <| c12 <| c8 <| c1 <| .nil) <| pJ1 _ (so h) (sb u) u
  ·obtain ⟨hp9, h⟩ | ⟨hp9, h⟩ := ik h
   ·exact rx (c3 <| cC (reticentref08_Right.ok hy7) <| c12 <| c8 <| c1 <| .nil) <| pJ1 _ (so h) (sb u) u
   ·obtain ⟨hp10, h⟩ | ⟨hp10, h⟩ := ik h
    ·exact rx (c3 <| cC (reticentref08_Right.ok hy7) <| c12 <| c8 <| c1 <| .nil) <| pJ1 _ (so h) (sb u) u
    ·obtain ⟨y11, hy11, h⟩ := bd h
     exact rx (c3 <| cC (reticentref08_Right.ok hy7) <| c12 <| c6 <| cgB (dF hp10.1) u u (oCall u (reticentref09_label.ok hy11) b67 (oc tm (oc tm o0))) (s2 u u) <| c2 <| .nil) <| pJ1 _ (so h) (sb u) u
 ·rintro x6 rfl
  replace h := hk1
  obtain ⟨hp12, h⟩ | ⟨hp12, h⟩ := ik h
  ·refine wBT hp12.1 tm (s1 u) <| wSeq <| rx (c1 <| .nil) <| pSeq <| wRet <| pThenR ?_
   obtain rfl := so h
   exact pR1 (.inl u) u (.tmp u <| .nil)
  ·refine wBF hp12.1 tm (s1 u) <| wSkip <| pSeq ?_
   obtain ⟨o1, h, hk1⟩ := bd h
   refine wJ1 (fun x20 => x20 = o1) (fun x20 => [(4, .d (kB.sig x20))]) (fun x20 => []) ?_ ?_
   ·obtain ⟨y21, hy21, h⟩ := bd h
    obtain ⟨hp22, h⟩ | ⟨hp22, h⟩ := ik h
    ·obtain ⟨hp23, h⟩ | ⟨hp23, h⟩ := ik h
     ·obtain ⟨y24, hy24, h⟩ := bd h
      obtain ⟨hp25, h⟩ | ⟨hp25, h⟩ := ik h
      ·obtain ⟨y26, hy26, h⟩ := bd h
       obtain ⟨hp27, h⟩ | ⟨hp27, h⟩ := ik h
       ·exact rx (c3 <| cC (reticentref09_Atoms.ok hy21) <| c8 <| c2 <| cgB (dT hp23.1) u u (oCall u (reticentref09_Stack.ok hy24) b69 (oc tm (oc tm o0))) (s2 u u) <| c4 <| c1 <| cgB hp25.1 u u (oCall u (reticentref09_Atoms.ok hy26) b68 (oc tm (oc tm o0))) (s2 u u) <| c8 <| .nil) <| pJ1 _ (so h) (sb u) u
       ·exact rx (c3 <| cC (reticentref09_Atoms.ok hy21) <| c8 <| c2 <| cgB (dT hp23.1) u u (oCall u (reticentref09_Stack.ok hy24) b69 (oc tm (oc tm o0))) (s2 u u) <| c4 <| c1 <| cgB hp25.1 u u (oCall u (reticentref09_Atoms.ok hy26) b68 (oc tm (oc tm o0))) (s2 u u) <| c8 <| .nil) <| pJ1 _ (so h) (sb u) u
      ·exact rx (c3 <| cC (reticentref09_Atoms.ok hy21) <| c8 <| c2 <| cgB (dT hp23.1) u u (oCall u (reticentref09_Stack.ok hy24) b69 (oc tm (oc tm o0))) (s2 u u) <| c12 <| c2 <| .nil) <| pJ1 _ (so h) (sb u) u
     ·exact rx (c3 <| cC (reticentref09_Atoms.ok hy21) <| c12 <| c12 <| c1 <| .nil) <| pJ1 _ (so h) (sb u) u
    ·exact rx (c3 <| cC (reticentref09_Atoms.ok hy21) <| c12 <| c12 <| c1 <| .nil) <| pJ1 _ (so h) (sb u) u
   ·rintro x20 rfl
    replace h := hk1
    refine wRet ?_
    obtain rfl := so h
    exact pR1 (.inl u) u (.tmp u <| .nil)
theorem reticentref10_May.ok {a0 : api_Lattice} {a1 : api_Table} {a2 : api_State} {r : Int} (h : reticentref10_May.f a0 a1 a2 = some r) : FnA PP 9 [(kR f_api_Lattice).sig a0, (kR f_api_Table).sig a1, (kR f_api_State).sig a2] (ki.sig r) := by
 refine fnIntro Tryz.func9 u (by kernel_rfl) fun H0 w0 => ?_
 unfold reticentref10_May.f at h
 refine wSeq <| rx (c4 <| .nil) <| pSeq <| wSeq ?_
 obtain ⟨y1, hy1, h⟩ := bd h
 refine rx (c1 <| cC (reticentref01_Check.ok hy1) <| c1 <| .nil) <| pSeq <| wSeq <| wSeq <| rx (c2 <| .nil) <| pSeq ?_
 obtain ⟨hp2, h⟩ | ⟨hp2, h⟩ := ik h
 ·refine wNT hp2.1 tm (s1 u) <| wSkip <| pSeq <| wSeq <| wSeq ?_
  obtain ⟨y3, hy3, h⟩ := bd h
  refine rx (c1 <| cC (reticentref06_Check.ok hy3) <| cp (oField (fs := f_reticentref06_W) (k := 1) u ff69_1 t39 tm) (s1 u) <| c1 <| .nil) <| pSeq ?_
  obtain ⟨hp4, h⟩ | ⟨hp4, h⟩ := ik h
  ·refine wNT hp4.1 tm (s1 u) <| wSkip <| pSeq <| wSeq <| wSeq ?_
   obtain ⟨y5, hy5, h⟩ := bd h
   refine rx (c2 <| cC (reticentref09_Right.ok hy5) <| c1 <| .nil) <| pSeq ?_
   obtain ⟨hp6, h⟩ | ⟨hp6, h⟩ := ik h
   ·refine wBT hp6.1 tm (s1 u) <| wSeq <| rx (c1 <| .nil) <| pSeq <| wRet <| pThenR ?_
    obtain rfl := so h
    exact pR1 (.inl u) u (.tmp u <| .nil)
   ·refine wBF hp6.1 tm (s1 u) <| wSkip <| pSeq <| wSeq <| rx (c1 <| .nil) <| pSeq <| wRet ?_
    obtain rfl := so h
    exact pR1 (.inl u) u (.tmp u <| .nil)
  ·refine wNF hp4.1 tm (s1 u) <| wSeq ?_
   obtain ⟨y7, hy7, h⟩ := bd h
   refine rx (c1 <| cC (reticentref06_Check.ok hy7) <| cp (oField (fs := f_reticentref06_W) (k := 1) u ff69_1 t39 tm) (s1 u) <| c1 <| .nil) <| pSeq <| wRet <| pThenR ?_
   obtain rfl := so h
   exact pR1 (.inl u) u (.tmp u <| .nil)
 ·refine wNF hp2.1 tm (s1 u) <| wSeq <| rx (c2 <| .nil) <| pSeq <| wRet <| pThenR ?_
  obtain rfl := so h
  exact pR1 (.inl u) u (.tmp u <| .nil)

end Go.Proofs.YtmegdednaimgcaaGreatDoor.TT
