/- Contracts: the reference's Run, and the comparison. Conditions: none. -/
import Derived.Test.YtellgcahkpaldaaX6
set_option linter.unusedVariables false
set_option linter.unusedSimpArgs false
namespace Go.Proofs.Ytellgcahkpaldaa.Fn
open Go Go.Am
set_option maxRecDepth 100000
set_option maxHeartbeats 1000000
theorem k24 (n : Int) (x : Cell) (l : List Pulse) (h : AH) (v : View h.o h.nx x enP l) (hlen : l.length < 9223372036854775807) :
    wF fs out 24 [.v (.one (.int .i64 n)), .v (.one x)] h fun r h' => RunQ h n l r h' := by
  refine wF_fn fs24 rfl fun Q hQ => ?_
  have lenx := v.lenV (fs := fs) (out := out)
  have bad : ∀ (t : Nat → T) (g : AH), ¬ goodR n l → h.le g → t 4 = .v (.one .nils) → t 5 = .v (.one (.int .i64 4)) → Q .ret ⟨t, g⟩ := by
    intro t g hb hl t4 t5
    refine hQ _ _ _ (.inr rfl) (by simp only [resc, resv, List.mapM_cons, List.mapM_nil, t4, t5, a24]; rfl) ⟨.inr ⟨hb, rfl⟩, hl⟩
  refine s24_0 ?_
  (try simp -implicitDefEqProofs (disch := first | (refine NE.mk ?_; first | omega | assumption) | (refine LTn.mk ?_; omega) | (refine NFam.mk ?_; simp only [lenx, updO_same, notFam_cells]; omega)) [↓h24_1, lenx, Nat.min_self, -List.length_flatMap])
  refine s24_2 ?_
  refine s24_3 ?_
  by_cases n0 : n < 0
  · (try simp -implicitDefEqProofs (disch := first | (refine NE.mk ?_; first | omega | assumption) | (refine LTn.mk ?_; omega) | (refine NFam.mk ?_; simp only [lenx, n0, updO_same, notFam_cells]; omega)) [↓h24_4, ↓w24_4_1, ↓h24_4_1g, ↓h24_4_2, lenx, n0, Nat.min_self, -List.length_flatMap])
    refine s24_5 ?_
    (try simp -implicitDefEqProofs (disch := first | (refine NE.mk ?_; first | omega | assumption) | (refine LTn.mk ?_; omega) | (refine NFam.mk ?_; simp only [lenx, updO_same, notFam_cells]; omega)) [lenx, Nat.min_self, -List.length_flatMap])
    refine s24_6 ?_
    simp -implicitDefEqProofs (disch := first | (refine NE.mk ?_; first | omega | assumption) | (refine LTn.mk ?_; omega) | (refine NFam.mk ?_; simp only [lenx, updO_same, notFam_cells]; omega)) [↓h24_7, lenx, Nat.min_self, -List.length_flatMap]
    exact bad _ _ (fun hg => by have := hg.1; omega) (AH.le_mk (by omega) fun _ _ => rfl) (by simp -implicitDefEqProofs (disch := first | (refine NE.mk ?_; first | omega | assumption) | (refine LTn.mk ?_; omega) | (refine NFam.mk ?_; simp only [lenx, updO_same, notFam_cells]; omega)) [lenx, Nat.min_self, -List.length_flatMap]) (by simp -implicitDefEqProofs (disch := first | (refine NE.mk ?_; first | omega | assumption) | (refine LTn.mk ?_; omega) | (refine NFam.mk ?_; simp only [lenx, updO_same, notFam_cells]; omega)) [lenx, Nat.min_self, -List.length_flatMap])
  · by_cases n1 : 144 < n
    · (try simp -implicitDefEqProofs (disch := first | (refine NE.mk ?_; first | omega | assumption) | (refine LTn.mk ?_; omega) | (refine NFam.mk ?_; simp only [lenx, n0, n1, updO_same, notFam_cells]; omega)) [↓h24_4, ↓w24_4_1, ↓h24_4_1g, ↓h24_4_2, lenx, n0, n1, Nat.min_self, -List.length_flatMap])
      refine s24_5 ?_
      (try simp -implicitDefEqProofs (disch := first | (refine NE.mk ?_; first | omega | assumption) | (refine LTn.mk ?_; omega) | (refine NFam.mk ?_; simp only [lenx, updO_same, notFam_cells]; omega)) [lenx, Nat.min_self, -List.length_flatMap])
      refine s24_6 ?_
      simp -implicitDefEqProofs (disch := first | (refine NE.mk ?_; first | omega | assumption) | (refine LTn.mk ?_; omega) | (refine NFam.mk ?_; simp only [lenx, updO_same, notFam_cells]; omega)) [↓h24_7, lenx, Nat.min_self, -List.length_flatMap]
      exact bad _ _ (fun hg => by have := hg.2.1; omega) (AH.le_mk (by omega) fun _ _ => rfl) (by simp -implicitDefEqProofs (disch := first | (refine NE.mk ?_; first | omega | assumption) | (refine LTn.mk ?_; omega) | (refine NFam.mk ?_; simp only [lenx, updO_same, notFam_cells]; omega)) [lenx, Nat.min_self, -List.length_flatMap]) (by simp -implicitDefEqProofs (disch := first | (refine NE.mk ?_; first | omega | assumption) | (refine LTn.mk ?_; omega) | (refine NFam.mk ?_; simp only [lenx, updO_same, notFam_cells]; omega)) [lenx, Nat.min_self, -List.length_flatMap])
    · (try simp -implicitDefEqProofs (disch := first | (refine NE.mk ?_; first | omega | assumption) | (refine LTn.mk ?_; omega) | (refine NFam.mk ?_; simp only [lenx, n0, n1, updO_same, notFam_cells]; omega)) [↓h24_4, ↓w24_4_1, ↓h24_4_1g, ↓h24_4_2, lenx, n0, n1, Nat.min_self, -List.length_flatMap])
      refine s24_5 ?_
      (try simp -implicitDefEqProofs (disch := first | (refine NE.mk ?_; first | omega | assumption) | (refine LTn.mk ?_; omega) | (refine NFam.mk ?_; simp only [lenx, updO_same, notFam_cells]; omega)) [lenx, Nat.min_self, -List.length_flatMap])
      obtain ⟨N, rfl⟩ : ∃ N : Nat, n = N := ⟨n.toNat, by omega⟩
      refine s24_8 ?_
      (try simp -implicitDefEqProofs (disch := first | (refine NE.mk ?_; first | omega | assumption) | (refine LTn.mk ?_; omega) | (refine NFam.mk ?_; simp only [lenx, show (N : Int) * 24 ≤ 140737488355328 by omega, show (N : Int) ≤ 9223372036854775807 by omega, updO_same, notFam_cells]; omega)) [↓h24_9, lenx, show (N : Int) * 24 ≤ 140737488355328 by omega, show (N : Int) ≤ 9223372036854775807 by omega, Nat.min_self, -List.length_flatMap])
      obtain ⟨q, hq⟩ : ∃ q, q = h.nx + 2 + 6 + 1 := ⟨_, rfl⟩
      rw [← hq, show ([.int .i64 0, .int .i64 0, .int .i64 0] : List Cell) = enC ⟨0, 0, 0⟩ from rfl, reps_rows]
      refine s24_10 ?_
      refine s24_11 ?_
      simp -implicitDefEqProofs (disch := first | (refine NE.mk ?_; first | omega | assumption) | (refine LTn.mk ?_; omega) | (refine NFam.mk ?_; simp only [lenx, updO_same, notFam_cells]; omega)) [↓h24_12, lenx, Nat.min_self, -List.length_flatMap]
      refine s24_13 ?_
      refine s24_14 (fun m s => ∃ i : Nat, i + m = l.length ∧ s.t 0 = .v (.one (.int .i64 N)) ∧ s.t 6 = .v (.one (.slice q 0 N)) ∧ s.t 17 = .v (.one x) ∧ s.t 18 = .v (.one (.int .i64 l.length)) ∧ s.t 19 = .v (.one (.int .i64 i)) ∧ s.h.o q = some (.cells q false 26 3 (((l.take i).foldl stepR (List.replicate N (⟨0, 0, 0⟩ : Cnt))).flatMap enC)) ∧ q < s.h.nx ∧ (∀ i, i < h.nx → s.h.o i = h.o i) ∧ ∀ p ∈ l.take i, okP N p) l.length ?_ ?_
      · exact ⟨0, by omega, by simp -implicitDefEqProofs (disch := first | (refine NE.mk ?_; first | omega | assumption) | (refine LTn.mk ?_; omega) | (refine NFam.mk ?_; simp only [lenx, updO_same, notFam_cells]; omega)) [lenx, Nat.min_self, -List.length_flatMap], by simp -implicitDefEqProofs (disch := first | (refine NE.mk ?_; first | omega | assumption) | (refine LTn.mk ?_; omega) | (refine NFam.mk ?_; simp only [lenx, updO_same, notFam_cells]; omega)) [lenx, Nat.min_self, -List.length_flatMap], by simp -implicitDefEqProofs (disch := first | (refine NE.mk ?_; first | omega | assumption) | (refine LTn.mk ?_; omega) | (refine NFam.mk ?_; simp only [lenx, updO_same, notFam_cells]; omega)) [lenx, Nat.min_self, -List.length_flatMap], by simp -implicitDefEqProofs (disch := first | (refine NE.mk ?_; first | omega | assumption) | (refine LTn.mk ?_; omega) | (refine NFam.mk ?_; simp only [lenx, updO_same, notFam_cells]; omega)) [lenx, Nat.min_self, -List.length_flatMap], by simp -implicitDefEqProofs (disch := first | (refine NE.mk ?_; first | omega | assumption) | (refine LTn.mk ?_; omega) | (refine NFam.mk ?_; simp only [lenx, updO_same, notFam_cells]; omega)) [lenx, Nat.min_self, -List.length_flatMap], by simp -implicitDefEqProofs (disch := first | (refine NE.mk ?_; first | omega | assumption) | (refine LTn.mk ?_; omega) | (refine NFam.mk ?_; simp only [lenx, updO_same, notFam_cells]; omega)) [lenx, Nat.min_self, -List.length_flatMap], (by (try dsimp only [keepOnly_eq]); omega), fun i hi => by simp -implicitDefEqProofs (disch := first | (refine NE.mk ?_; first | omega | assumption) | (refine LTn.mk ?_; omega) | (refine NFam.mk ?_; simp only [lenx, updO_same, notFam_cells]; omega)) [lenx, Nat.min_self, -List.length_flatMap], by simp⟩
      · rintro m s Q2 ⟨i, hm, t0, t6, t17, t18, t19, hoq, hqn, ho, hp⟩ hN hE hR
        refine s24_15 ?_
        simp -implicitDefEqProofs (disch := first | (refine NE.mk ?_; first | omega | assumption) | (refine LTn.mk ?_; omega) | (refine NFam.mk ?_; simp only [t0, t6, t17, t18, t19, updO_same, notFam_cells]; omega)) [↓h24_16, t0, t6, t17, t18, t19, Nat.min_self, -List.length_flatMap]
        refine s24_17 ?_
        simp -implicitDefEqProofs (disch := first | (refine NE.mk ?_; first | omega | assumption) | (refine LTn.mk ?_; omega) | (refine NFam.mk ?_; simp only [t0, t6, t17, t18, t19, updO_same, notFam_cells]; omega)) [t0, t6, t17, t18, t19, Nat.min_self, -List.length_flatMap]
        split
        · rename_i hi
          obtain ⟨j, f, ro, e, w, cs, rfl, hj, hcs, hl1, hg1, hg2, hg3⟩ := v.get enP_len hi
          have hcs' := (ho j hj).trans hcs
          obtain ⟨p, hpe⟩ : ∃ p, p = l[i] := ⟨_, rfl⟩
          rw [← hpe] at hg2 hg1 hg3
          have hmem : p ∈ l := by rw [hpe]; exact List.getElem_mem hi
          have w1 := wrap64 (show -9223372036854775808 ≤ (i : Int) + 1 by omega) (by omega)
          refine s24_19 ?_
          refine s24_20 ?_
          refine s24_21 ?_
          simp -implicitDefEqProofs (disch := first | (refine NE.mk ?_; first | omega | assumption) | (refine LTn.mk ?_; omega) | (refine NFam.mk ?_; simp only [t0, t6, t17, t18, t19, hi, hl1, hcs', hg2, enP, w1, updO_same, notFam_cells]; omega)) [↓h24_22, t0, t6, t17, t18, t19, hi, hl1, hcs', hg2, enP, w1, Nat.min_self, -List.length_flatMap]
          refine s24_23 ?_
          have badp : ∀ (t : Nat → T) (g : AH), ¬ okP N p → h.le g → t 4 = .v (.one .nils) → t 5 = .v (.one (.int .i64 4)) → Q2 .ret ⟨t, g⟩ := by
            intro t g hb hl t4 t5
            refine hR _ ?_
            (try simp -implicitDefEqProofs (disch := first | (refine NE.mk ?_; first | omega | assumption) | (refine LTn.mk ?_; omega) | (refine NFam.mk ?_; simp only [t0, t6, t17, t18, t19, hi, hl1, hcs', hg2, enP, w1, updO_same, notFam_cells]; omega)) [t0, t6, t17, t18, t19, hi, hl1, hcs', hg2, enP, w1, Nat.min_self, -List.length_flatMap])
            exact bad t g (fun hg => hb (hg.2.2 p hmem)) hl t4 t5
          refine s24_24 ?_
          by_cases r0 : p.r < 0
          · (try simp -implicitDefEqProofs (disch := first | (refine NE.mk ?_; first | omega | assumption) | (refine LTn.mk ?_; omega) | (refine NFam.mk ?_; simp only [t0, t6, t17, t18, t19, hi, hl1, hcs', hg2, enP, w1, r0, updO_same, notFam_cells]; omega)) [↓h24_25, ↓w24_25_1, ↓h24_25_1g, ↓h24_25_2, t0, t6, t17, t18, t19, hi, hl1, hcs', hg2, enP, w1, r0, Nat.min_self, -List.length_flatMap])
            refine s24_26 ?_
            (try simp -implicitDefEqProofs (disch := first | (refine NE.mk ?_; first | omega | assumption) | (refine LTn.mk ?_; omega) | (refine NFam.mk ?_; simp only [t0, t6, t17, t18, t19, hi, hl1, hcs', hg2, enP, w1, updO_same, notFam_cells]; omega)) [t0, t6, t17, t18, t19, hi, hl1, hcs', hg2, enP, w1, Nat.min_self, -List.length_flatMap])
            refine s24_27 ?_
            simp -implicitDefEqProofs (disch := first | (refine NE.mk ?_; first | omega | assumption) | (refine LTn.mk ?_; omega) | (refine NFam.mk ?_; simp only [t0, t6, t17, t18, t19, hi, hl1, hcs', hg2, enP, w1, updO_same, notFam_cells]; omega)) [↓h24_28, t0, t6, t17, t18, t19, hi, hl1, hcs', hg2, enP, w1, Nat.min_self, -List.length_flatMap]
            refine badp _ _ (fun hk => by have := hk.1; omega) (AH.le_mk (by omega) fun k hk => ?_) (by simp -implicitDefEqProofs (disch := first | (refine NE.mk ?_; first | omega | assumption) | (refine LTn.mk ?_; omega) | (refine NFam.mk ?_; simp only [t0, t6, t17, t18, t19, hi, hl1, hcs', hg2, enP, w1, updO_same, notFam_cells]; omega)) [t0, t6, t17, t18, t19, hi, hl1, hcs', hg2, enP, w1, Nat.min_self, -List.length_flatMap]) (by simp -implicitDefEqProofs (disch := first | (refine NE.mk ?_; first | omega | assumption) | (refine LTn.mk ?_; omega) | (refine NFam.mk ?_; simp only [t0, t6, t17, t18, t19, hi, hl1, hcs', hg2, enP, w1, updO_same, notFam_cells]; omega)) [t0, t6, t17, t18, t19, hi, hl1, hcs', hg2, enP, w1, Nat.min_self, -List.length_flatMap])
            (try simp -implicitDefEqProofs (disch := first | (refine NE.mk ?_; first | omega | assumption) | (refine LTn.mk ?_; omega) | (refine NFam.mk ?_; simp only [t0, t6, t17, t18, t19, hi, hl1, hcs', hg2, enP, w1, updO_same, notFam_cells]; omega)) [t0, t6, t17, t18, t19, hi, hl1, hcs', hg2, enP, w1, Nat.min_self, -List.length_flatMap])
            exact ho k hk
          · by_cases r1 : (N : Int) ≤ p.r
            · (try simp -implicitDefEqProofs (disch := first | (refine NE.mk ?_; first | omega | assumption) | (refine LTn.mk ?_; omega) | (refine NFam.mk ?_; simp only [t0, t6, t17, t18, t19, hi, hl1, hcs', hg2, enP, w1, r0, r1, updO_same, notFam_cells]; omega)) [↓h24_25, ↓w24_25_1, ↓h24_25_1g, ↓h24_25_2, t0, t6, t17, t18, t19, hi, hl1, hcs', hg2, enP, w1, r0, r1, Nat.min_self, -List.length_flatMap])
              refine s24_26 ?_
              (try simp -implicitDefEqProofs (disch := first | (refine NE.mk ?_; first | omega | assumption) | (refine LTn.mk ?_; omega) | (refine NFam.mk ?_; simp only [t0, t6, t17, t18, t19, hi, hl1, hcs', hg2, enP, w1, updO_same, notFam_cells]; omega)) [t0, t6, t17, t18, t19, hi, hl1, hcs', hg2, enP, w1, Nat.min_self, -List.length_flatMap])
              refine s24_27 ?_
              simp -implicitDefEqProofs (disch := first | (refine NE.mk ?_; first | omega | assumption) | (refine LTn.mk ?_; omega) | (refine NFam.mk ?_; simp only [t0, t6, t17, t18, t19, hi, hl1, hcs', hg2, enP, w1, updO_same, notFam_cells]; omega)) [↓h24_28, t0, t6, t17, t18, t19, hi, hl1, hcs', hg2, enP, w1, Nat.min_self, -List.length_flatMap]
              refine badp _ _ (fun hk => by have := hk.2; omega) (AH.le_mk (by omega) fun k hk => ?_) (by simp -implicitDefEqProofs (disch := first | (refine NE.mk ?_; first | omega | assumption) | (refine LTn.mk ?_; omega) | (refine NFam.mk ?_; simp only [t0, t6, t17, t18, t19, hi, hl1, hcs', hg2, enP, w1, updO_same, notFam_cells]; omega)) [t0, t6, t17, t18, t19, hi, hl1, hcs', hg2, enP, w1, Nat.min_self, -List.length_flatMap]) (by simp -implicitDefEqProofs (disch := first | (refine NE.mk ?_; first | omega | assumption) | (refine LTn.mk ?_; omega) | (refine NFam.mk ?_; simp only [t0, t6, t17, t18, t19, hi, hl1, hcs', hg2, enP, w1, updO_same, notFam_cells]; omega)) [t0, t6, t17, t18, t19, hi, hl1, hcs', hg2, enP, w1, Nat.min_self, -List.length_flatMap])
              (try simp -implicitDefEqProofs (disch := first | (refine NE.mk ?_; first | omega | assumption) | (refine LTn.mk ?_; omega) | (refine NFam.mk ?_; simp only [t0, t6, t17, t18, t19, hi, hl1, hcs', hg2, enP, w1, updO_same, notFam_cells]; omega)) [t0, t6, t17, t18, t19, hi, hl1, hcs', hg2, enP, w1, Nat.min_self, -List.length_flatMap])
              exact ho k hk
            · (try simp -implicitDefEqProofs (disch := first | (refine NE.mk ?_; first | omega | assumption) | (refine LTn.mk ?_; omega) | (refine NFam.mk ?_; simp only [t0, t6, t17, t18, t19, hi, hl1, hcs', hg2, enP, w1, r0, r1, updO_same, notFam_cells]; omega)) [↓h24_25, ↓w24_25_1, ↓h24_25_1g, ↓h24_25_2, t0, t6, t17, t18, t19, hi, hl1, hcs', hg2, enP, w1, r0, r1, Nat.min_self, -List.length_flatMap])
              refine s24_26 ?_
              (try simp -implicitDefEqProofs (disch := first | (refine NE.mk ?_; first | omega | assumption) | (refine LTn.mk ?_; omega) | (refine NFam.mk ?_; simp only [t0, t6, t17, t18, t19, hi, hl1, hcs', hg2, enP, w1, updO_same, notFam_cells]; omega)) [t0, t6, t17, t18, t19, hi, hl1, hcs', hg2, enP, w1, Nat.min_self, -List.length_flatMap])
              obtain ⟨k, hk⟩ : ∃ k : Nat, p.r = k := ⟨p.r.toNat, by omega⟩
              obtain ⟨L, hL⟩ : ∃ L, L = (l.take i).foldl stepR (List.replicate N (⟨0, 0, 0⟩ : Cnt)) := ⟨_, rfl⟩
              have hLN : L.length = N := by rw [hL, foldR_len]; simp
              rw [← hL] at hoq
              have hkN : k < N := by omega
              have hl3 : (L.flatMap enC).length = N * 3 := by rw [rows_len enC_len, hLN]
              have hk3 : k * 3 + 3 ≤ N * 3 := by omega
              have g1 := rows_get0 enC_len L (i := k) (by omega)
              refine s24_29 ?_
              simp -implicitDefEqProofs (disch := first | (refine NE.mk ?_; first | omega | assumption) | (refine LTn.mk ?_; omega) | (refine NFam.mk ?_; simp only [t0, t6, t17, t18, t19, hi, w1, hoq, hl3, hk3, g1, hkN, hl1, hcs', hg2, hk, enP, updO_same, notFam_cells]; omega)) [↓h24_29, t0, t6, t17, t18, t19, hi, w1, hoq, hl3, hk3, g1, hkN, hl1, hcs', hg2, hk, enP, Nat.min_self, -List.length_flatMap]
              have hpp : (⟨k, p.i, p.a, p.b⟩ : Pulse) = p := by rw [← hk]
              refine wF_mono (k19 L[k] ⟨k, p.i, p.a, p.b⟩ _) ?_
              rintro _ g ⟨rfl, hn4, ho4⟩
              rw [hpp]
              (try dsimp only at hn4 ho4)
              obtain ⟨b, hb⟩ : ∃ b, b = s.h.nx + 1 + 2 := ⟨_, rfl⟩
              rw [← hb] at ho4
              rw [← hb]
              have gq : g.o q = some (.cells q false 26 3 (L.flatMap enC)) := by rw [ho4 q (by omega)]; simp -implicitDefEqProofs (disch := first | (refine NE.mk ?_; first | omega | assumption) | (refine LTn.mk ?_; omega) | (refine NFam.mk ?_; simp only [t0, t6, t17, t18, t19, hi, w1, hoq, hl3, hk3, g1, hkN, hl1, hcs', hg2, hk, updO_same, notFam_cells]; omega)) [t0, t6, t17, t18, t19, hi, w1, hoq, hl3, hk3, g1, hkN, hl1, hcs', hg2, hk, Nat.min_self, -List.length_flatMap]
              have gb : g.o b = some (.cells b false 31 0 [.int .i64 k, .bool p.i, .int .i64 p.a, .int .i64 p.b]) := by rw [ho4 b (by omega)]; simp -implicitDefEqProofs (disch := first | (refine NE.mk ?_; first | omega | assumption) | (refine LTn.mk ?_; omega) | (refine NFam.mk ?_; simp only [t0, t6, t17, t18, t19, hi, w1, hoq, hl3, hk3, g1, hkN, hl1, hcs', hg2, hk, updO_same, notFam_cells]; omega)) [t0, t6, t17, t18, t19, hi, w1, hoq, hl3, hk3, g1, hkN, hl1, hcs', hg2, hk, Nat.min_self, -List.length_flatMap]
              have glow : ∀ i, i < h.nx → g.o i = h.o i := fun i hi => by rw [ho4 i (by omega)]; simp -implicitDefEqProofs (disch := first | (refine NE.mk ?_; first | omega | assumption) | (refine LTn.mk ?_; omega) | (refine NFam.mk ?_; simp only [t0, t6, t17, t18, t19, hi, w1, hoq, hl3, hk3, g1, hkN, hl1, hcs', hg2, hk, updO_same, notFam_cells]; omega)) [t0, t6, t17, t18, t19, hi, w1, hoq, hl3, hk3, g1, hkN, hl1, hcs', hg2, hk, Nat.min_self, -List.length_flatMap]; exact ho i hi
              have e4 := rows_set0 enC_len L (i := k) (by omega) (feedS L[k] p)
              (try simp -implicitDefEqProofs (disch := first | (refine NE.mk ?_; first | omega | assumption) | (refine LTn.mk ?_; omega) | (refine NFam.mk ?_; simp only [t0, t6, t17, t18, t19, hi, w1, hl3, hk3, hkN, hk, gq, gb, e4, enC_len, enC_solid, updO_same, notFam_cells]; omega)) [t0, t6, t17, t18, t19, hi, w1, hl3, hk3, hkN, hk, gq, gb, e4, enC_len, enC_solid, Nat.min_self, -List.length_flatMap])
              refine ⟨hold_load (j := b) (o := 0) (f := b) (ro := false) (e := 31) (w := 0) (cs := [.int .i64 k, .bool p.i, .int .i64 p.a, .int .i64 p.b]) (c := .int .i64 k) (by simp -implicitDefEqProofs (disch := first | (refine NE.mk ?_; first | omega | assumption) | (refine LTn.mk ?_; omega) | (refine NFam.mk ?_; simp only [t0, t6, t17, t18, t19, hi, w1, hl3, hk3, hkN, hk, gq, gb, e4, enC_len, enC_solid, updO_same, notFam_cells]; omega)) [t0, t6, t17, t18, t19, hi, w1, hl3, hk3, hkN, hk, gq, gb, e4, enC_len, enC_solid, Nat.min_self, -List.length_flatMap]) (by simp -implicitDefEqProofs (disch := first | (refine NE.mk ?_; first | omega | assumption) | (refine LTn.mk ?_; omega) | (refine NFam.mk ?_; simp only [t0, t6, t17, t18, t19, hi, w1, hl3, hk3, hkN, hk, gq, gb, e4, enC_len, enC_solid, updO_same, notFam_cells]; omega)) [t0, t6, t17, t18, t19, hi, w1, hl3, hk3, hkN, hk, gq, gb, e4, enC_len, enC_solid, Nat.min_self, -List.length_flatMap]) (by simp -implicitDefEqProofs (disch := first | (refine NE.mk ?_; first | omega | assumption) | (refine LTn.mk ?_; omega) | (refine NFam.mk ?_; simp only [t0, t6, t17, t18, t19, hi, w1, hl3, hk3, hkN, hk, gq, gb, e4, enC_len, enC_solid, updO_same, notFam_cells]; omega)) [t0, t6, t17, t18, t19, hi, w1, hl3, hk3, hkN, hk, gq, gb, e4, enC_len, enC_solid, Nat.min_self, -List.length_flatMap]) rfl, ?_⟩
              (try simp -implicitDefEqProofs (disch := first | (refine NE.mk ?_; first | omega | assumption) | (refine LTn.mk ?_; omega) | (refine NFam.mk ?_; simp only [t0, t6, t17, t18, t19, hi, w1, hl3, hk3, hkN, hk, gq, gb, e4, enC_len, enC_solid, updO_same, notFam_cells]; omega)) [↓h24_29h1, t0, t6, t17, t18, t19, hi, w1, hl3, hk3, hkN, hk, gq, gb, e4, enC_len, enC_solid, Nat.min_self, -List.length_flatMap])
              refine s24_30 ?_
              simp -implicitDefEqProofs (disch := first | (refine NE.mk ?_; first | omega | assumption) | (refine LTn.mk ?_; omega) | (refine NFam.mk ?_; simp only [t0, t6, t17, t18, t19, hi, w1, hl3, hk3, hkN, hk, gq, gb, e4, enC_len, enC_solid, updO_same, notFam_cells]; omega)) [↓h24_30, t0, t6, t17, t18, t19, hi, w1, hl3, hk3, hkN, hk, gq, gb, e4, enC_len, enC_solid, Nat.min_self, -List.length_flatMap]
              have hnext : (l.take (i + 1)).foldl stepR (List.replicate N (⟨0, 0, 0⟩ : Cnt)) = L.set k (feedS L[k] p) := by
                rw [List.take_succ_eq_append_getElem hi, List.foldl_append, ← hL, ← hpe]
                simp only [List.foldl_cons, List.foldl_nil, stepR, hk, Int.toNat_natCast, List.getD]
                rw [List.getElem?_eq_getElem (by omega)]; rfl
              refine hN (m - 1) _ (by omega) ?_
              dsimp only [keepOnly_eq]
              refine ⟨i + 1, by omega, by simp -implicitDefEqProofs (disch := first | (refine NE.mk ?_; first | omega | assumption) | (refine LTn.mk ?_; omega) | (refine NFam.mk ?_; simp only [t0, t6, t17, t18, t19, hi, w1, hl3, hk3, hkN, hk, gq, gb, e4, enC_len, enC_solid, updO_same, notFam_cells]; omega)) [t0, t6, t17, t18, t19, hi, w1, hl3, hk3, hkN, hk, gq, gb, e4, enC_len, enC_solid, Nat.min_self, -List.length_flatMap], by simp -implicitDefEqProofs (disch := first | (refine NE.mk ?_; first | omega | assumption) | (refine LTn.mk ?_; omega) | (refine NFam.mk ?_; simp only [t0, t6, t17, t18, t19, hi, w1, hl3, hk3, hkN, hk, gq, gb, e4, enC_len, enC_solid, updO_same, notFam_cells]; omega)) [t0, t6, t17, t18, t19, hi, w1, hl3, hk3, hkN, hk, gq, gb, e4, enC_len, enC_solid, Nat.min_self, -List.length_flatMap], by simp -implicitDefEqProofs (disch := first | (refine NE.mk ?_; first | omega | assumption) | (refine LTn.mk ?_; omega) | (refine NFam.mk ?_; simp only [t0, t6, t17, t18, t19, hi, w1, hl3, hk3, hkN, hk, gq, gb, e4, enC_len, enC_solid, updO_same, notFam_cells]; omega)) [t0, t6, t17, t18, t19, hi, w1, hl3, hk3, hkN, hk, gq, gb, e4, enC_len, enC_solid, Nat.min_self, -List.length_flatMap], by simp -implicitDefEqProofs (disch := first | (refine NE.mk ?_; first | omega | assumption) | (refine LTn.mk ?_; omega) | (refine NFam.mk ?_; simp only [t0, t6, t17, t18, t19, hi, w1, hl3, hk3, hkN, hk, gq, gb, e4, enC_len, enC_solid, updO_same, notFam_cells]; omega)) [t0, t6, t17, t18, t19, hi, w1, hl3, hk3, hkN, hk, gq, gb, e4, enC_len, enC_solid, Nat.min_self, -List.length_flatMap], by simp -implicitDefEqProofs (disch := first | (refine NE.mk ?_; first | omega | assumption) | (refine LTn.mk ?_; omega) | (refine NFam.mk ?_; simp only [t0, t6, t17, t18, t19, hi, w1, hl3, hk3, hkN, hk, gq, gb, e4, enC_len, enC_solid, updO_same, notFam_cells]; omega)) [t0, t6, t17, t18, t19, hi, w1, hl3, hk3, hkN, hk, gq, gb, e4, enC_len, enC_solid, Nat.min_self, -List.length_flatMap], by simp -implicitDefEqProofs (disch := first | (refine NE.mk ?_; first | omega | assumption) | (refine LTn.mk ?_; omega) | (refine NFam.mk ?_; simp only [t0, t6, t17, t18, t19, hi, w1, hl3, hk3, hkN, hk, gq, gb, e4, enC_len, enC_solid, hnext, updO_same, notFam_cells]; omega)) [t0, t6, t17, t18, t19, hi, w1, hl3, hk3, hkN, hk, gq, gb, e4, enC_len, enC_solid, hnext, Nat.min_self, -List.length_flatMap], (by (try dsimp only [keepOnly_eq]); omega), fun k hk => ?_, ?_⟩
              · (try simp -implicitDefEqProofs (disch := first | (refine NE.mk ?_; first | omega | assumption) | (refine LTn.mk ?_; omega) | (refine NFam.mk ?_; simp only [t0, t6, t17, t18, t19, hi, w1, hl3, hk3, hkN, hk, gq, gb, e4, enC_len, enC_solid, updO_same, notFam_cells]; omega)) [t0, t6, t17, t18, t19, hi, w1, hl3, hk3, hkN, hk, gq, gb, e4, enC_len, enC_solid, Nat.min_self, -List.length_flatMap])
                exact glow k hk
              · intro q hq
                rw [List.take_succ_eq_append_getElem hi, ← hpe] at hq
                rcases List.mem_append.1 hq with h3 | h3
                · exact hp q h3
                · simp at h3; subst h3; exact ⟨by omega, by omega⟩
        · skip
          rename_i hi
          refine hE 0 _ ?_
          (try simp -implicitDefEqProofs (disch := first | (refine NE.mk ?_; first | omega | assumption) | (refine LTn.mk ?_; omega) | (refine NFam.mk ?_; simp only [t0, t6, t17, t18, t19, updO_same, notFam_cells]; omega)) [t0, t6, t17, t18, t19, Nat.min_self, -List.length_flatMap])
          refine s24_31 ?_
          simp -implicitDefEqProofs (disch := first | (refine NE.mk ?_; first | omega | assumption) | (refine LTn.mk ?_; omega) | (refine NFam.mk ?_; simp only [t0, t6, t17, t18, t19, updO_same, notFam_cells]; omega)) [↓h24_32, t0, t6, t17, t18, t19, Nat.min_self, -List.length_flatMap]
          rw [List.take_of_length_le (by omega)] at hp
          have hfin : (l.take i).foldl stepR (List.replicate N (⟨0, 0, 0⟩ : Cnt)) = runL N l := by
            rw [List.take_of_length_le (by omega)]; simp [runL]
          have hfl : (runL N l).length = N := by unfold runL; rw [foldR_len]; simp
          rw [hfin] at hoq
          refine hQ _ _ _ (.inr rfl) (by simp only [resc, resv, List.mapM_cons, List.mapM_nil, a24]; rfl) ⟨.inl ⟨⟨by omega, by omega, hp⟩, .slice q 0 N, q, by simp -implicitDefEqProofs (disch := first | (refine NE.mk ?_; first | omega | assumption) | (refine LTn.mk ?_; omega) | (refine NFam.mk ?_; simp only [t0, t6, t17, t18, t19, updO_same, notFam_cells]; omega)) [t0, t6, t17, t18, t19, Nat.min_self, -List.length_flatMap], .inr ⟨q, by rw [hfl], hoq, by omega, by omega, (by (try dsimp only [keepOnly_eq]); omega)⟩⟩, (by (try dsimp only [keepOnly_eq]); omega), ho⟩
theorem eqc_enC (a b : Cnt) : eqc [true, true, true] (enC a) (enC b) = some (decide (a = b)) := by
  obtain ⟨a1, a2, a3⟩ := a; obtain ⟨b1, b2, b3⟩ := b
  simp only [enC, eqc_int, eqc_nil, Option.map_some, Option.some.injEq, Cnt.mk.injEq]
  rw [Bool.eq_iff_iff]; simp
theorem k25 (x y : Cell) (l m : List Cnt) (h : AH) (v : View h.o h.nx x enC l) (u : View h.o h.nx y enC m) (hlen : l.length < 9223372036854775807) :
    wF fs out 25 [.v (.one x), .v (.one y)] h fun r h' => r = .v (.one (.bool (decide (l = m)))) ∧ h.le h' := by
  refine wF_fn fs25 rfl fun Q hQ => ?_
  have lenx := v.lenV (fs := fs) (out := out)
  have leny := u.lenV (fs := fs) (out := out)
  refine s25_0 ?_
  (try simp -implicitDefEqProofs (disch := first | (refine NE.mk ?_; first | omega | assumption) | (refine LTn.mk ?_; omega) | (refine NFam.mk ?_; simp only [lenx, leny, updO_same, notFam_cells]; omega)) [↓h25_1, lenx, leny, Nat.min_self, -List.length_flatMap])
  refine s25_2 ?_
  refine s25_3 ?_
  by_cases hl : l.length = m.length
  · (try simp -implicitDefEqProofs (disch := first | (refine NE.mk ?_; first | omega | assumption) | (refine LTn.mk ?_; omega) | (refine NFam.mk ?_; simp only [lenx, leny, hl, updO_same, notFam_cells]; omega)) [↓h25_4, lenx, leny, hl, Nat.min_self, -List.length_flatMap])
    refine s25_5 ?_
    (try simp -implicitDefEqProofs (disch := first | (refine NE.mk ?_; first | omega | assumption) | (refine LTn.mk ?_; omega) | (refine NFam.mk ?_; simp only [lenx, leny, updO_same, notFam_cells]; omega)) [lenx, leny, Nat.min_self, -List.length_flatMap])
    refine s25_8 ?_
    refine s25_9 ?_
    simp -implicitDefEqProofs (disch := first | (refine NE.mk ?_; first | omega | assumption) | (refine LTn.mk ?_; omega) | (refine NFam.mk ?_; simp only [lenx, leny, hl, updO_same, notFam_cells]; omega)) [↓h25_10, lenx, leny, hl, Nat.min_self, -List.length_flatMap]
    refine s25_11 ?_
    refine s25_12 (fun k s => ∃ i : Nat, i + k = l.length ∧ s.t 0 = .v (.one x) ∧ s.t 1 = .v (.one y) ∧ s.t 12 = .v (.one (.int .i64 m.length)) ∧ s.t 13 = .v (.one (.int .i64 i)) ∧ h.le s.h ∧ l.take i = m.take i) l.length ?_ ?_
    · exact ⟨0, by omega, by simp -implicitDefEqProofs (disch := first | (refine NE.mk ?_; first | omega | assumption) | (refine LTn.mk ?_; omega) | (refine NFam.mk ?_; simp only [lenx, leny, updO_same, notFam_cells]; omega)) [lenx, leny, Nat.min_self, -List.length_flatMap], by simp -implicitDefEqProofs (disch := first | (refine NE.mk ?_; first | omega | assumption) | (refine LTn.mk ?_; omega) | (refine NFam.mk ?_; simp only [lenx, leny, updO_same, notFam_cells]; omega)) [lenx, leny, Nat.min_self, -List.length_flatMap], by simp -implicitDefEqProofs (disch := first | (refine NE.mk ?_; first | omega | assumption) | (refine LTn.mk ?_; omega) | (refine NFam.mk ?_; simp only [lenx, leny, updO_same, notFam_cells]; omega)) [lenx, leny, Nat.min_self, -List.length_flatMap], by simp -implicitDefEqProofs (disch := first | (refine NE.mk ?_; first | omega | assumption) | (refine LTn.mk ?_; omega) | (refine NFam.mk ?_; simp only [lenx, leny, updO_same, notFam_cells]; omega)) [lenx, leny, Nat.min_self, -List.length_flatMap], AH.le_mk (by omega) fun _ _ => rfl, by simp⟩
    · rintro k s Q2 ⟨i, hm, t0, t1, t12, t13, ⟨hn, ho⟩, hp⟩ hN hE hR
      refine s25_13 ?_
      simp -implicitDefEqProofs (disch := first | (refine NE.mk ?_; first | omega | assumption) | (refine LTn.mk ?_; omega) | (refine NFam.mk ?_; simp only [t0, t1, t12, t13, updO_same, notFam_cells]; omega)) [↓h25_14, t0, t1, t12, t13, Nat.min_self, -List.length_flatMap]
      refine s25_15 ?_
      simp -implicitDefEqProofs (disch := first | (refine NE.mk ?_; first | omega | assumption) | (refine LTn.mk ?_; omega) | (refine NFam.mk ?_; simp only [t0, t1, t12, t13, updO_same, notFam_cells]; omega)) [t0, t1, t12, t13, Nat.min_self, -List.length_flatMap]
      split
      · rename_i hi
        obtain ⟨j, f, ro, e, w, cs, rfl, hj, hcs, hl1, hg1, hg2, hg3⟩ := v.get (i := i) enC_len (by omega)
        obtain ⟨j', f', ro', e', w', cs', rfl, hj', hcs', hl1', hg1', hg2', hg3'⟩ := u.get (i := i) enC_len hi
        have c1 := (ho j hj).trans hcs
        have c2 := (ho j' hj').trans hcs'
        have hi2 : i < l.length := by omega
        have w1 := wrap64 (show -9223372036854775808 ≤ (i : Int) + 1 by omega) (by omega)
        have e1 := eqc_enC (l[i]) (m[i])
        refine s25_17 ?_
        refine s25_18 ?_
        refine s25_19 ?_
        simp -implicitDefEqProofs (disch := first | (refine NE.mk ?_; first | omega | assumption) | (refine LTn.mk ?_; omega) | (refine NFam.mk ?_; simp only [t0, t1, t12, t13, hi, hi2, c1, c2, hl1, hl1', hg2, hg2', e1, w1, updO_same, notFam_cells]; omega)) [↓h25_20, t0, t1, t12, t13, hi, hi2, c1, c2, hl1, hl1', hg2, hg2', e1, w1, Nat.min_self, -List.length_flatMap]
        refine s25_21 ?_
        simp -implicitDefEqProofs (disch := first | (refine NE.mk ?_; first | omega | assumption) | (refine LTn.mk ?_; omega) | (refine NFam.mk ?_; simp only [t0, t1, t12, t13, hi, hi2, c1, c2, hl1, hl1', hg2, hg2', e1, w1, updO_same, notFam_cells]; omega)) [↓h25_22, t0, t1, t12, t13, hi, hi2, c1, c2, hl1, hl1', hg2, hg2', e1, w1, Nat.min_self, -List.length_flatMap]
        refine s25_23 ?_
        simp -implicitDefEqProofs (disch := first | (refine NE.mk ?_; first | omega | assumption) | (refine LTn.mk ?_; omega) | (refine NFam.mk ?_; simp only [t0, t1, t12, t13, hi, hi2, c1, c2, hl1, hl1', hg2, hg2', e1, w1, updO_same, notFam_cells]; omega)) [t0, t1, t12, t13, hi, hi2, c1, c2, hl1, hl1', hg2, hg2', e1, w1, Nat.min_self, -List.length_flatMap]
        split
        · rename_i heq
          refine s25_26 ?_
          simp -implicitDefEqProofs (disch := first | (refine NE.mk ?_; first | omega | assumption) | (refine LTn.mk ?_; omega) | (refine NFam.mk ?_; simp only [t0, t1, t12, t13, hi, hi2, c1, c2, hl1, hl1', hg2, hg2', e1, w1, updO_same, notFam_cells]; omega)) [↓h25_26, t0, t1, t12, t13, hi, hi2, c1, c2, hl1, hl1', hg2, hg2', e1, w1, Nat.min_self, -List.length_flatMap]
          refine hN (k - 1) _ (by omega) ?_
          dsimp only [keepOnly_eq]
          refine ⟨i + 1, by omega, by simp -implicitDefEqProofs (disch := first | (refine NE.mk ?_; first | omega | assumption) | (refine LTn.mk ?_; omega) | (refine NFam.mk ?_; simp only [t0, t1, t12, t13, hi, hi2, c1, c2, hl1, hl1', hg2, hg2', e1, w1, updO_same, notFam_cells]; omega)) [t0, t1, t12, t13, hi, hi2, c1, c2, hl1, hl1', hg2, hg2', e1, w1, Nat.min_self, -List.length_flatMap], by simp -implicitDefEqProofs (disch := first | (refine NE.mk ?_; first | omega | assumption) | (refine LTn.mk ?_; omega) | (refine NFam.mk ?_; simp only [t0, t1, t12, t13, hi, hi2, c1, c2, hl1, hl1', hg2, hg2', e1, w1, updO_same, notFam_cells]; omega)) [t0, t1, t12, t13, hi, hi2, c1, c2, hl1, hl1', hg2, hg2', e1, w1, Nat.min_self, -List.length_flatMap], by simp -implicitDefEqProofs (disch := first | (refine NE.mk ?_; first | omega | assumption) | (refine LTn.mk ?_; omega) | (refine NFam.mk ?_; simp only [t0, t1, t12, t13, hi, hi2, c1, c2, hl1, hl1', hg2, hg2', e1, w1, updO_same, notFam_cells]; omega)) [t0, t1, t12, t13, hi, hi2, c1, c2, hl1, hl1', hg2, hg2', e1, w1, Nat.min_self, -List.length_flatMap], by simp -implicitDefEqProofs (disch := first | (refine NE.mk ?_; first | omega | assumption) | (refine LTn.mk ?_; omega) | (refine NFam.mk ?_; simp only [t0, t1, t12, t13, hi, hi2, c1, c2, hl1, hl1', hg2, hg2', e1, w1, updO_same, notFam_cells]; omega)) [t0, t1, t12, t13, hi, hi2, c1, c2, hl1, hl1', hg2, hg2', e1, w1, Nat.min_self, -List.length_flatMap], AH.le_mk (by omega) ho, ?_⟩
          rw [List.take_succ_eq_append_getElem hi2, List.take_succ_eq_append_getElem hi, hp, heq]
        · rename_i heq
          refine s25_24 ?_
          simp -implicitDefEqProofs (disch := first | (refine NE.mk ?_; first | omega | assumption) | (refine LTn.mk ?_; omega) | (refine NFam.mk ?_; simp only [t0, t1, t12, t13, hi, hi2, c1, c2, hl1, hl1', hg2, hg2', e1, w1, updO_same, notFam_cells]; omega)) [↓h25_25, t0, t1, t12, t13, hi, hi2, c1, c2, hl1, hl1', hg2, hg2', e1, w1, Nat.min_self, -List.length_flatMap]
          refine hR _ ?_
          (try simp -implicitDefEqProofs (disch := first | (refine NE.mk ?_; first | omega | assumption) | (refine LTn.mk ?_; omega) | (refine NFam.mk ?_; simp only [t0, t1, t12, t13, hi, hi2, c1, c2, hl1, hl1', hg2, hg2', e1, w1, updO_same, notFam_cells]; omega)) [t0, t1, t12, t13, hi, hi2, c1, c2, hl1, hl1', hg2, hg2', e1, w1, Nat.min_self, -List.length_flatMap])
          refine hQ _ _ _ (.inr rfl) rfl ⟨?_, (by (try dsimp only [keepOnly_eq]); omega), ho⟩
          have : l ≠ m := fun e => heq (by subst e; rfl)
          (try simp -implicitDefEqProofs (disch := first | (refine NE.mk ?_; first | omega | assumption) | (refine LTn.mk ?_; omega) | (refine NFam.mk ?_; simp only [t0, t1, t12, t13, hi, hi2, c1, c2, hl1, hl1', hg2, hg2', e1, w1, updO_same, notFam_cells]; omega)) [t0, t1, t12, t13, hi, hi2, c1, c2, hl1, hl1', hg2, hg2', e1, w1, Nat.min_self, -List.length_flatMap])
          simp [this]
      · skip
        rename_i hi
        refine hE 0 _ ?_
        (try simp -implicitDefEqProofs (disch := first | (refine NE.mk ?_; first | omega | assumption) | (refine LTn.mk ?_; omega) | (refine NFam.mk ?_; simp only [t0, t1, t12, t13, updO_same, notFam_cells]; omega)) [t0, t1, t12, t13, Nat.min_self, -List.length_flatMap])
        refine s25_27 ?_
        simp -implicitDefEqProofs (disch := first | (refine NE.mk ?_; first | omega | assumption) | (refine LTn.mk ?_; omega) | (refine NFam.mk ?_; simp only [t0, t1, t12, t13, updO_same, notFam_cells]; omega)) [↓h25_28, t0, t1, t12, t13, Nat.min_self, -List.length_flatMap]
        rw [List.take_of_length_le (by omega), List.take_of_length_le (by omega)] at hp
        refine hQ _ _ _ (.inr rfl) rfl ⟨?_, (by (try dsimp only [keepOnly_eq]); omega), ho⟩
        (try simp -implicitDefEqProofs (disch := first | (refine NE.mk ?_; first | omega | assumption) | (refine LTn.mk ?_; omega) | (refine NFam.mk ?_; simp only [t0, t1, t12, t13, updO_same, notFam_cells]; omega)) [t0, t1, t12, t13, Nat.min_self, -List.length_flatMap])
        simp [hp]
  · skip
    have hl' : ¬ (l.length : Int) = m.length := by omega
    (try simp -implicitDefEqProofs (disch := first | (refine NE.mk ?_; first | omega | assumption) | (refine LTn.mk ?_; omega) | (refine NFam.mk ?_; simp only [lenx, leny, hl', updO_same, notFam_cells]; omega)) [↓h25_4, lenx, leny, hl', Nat.min_self, -List.length_flatMap])
    refine s25_5 ?_
    (try simp -implicitDefEqProofs (disch := first | (refine NE.mk ?_; first | omega | assumption) | (refine LTn.mk ?_; omega) | (refine NFam.mk ?_; simp only [lenx, leny, hl', updO_same, notFam_cells]; omega)) [lenx, leny, hl', Nat.min_self, -List.length_flatMap])
    refine s25_6 ?_
    simp -implicitDefEqProofs (disch := first | (refine NE.mk ?_; first | omega | assumption) | (refine LTn.mk ?_; omega) | (refine NFam.mk ?_; simp only [lenx, leny, updO_same, notFam_cells]; omega)) [↓h25_7, lenx, leny, Nat.min_self, -List.length_flatMap]
    refine hQ _ _ _ (.inr rfl) rfl ⟨?_, (by (try dsimp only [keepOnly_eq]); omega), fun _ _ => rfl⟩
    have : l ≠ m := fun e => hl (by rw [e])
    (try simp -implicitDefEqProofs (disch := first | (refine NE.mk ?_; first | omega | assumption) | (refine LTn.mk ?_; omega) | (refine NFam.mk ?_; simp only [lenx, leny, updO_same, notFam_cells]; omega)) [lenx, leny, Nat.min_self, -List.length_flatMap])
    simp [this]
end Go.Proofs.Ytellgcahkpaldaa.Fn
