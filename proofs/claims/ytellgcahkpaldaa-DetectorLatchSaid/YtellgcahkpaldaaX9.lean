/- DetectorLatch, by the rules. Conditions: none. -/
import Derived.Test.YtellgcahkpaldaaX8
set_option linter.unusedVariables false
set_option linter.unusedSimpArgs false
namespace Go.Proofs.Ytellgcahkpaldaa.Fn
open Go Go.Am
set_option maxRecDepth 100000
set_option maxHeartbeats 1000000
theorem feed_in (k : Int) (h1 : 1 ≤ k) (h2 : k ≤ 9) : feedS ⟨2, 0, 0⟩ ⟨0, true, k, k⟩ = ⟨2, k, k⟩ := by
  have e : cleanS ⟨0, true, k, k⟩ = true := by simp [cleanS]; omega
  have e2 : soundS ⟨2, 0, 0⟩ = true := by simp [soundS]
  unfold feedS
  rw [if_pos ⟨e2, e⟩, if_neg (by simp; omega), if_neg (by simp)]
  simp
theorem feed_out (k : Int) (h1 : 1 ≤ k) (h2 : k ≤ 9) : feedS ⟨2, k, k⟩ ⟨0, false, k, k⟩ = ⟨0, 0, 0⟩ := by
  have e : cleanS ⟨0, false, k, k⟩ = true := by simp [cleanS]; omega
  have e2 : soundS ⟨2, k, k⟩ = true := by simp [soundS]; omega
  unfold feedS
  rw [if_pos ⟨e2, e⟩, if_neg (by simp), if_pos (by simp)]
theorem k8 (x : Cell) (l : List Int) (a b : Int) (h : AH) (v : View h.o h.nx x enI l) (hlen : l.length < 9223372036854775807) :
    wF fs out 8 [.v (.one x), .v (.one (.int .i64 a)), .v (.one (.int .i64 b))] h fun r h' => r = .v (.one (.bool true)) := by
  refine wF_fn fs8 rfl fun Q hQ => ?_
  refine s8_0 ?_
  simp -implicitDefEqProofs (disch := first | (refine NE.mk ?_; first | omega | assumption) | (refine LTn.mk ?_; omega) | (refine NFam.mk ?_; simp only [updO_same, notFam_cells]; omega)) [↓h8_1, Nat.min_self, -List.length_flatMap]
  refine s8_2 ?_
  simp -implicitDefEqProofs (disch := first | (refine NE.mk ?_; first | omega | assumption) | (refine LTn.mk ?_; omega) | (refine NFam.mk ?_; simp only [updO_same, notFam_cells]; omega)) [↓h8_3, ↓h8_3_1, ↓h8_3_2, ↓h8_3_3, Nat.min_self, -List.length_flatMap]
  refine wF_mono (k17 a 3 (by omega) (by omega) _) ?_
  rintro _ h1 ⟨rfl, hn1, ho1⟩
  (try dsimp only at hn1 ho1)
  (try simp -implicitDefEqProofs (disch := first | (refine NE.mk ?_; first | omega | assumption) | (refine LTn.mk ?_; omega) | (refine NFam.mk ?_; simp only [updO_same, notFam_cells]; omega)) [↓h8_3, ↓h8_3_1, ↓h8_3_2, ↓h8_3_3, Nat.min_self, -List.length_flatMap])
  refine wF_mono (k17 b 3 (by omega) (by omega) _) ?_
  rintro _ h2 ⟨rfl, hn2, ho2⟩
  have ha := pickN_range a (show 1 ≤ 3 by omega)
  have hb := pickN_range b (show 1 ≤ 3 by omega)
  have w1 := wrap64 (show -9223372036854775808 ≤ 1 + pickN a 3 by omega) (by omega)
  have w2 := wrap64 (show -9223372036854775808 ≤ 5 + pickN b 3 by omega) (by omega)
  (try simp -implicitDefEqProofs (disch := first | (refine NE.mk ?_; first | omega | assumption) | (refine LTn.mk ?_; omega) | (refine NFam.mk ?_; simp only [w1, w2, updO_same, notFam_cells]; omega)) [↓h8_3, ↓h8_3_1, ↓h8_3_2, ↓h8_3_3, w1, w2, Nat.min_self, -List.length_flatMap])
  refine wF_mono (k14 ⟨0, 0, 0⟩ ⟨0, true, 1 + pickN a 3, 5 + pickN b 3⟩ _) ?_
  rintro _ h3 ⟨rfl, hn3, ho3⟩
  rw [show feedS ⟨0, 0, 0⟩ ⟨0, true, 1 + pickN a 3, 5 + pickN b 3⟩ = ⟨1, 0, 0⟩ by simp [feedS, cleanS]; omega]
  (try simp -implicitDefEqProofs (disch := first | (refine NE.mk ?_; first | omega | assumption) | (refine LTn.mk ?_; omega) | (refine NFam.mk ?_; simp only [enC, updO_same, notFam_cells]; omega)) [↓h8_3, ↓h8_3_1, ↓h8_3_2, ↓h8_3_3, enC, Nat.min_self, -List.length_flatMap])
  obtain ⟨q, hq⟩ : ∃ q, q = h.nx + 1 + 9 := ⟨_, rfl⟩
  rw [← hq]
  have low3 : ∀ i, i < h.nx → h3.o i = h.o i := fun i hi => by rw [ho3 i (by omega), ho2 i (by omega), ho1 i (by omega)]
  refine s8_4 ?_
  (try simp -implicitDefEqProofs (disch := first | (refine NE.mk ?_; first | omega | assumption) | (refine LTn.mk ?_; omega) | (refine NFam.mk ?_; simp only [updO_same, notFam_cells]; omega)) [↓h8_5, ↓h8_5_1, Nat.min_self, -List.length_flatMap])
  refine wF_mono (k22 x l _ (v.keep (by (try dsimp only [keepOnly_eq]); omega) fun i hi => by simp -implicitDefEqProofs (disch := first | (refine NE.mk ?_; first | omega | assumption) | (refine LTn.mk ?_; omega) | (refine NFam.mk ?_; simp only [updO_same, notFam_cells]; omega)) [Nat.min_self, -List.length_flatMap]; exact low3 i hi) hlen) ?_
  rintro _ h4 ⟨y, lp, f1, rfl, O1, hl12, hr3, hn4, ho4⟩
  (try dsimp only at hn4 O1 ho4)
  have q4 : h4.o q = some (.cells q false 26 0 (enC ⟨1, 0, 0⟩)) := by rw [ho4 q (by omega)]; simp -implicitDefEqProofs (disch := first | (refine NE.mk ?_; first | omega | assumption) | (refine LTn.mk ?_; omega) | (refine NFam.mk ?_; simp only [enC, updO_same, notFam_cells]; omega)) [enC, Nat.min_self, -List.length_flatMap]
  have V1 := O1.view
  have leny := V1.lenV (fs := fs) (out := out)
  (try simp -implicitDefEqProofs (disch := first | (refine NE.mk ?_; first | omega | assumption) | (refine LTn.mk ?_; omega) | (refine NFam.mk ?_; simp only [leny, updO_same, notFam_cells]; omega)) [↓h8_5, ↓h8_5_1, leny, Nat.min_self, -List.length_flatMap])
  refine wC_cut (a := c8_7) (b := c8_27) (fun s => s.t 1 = .v (.one (.int .i64 a)) ∧ s.t 7 = .v (.one (.ptr q 0)) ∧ s.h.o q = some (.cells q false 26 0 (enC ⟨1, 0, 0⟩)) ∧ q < s.h.nx) ?_ ?_
  · intro Q1 g1 gX
    refine s8_7 ?_
    simp -implicitDefEqProofs (disch := first | (refine NE.mk ?_; first | omega | assumption) | (refine LTn.mk ?_; omega) | (refine NFam.mk ?_; simp only [leny, updO_same, notFam_cells]; omega)) [↓h8_8, leny, Nat.min_self, -List.length_flatMap]
    refine s8_9 ?_
    refine s8_10 (fun m s => ∃ i : Nat, i + m = lp.length ∧ s.t 1 = .v (.one (.int .i64 a)) ∧ s.t 7 = .v (.one (.ptr q 0)) ∧ s.t 25 = .v (.one y) ∧ s.t 26 = .v (.one (.int .i64 lp.length)) ∧ s.t 27 = .v (.one (.int .i64 i)) ∧ s.h.o q = some (.cells q false 26 0 (enC ⟨1, 0, 0⟩)) ∧ h4.nx ≤ s.h.nx ∧ (∀ i, i < h4.nx → i ≠ q → s.h.o i = h4.o i)) lp.length ?_ ?_
    · exact ⟨0, by omega, by simp -implicitDefEqProofs (disch := first | (refine NE.mk ?_; first | omega | assumption) | (refine LTn.mk ?_; omega) | (refine NFam.mk ?_; simp only [leny, updO_same, notFam_cells]; omega)) [leny, Nat.min_self, -List.length_flatMap], by simp -implicitDefEqProofs (disch := first | (refine NE.mk ?_; first | omega | assumption) | (refine LTn.mk ?_; omega) | (refine NFam.mk ?_; simp only [leny, updO_same, notFam_cells]; omega)) [leny, Nat.min_self, -List.length_flatMap], by simp -implicitDefEqProofs (disch := first | (refine NE.mk ?_; first | omega | assumption) | (refine LTn.mk ?_; omega) | (refine NFam.mk ?_; simp only [leny, updO_same, notFam_cells]; omega)) [leny, Nat.min_self, -List.length_flatMap], by simp -implicitDefEqProofs (disch := first | (refine NE.mk ?_; first | omega | assumption) | (refine LTn.mk ?_; omega) | (refine NFam.mk ?_; simp only [leny, updO_same, notFam_cells]; omega)) [leny, Nat.min_self, -List.length_flatMap], by simp -implicitDefEqProofs (disch := first | (refine NE.mk ?_; first | omega | assumption) | (refine LTn.mk ?_; omega) | (refine NFam.mk ?_; simp only [leny, updO_same, notFam_cells]; omega)) [leny, Nat.min_self, -List.length_flatMap], q4, (by (try dsimp only [keepOnly_eq]); omega), fun _ _ _ => rfl⟩
    · rintro m s Q2 ⟨i, hm, t1, t7, t25, t26, t27, hoq, hqn, ho⟩ hN hE hR
      refine s8_11 ?_
      simp -implicitDefEqProofs (disch := first | (refine NE.mk ?_; first | omega | assumption) | (refine LTn.mk ?_; omega) | (refine NFam.mk ?_; simp only [t1, t7, t25, t26, t27, updO_same, notFam_cells]; omega)) [↓h8_12, t1, t7, t25, t26, t27, Nat.min_self, -List.length_flatMap]
      refine s8_13 ?_
      simp -implicitDefEqProofs (disch := first | (refine NE.mk ?_; first | omega | assumption) | (refine LTn.mk ?_; omega) | (refine NFam.mk ?_; simp only [t1, t7, t25, t26, t27, updO_same, notFam_cells]; omega)) [t1, t7, t25, t26, t27, Nat.min_self, -List.length_flatMap]
      split
      · rename_i hi
        have hi0 := hi
        rcases O1 with ⟨_, rfl⟩ | ⟨j0, rfl, hj0, hj1, hj2, hj3⟩
        · simp at hi
        · obtain ⟨j, f, ro, e, w, cs, hjj, hj, hcs, hl1, hg1, hg2, hg3⟩ := V1.get enP_len hi
          cases hjj
          have hcs' := (ho j0 hj (by omega)).trans hcs
          obtain ⟨p, hpe⟩ : ∃ p, p = lp[i] := ⟨_, rfl⟩
          rw [← hpe] at hg2 hg1 hg3
          have w1 := wrap64 (show -9223372036854775808 ≤ (i : Int) + 1 by omega) (by omega)
          refine s8_15 ?_
          refine s8_16 ?_
          refine s8_17 ?_
          simp -implicitDefEqProofs (disch := first | (refine NE.mk ?_; first | omega | assumption) | (refine LTn.mk ?_; omega) | (refine NFam.mk ?_; simp only [t1, t7, t25, t26, t27, hi, w1, hoq, hl1, hcs', hg2, enP, enC, updO_same, notFam_cells]; omega)) [↓h8_18, t1, t7, t25, t26, t27, hi, w1, hoq, hl1, hcs', hg2, enP, enC, Nat.min_self, -List.length_flatMap]
          refine s8_19 ?_
          simp -implicitDefEqProofs (disch := first | (refine NE.mk ?_; first | omega | assumption) | (refine LTn.mk ?_; omega) | (refine NFam.mk ?_; simp only [t1, t7, t25, t26, t27, hi, w1, hoq, hl1, hcs', hg2, enP, enC, updO_same, notFam_cells]; omega)) [↓h8_20, ↓h8_20_1, t1, t7, t25, t26, t27, hi, w1, hoq, hl1, hcs', hg2, enP, enC, Nat.min_self, -List.length_flatMap]
          refine wF_mono (k14 ⟨1, 0, 0⟩ p _) ?_
          rintro _ g ⟨rfl, hn5, ho5⟩
          rw [show feedS ⟨1, 0, 0⟩ p = ⟨1, 0, 0⟩ by simp [feedS, soundS]]
          (try dsimp only at hn5 ho5)
          have gq : g.o q = some (.cells q false 26 0 [.int .i64 1, .int .i64 0, .int .i64 0]) := by rw [ho5 q (by omega)]; simp -implicitDefEqProofs (disch := first | (refine NE.mk ?_; first | omega | assumption) | (refine LTn.mk ?_; omega) | (refine NFam.mk ?_; simp only [t1, t7, t25, t26, t27, hi, w1, hoq, hl1, hcs', hg2, enC, updO_same, notFam_cells]; omega)) [t1, t7, t25, t26, t27, hi, w1, hoq, hl1, hcs', hg2, enC, Nat.min_self, -List.length_flatMap]
          have glow : ∀ i, i < h4.nx → i ≠ q → g.o i = h4.o i := fun i hi hiq => by rw [ho5 i (by omega)]; simp -implicitDefEqProofs (disch := first | (refine NE.mk ?_; first | omega | assumption) | (refine LTn.mk ?_; omega) | (refine NFam.mk ?_; simp only [t1, t7, t25, t26, t27, hi, w1, hoq, hl1, hcs', hg2, updO_same, notFam_cells]; omega)) [t1, t7, t25, t26, t27, hi, w1, hoq, hl1, hcs', hg2, Nat.min_self, -List.length_flatMap]; exact ho i hi hiq
          (try simp -implicitDefEqProofs (disch := first | (refine NE.mk ?_; first | omega | assumption) | (refine LTn.mk ?_; omega) | (refine NFam.mk ?_; simp only [t1, t7, t25, t26, t27, w1, gq, enC, updO_same, notFam_cells]; omega)) [↓h8_20, ↓h8_20_1, t1, t7, t25, t26, t27, w1, gq, enC, Nat.min_self, -List.length_flatMap])
          refine s8_21 ?_
          (try simp -implicitDefEqProofs (disch := first | (refine NE.mk ?_; first | omega | assumption) | (refine LTn.mk ?_; omega) | (refine NFam.mk ?_; simp only [t1, t7, t25, t26, t27, w1, gq, updO_same, notFam_cells]; omega)) [↓h8_22, ↓h8_22_1, ↓w8_22_2, ↓h8_22_2g, ↓h8_22_3, t1, t7, t25, t26, t27, w1, gq, Nat.min_self, -List.length_flatMap])
          refine wF_mono (k15 ⟨1, 0, 0⟩ _) ?_
          rintro _ g2 ⟨rfl, hn6, ho6⟩
          (try dsimp only at hn6 ho6)
          have g2q : g2.o q = some (.cells q false 26 0 [.int .i64 1, .int .i64 0, .int .i64 0]) := by rw [ho6 q (by omega)]; simp -implicitDefEqProofs (disch := first | (refine NE.mk ?_; first | omega | assumption) | (refine LTn.mk ?_; omega) | (refine NFam.mk ?_; simp only [t1, t7, t25, t26, t27, w1, gq, updO_same, notFam_cells]; omega)) [t1, t7, t25, t26, t27, w1, gq, Nat.min_self, -List.length_flatMap]
          have g2low : ∀ i, i < h4.nx → i ≠ q → g2.o i = h4.o i := fun i hi hiq => by rw [ho6 i (by omega)]; simp -implicitDefEqProofs (disch := first | (refine NE.mk ?_; first | omega | assumption) | (refine LTn.mk ?_; omega) | (refine NFam.mk ?_; simp only [t1, t7, t25, t26, t27, w1, gq, updO_same, notFam_cells]; omega)) [t1, t7, t25, t26, t27, w1, gq, Nat.min_self, -List.length_flatMap]; exact glow i hi hiq
          (try simp -implicitDefEqProofs (disch := first | (refine NE.mk ?_; first | omega | assumption) | (refine LTn.mk ?_; omega) | (refine NFam.mk ?_; simp only [t1, t7, t25, t26, t27, w1, g2q, reportS, soundS, updO_same, notFam_cells]; omega)) [↓h8_22, ↓h8_22_1, ↓w8_22_2, ↓h8_22_2g, ↓h8_22_3, t1, t7, t25, t26, t27, w1, g2q, reportS, soundS, Nat.min_self, -List.length_flatMap])
          refine s8_23 ?_
          (try simp -implicitDefEqProofs (disch := first | (refine NE.mk ?_; first | omega | assumption) | (refine LTn.mk ?_; omega) | (refine NFam.mk ?_; simp only [t1, t7, t25, t26, t27, w1, g2q, updO_same, notFam_cells]; omega)) [t1, t7, t25, t26, t27, w1, g2q, Nat.min_self, -List.length_flatMap])
          refine s8_26 ?_
          simp -implicitDefEqProofs (disch := first | (refine NE.mk ?_; first | omega | assumption) | (refine LTn.mk ?_; omega) | (refine NFam.mk ?_; simp only [t1, t7, t25, t26, t27, w1, g2q, updO_same, notFam_cells]; omega)) [↓h8_26, t1, t7, t25, t26, t27, w1, g2q, Nat.min_self, -List.length_flatMap]
          refine hN (m - 1) _ (by omega) ?_
          dsimp only [keepOnly_eq]
          exact ⟨i + 1, by omega, by simp -implicitDefEqProofs (disch := first | (refine NE.mk ?_; first | omega | assumption) | (refine LTn.mk ?_; omega) | (refine NFam.mk ?_; simp only [t1, t7, t25, t26, t27, w1, g2q, updO_same, notFam_cells]; omega)) [t1, t7, t25, t26, t27, w1, g2q, Nat.min_self, -List.length_flatMap], by simp -implicitDefEqProofs (disch := first | (refine NE.mk ?_; first | omega | assumption) | (refine LTn.mk ?_; omega) | (refine NFam.mk ?_; simp only [t1, t7, t25, t26, t27, w1, g2q, updO_same, notFam_cells]; omega)) [t1, t7, t25, t26, t27, w1, g2q, Nat.min_self, -List.length_flatMap], by simp -implicitDefEqProofs (disch := first | (refine NE.mk ?_; first | omega | assumption) | (refine LTn.mk ?_; omega) | (refine NFam.mk ?_; simp only [t1, t7, t25, t26, t27, w1, g2q, updO_same, notFam_cells]; omega)) [t1, t7, t25, t26, t27, w1, g2q, Nat.min_self, -List.length_flatMap], by simp -implicitDefEqProofs (disch := first | (refine NE.mk ?_; first | omega | assumption) | (refine LTn.mk ?_; omega) | (refine NFam.mk ?_; simp only [t1, t7, t25, t26, t27, w1, g2q, updO_same, notFam_cells]; omega)) [t1, t7, t25, t26, t27, w1, g2q, Nat.min_self, -List.length_flatMap], by simp -implicitDefEqProofs (disch := first | (refine NE.mk ?_; first | omega | assumption) | (refine LTn.mk ?_; omega) | (refine NFam.mk ?_; simp only [t1, t7, t25, t26, t27, w1, g2q, updO_same, notFam_cells]; omega)) [t1, t7, t25, t26, t27, w1, g2q, Nat.min_self, -List.length_flatMap], g2q, (by (try dsimp only [keepOnly_eq]); omega), g2low⟩
      · skip
        rename_i hi
        refine hE 0 _ ?_
        (try simp -implicitDefEqProofs (disch := first | (refine NE.mk ?_; first | omega | assumption) | (refine LTn.mk ?_; omega) | (refine NFam.mk ?_; simp only [t1, t7, t25, t26, t27, updO_same, notFam_cells]; omega)) [t1, t7, t25, t26, t27, Nat.min_self, -List.length_flatMap])
        exact g1 _ ⟨by simp -implicitDefEqProofs (disch := first | (refine NE.mk ?_; first | omega | assumption) | (refine LTn.mk ?_; omega) | (refine NFam.mk ?_; simp only [t1, t7, t25, t26, t27, updO_same, notFam_cells]; omega)) [t1, t7, t25, t26, t27, Nat.min_self, -List.length_flatMap], by simp -implicitDefEqProofs (disch := first | (refine NE.mk ?_; first | omega | assumption) | (refine LTn.mk ?_; omega) | (refine NFam.mk ?_; simp only [t1, t7, t25, t26, t27, updO_same, notFam_cells]; omega)) [t1, t7, t25, t26, t27, Nat.min_self, -List.length_flatMap], hoq, (by (try dsimp only [keepOnly_eq]); omega)⟩
  · rintro s ⟨t1, t7, hoq, hqn⟩
    refine s8_27 ?_
    simp -implicitDefEqProofs (disch := first | (refine NE.mk ?_; first | omega | assumption) | (refine LTn.mk ?_; omega) | (refine NFam.mk ?_; simp only [t1, t7, hoq, enC, updO_same, notFam_cells]; omega)) [↓h8_28, ↓h8_28_1, t1, t7, hoq, enC, Nat.min_self, -List.length_flatMap]
    refine wF_mono (k18 ⟨1, 0, 0⟩ _) ?_
    rintro _ h5 ⟨rfl, hn5, ho5⟩
    rw [show resetS ⟨1, 0, 0⟩ = ⟨2, 0, 0⟩ by simp [resetS, soundS]]
    (try dsimp only at hn5 ho5)
    have q5 := (ho5 q (by omega)).trans hoq
    (try simp -implicitDefEqProofs (disch := first | (refine NE.mk ?_; first | omega | assumption) | (refine LTn.mk ?_; omega) | (refine NFam.mk ?_; simp only [t1, t7, q5, enC, updO_same, notFam_cells]; omega)) [↓h8_28, ↓h8_28_1, t1, t7, q5, enC, Nat.min_self, -List.length_flatMap])
    refine s8_29 ?_
    simp -implicitDefEqProofs (disch := first | (refine NE.mk ?_; first | omega | assumption) | (refine LTn.mk ?_; omega) | (refine NFam.mk ?_; simp only [t1, t7, q5, updO_same, notFam_cells]; omega)) [↓h8_30, ↓h8_30_1, t1, t7, q5, Nat.min_self, -List.length_flatMap]
    refine wF_mono (k17 a 9 (by omega) (by omega) _) ?_
    rintro _ h6 ⟨rfl, hn6, ho6⟩
    (try dsimp only at hn6 ho6)
    have q6 : h6.o q = some (.cells q false 26 0 (enC ⟨2, 0, 0⟩)) := by rw [ho6 q (by omega)]; simp -implicitDefEqProofs (disch := first | (refine NE.mk ?_; first | omega | assumption) | (refine LTn.mk ?_; omega) | (refine NFam.mk ?_; simp only [t1, t7, q5, enC, updO_same, notFam_cells]; omega)) [t1, t7, q5, enC, Nat.min_self, -List.length_flatMap]
    have hk := pickN_range a (show 1 ≤ 9 by omega)
    have w3 := wrap64 (show -9223372036854775808 ≤ 1 + pickN a 9 by omega) (by omega)
    obtain ⟨k, hkk⟩ : ∃ k, k = 1 + pickN a 9 := ⟨_, rfl⟩
    rw [← hkk] at w3
    (try simp -implicitDefEqProofs (disch := first | (refine NE.mk ?_; first | omega | assumption) | (refine LTn.mk ?_; omega) | (refine NFam.mk ?_; simp only [t1, t7, q6, w3, enC, ← hkk, updO_same, notFam_cells]; omega)) [↓h8_30, ↓h8_30_1, t1, t7, q6, w3, enC, ← hkk, Nat.min_self, -List.length_flatMap])
    refine s8_31 ?_
    simp -implicitDefEqProofs (disch := first | (refine NE.mk ?_; first | omega | assumption) | (refine LTn.mk ?_; omega) | (refine NFam.mk ?_; simp only [t1, t7, q6, w3, enC, updO_same, notFam_cells]; omega)) [↓h8_32, ↓h8_32_1, t1, t7, q6, w3, enC, Nat.min_self, -List.length_flatMap]
    refine wF_mono (k14 ⟨2, 0, 0⟩ ⟨0, true, k, k⟩ _) ?_
    rintro _ h7 ⟨rfl, hn7, ho7⟩
    rw [feed_in k (by omega) (by omega)]
    (try dsimp only at hn7 ho7)
    have q7 : h7.o q = some (.cells q false 26 0 (enC ⟨2, 0, 0⟩)) := by rw [ho7 q (by omega)]; exact q6
    obtain ⟨d, hd⟩ : ∃ d, d = h6.nx + 5 := ⟨_, rfl⟩
    (try simp -implicitDefEqProofs (disch := first | (refine NE.mk ?_; first | omega | assumption) | (refine LTn.mk ?_; omega) | (refine NFam.mk ?_; simp only [t1, t7, q7, w3, enC, ← hd, updO_same, notFam_cells]; omega)) [↓h8_32, ↓h8_32_1, t1, t7, q7, w3, enC, ← hd, Nat.min_self, -List.length_flatMap])
    refine s8_33 ?_
    (try simp -implicitDefEqProofs (disch := first | (refine NE.mk ?_; first | omega | assumption) | (refine LTn.mk ?_; omega) | (refine NFam.mk ?_; simp only [t1, t7, q7, w3, enC, updO_same, notFam_cells]; omega)) [↓h8_34, ↓h8_34_1, t1, t7, q7, w3, enC, Nat.min_self, -List.length_flatMap])
    refine wF_mono (k14 ⟨2, k, k⟩ ⟨0, false, k, k⟩ _) ?_
    rintro _ h8 ⟨rfl, hn8, ho8⟩
    rw [feed_out k (by omega) (by omega)]
    (try dsimp only at hn8 ho8)
    have q8 : h8.o q = some (.cells q false 26 0 (enC ⟨2, 0, 0⟩)) := by rw [ho8 q (by omega)]; simp -implicitDefEqProofs (disch := first | (refine NE.mk ?_; first | omega | assumption) | (refine LTn.mk ?_; omega) | (refine NFam.mk ?_; simp only [t1, t7, q7, w3, enC, updO_same, notFam_cells]; omega)) [t1, t7, q7, w3, enC, Nat.min_self, -List.length_flatMap]
    have d8 : h8.o d = some (.cells d false 26 0 (enC ⟨2, k, k⟩)) := by rw [ho8 d (by omega)]; simp -implicitDefEqProofs (disch := first | (refine NE.mk ?_; first | omega | assumption) | (refine LTn.mk ?_; omega) | (refine NFam.mk ?_; simp only [t1, t7, q7, w3, enC, updO_same, notFam_cells]; omega)) [t1, t7, q7, w3, enC, Nat.min_self, -List.length_flatMap]
    obtain ⟨e, he⟩ : ∃ e, e = h7.nx + 5 := ⟨_, rfl⟩
    (try simp -implicitDefEqProofs (disch := first | (refine NE.mk ?_; first | omega | assumption) | (refine LTn.mk ?_; omega) | (refine NFam.mk ?_; simp only [t1, t7, q8, d8, w3, enC, ← he, updO_same, notFam_cells]; omega)) [↓h8_34, ↓h8_34_1, t1, t7, q8, d8, w3, enC, ← he, Nat.min_self, -List.length_flatMap])
    refine s8_35 ?_
    (try simp -implicitDefEqProofs (disch := first | (refine NE.mk ?_; first | omega | assumption) | (refine LTn.mk ?_; omega) | (refine NFam.mk ?_; simp only [t1, t7, q8, d8, w3, enC, updO_same, notFam_cells]; omega)) [↓h8_36, ↓h8_36_1, ↓w8_36_2, ↓h8_36_2g, ↓h8_36_3, ↓w8_36_4, ↓h8_36_4g, ↓h8_36_4g_1, ↓h8_36_5, ↓w8_36_6, ↓h8_36_6g, ↓h8_36_6g_1, ↓h8_36_7, ↓w8_36_8, ↓h8_36_8g, ↓h8_36_8g_1, ↓h8_36_9, t1, t7, q8, d8, w3, enC, Nat.min_self, -List.length_flatMap])
    refine wF_mono (k16 _) ?_
    rintro _ h9 ⟨rfl, rfl⟩
    (try simp -implicitDefEqProofs (disch := first | (refine NE.mk ?_; first | omega | assumption) | (refine LTn.mk ?_; omega) | (refine NFam.mk ?_; simp only [t1, t7, q8, d8, w3, enC, updO_same, notFam_cells]; omega)) [↓h8_36, ↓h8_36_1, ↓w8_36_2, ↓h8_36_2g, ↓h8_36_3, ↓w8_36_4, ↓h8_36_4g, ↓h8_36_4g_1, ↓h8_36_5, ↓w8_36_6, ↓h8_36_6g, ↓h8_36_6g_1, ↓h8_36_7, ↓w8_36_8, ↓h8_36_8g, ↓h8_36_8g_1, ↓h8_36_9, t1, t7, q8, d8, w3, enC, Nat.min_self, -List.length_flatMap])
    refine wF_mono (k15 ⟨2, 0, 0⟩ _) ?_
    rintro _ h10 ⟨rfl, hn10, ho10⟩
    rw [show reportS ⟨2, 0, 0⟩ = 2 by simp [reportS]]
    (try dsimp only at hn10 ho10)
    have d10 : h10.o d = some (.cells d false 26 0 (enC ⟨2, k, k⟩)) := by rw [ho10 d (by omega)]; simp -implicitDefEqProofs (disch := first | (refine NE.mk ?_; first | omega | assumption) | (refine LTn.mk ?_; omega) | (refine NFam.mk ?_; simp only [t1, t7, q8, d8, w3, enC, updO_same, notFam_cells]; omega)) [t1, t7, q8, d8, w3, enC, Nat.min_self, -List.length_flatMap]
    have e10 : h10.o e = some (.cells e false 26 0 (enC ⟨0, 0, 0⟩)) := by rw [ho10 e (by omega)]; simp -implicitDefEqProofs (disch := first | (refine NE.mk ?_; first | omega | assumption) | (refine LTn.mk ?_; omega) | (refine NFam.mk ?_; simp only [t1, t7, q8, d8, w3, enC, updO_same, notFam_cells]; omega)) [t1, t7, q8, d8, w3, enC, Nat.min_self, -List.length_flatMap]
    (try simp -implicitDefEqProofs (disch := first | (refine NE.mk ?_; first | omega | assumption) | (refine LTn.mk ?_; omega) | (refine NFam.mk ?_; simp only [t1, t7, d10, e10, enC, updO_same, notFam_cells]; omega)) [↓h8_36, ↓h8_36_1, ↓w8_36_2, ↓h8_36_2g, ↓h8_36_3, ↓w8_36_4, ↓h8_36_4g, ↓h8_36_4g_1, ↓h8_36_5, ↓w8_36_6, ↓h8_36_6g, ↓h8_36_6g_1, ↓h8_36_7, ↓w8_36_8, ↓h8_36_8g, ↓h8_36_8g_1, ↓h8_36_9, t1, t7, d10, e10, enC, Nat.min_self, -List.length_flatMap])
    refine wF_mono (k15 ⟨2, k, k⟩ _) ?_
    rintro _ h11 ⟨rfl, hn11, ho11⟩
    rw [show reportS ⟨2, k, k⟩ = 2 by simp [reportS]]
    have e11 : h11.o e = some (.cells e false 26 0 (enC ⟨0, 0, 0⟩)) := by rw [ho11 e (by omega)]; exact e10
    (try simp -implicitDefEqProofs (disch := first | (refine NE.mk ?_; first | omega | assumption) | (refine LTn.mk ?_; omega) | (refine NFam.mk ?_; simp only [t1, t7, e11, enC, updO_same, notFam_cells]; omega)) [↓h8_36, ↓h8_36_1, ↓w8_36_2, ↓h8_36_2g, ↓h8_36_3, ↓w8_36_4, ↓h8_36_4g, ↓h8_36_4g_1, ↓h8_36_5, ↓w8_36_6, ↓h8_36_6g, ↓h8_36_6g_1, ↓h8_36_7, ↓w8_36_8, ↓h8_36_8g, ↓h8_36_8g_1, ↓h8_36_9, t1, t7, e11, enC, Nat.min_self, -List.length_flatMap])
    refine wF_mono (k15 ⟨0, 0, 0⟩ _) ?_
    rintro _ h12 ⟨rfl, hn12, ho12⟩
    rw [show reportS ⟨0, 0, 0⟩ = 0 by simp [reportS, soundS]]
    (try simp -implicitDefEqProofs (disch := first | (refine NE.mk ?_; first | omega | assumption) | (refine LTn.mk ?_; omega) | (refine NFam.mk ?_; simp only [t1, t7, e11, enC, updO_same, notFam_cells]; omega)) [↓h8_36, ↓h8_36_1, ↓w8_36_2, ↓h8_36_2g, ↓h8_36_3, ↓w8_36_4, ↓h8_36_4g, ↓h8_36_4g_1, ↓h8_36_5, ↓w8_36_6, ↓h8_36_6g, ↓h8_36_6g_1, ↓h8_36_7, ↓w8_36_8, ↓h8_36_8g, ↓h8_36_8g_1, ↓h8_36_9, t1, t7, e11, enC, Nat.min_self, -List.length_flatMap])
    refine hQ _ _ _ (.inr rfl) rfl ?_
    (try simp -implicitDefEqProofs (disch := first | (refine NE.mk ?_; first | omega | assumption) | (refine LTn.mk ?_; omega) | (refine NFam.mk ?_; simp only [t1, t7, e11, enC, updO_same, notFam_cells]; omega)) [t1, t7, e11, enC, Nat.min_self, -List.length_flatMap])
end Go.Proofs.Ytellgcahkpaldaa.Fn
