/- DetectorRun, and the reference's report and reset. Conditions: none. -/
import Derived.Test.YtellgcahkpaldaaX7
set_option linter.unusedVariables false
set_option linter.unusedSimpArgs false
namespace Go.Proofs.Ytellgcahkpaldaa.Fn
open Go Go.Am
set_option maxRecDepth 100000
set_option maxHeartbeats 1000000
theorem k16 (h : AH) : wF fs out 16 [] h fun r h' => r = .v (.one (.bool true)) ∧ h' = h := wF_out rfl (out16 h)
theorem k20 (c : Cnt) (h : AH) : wF fs out 20 [.v (.agg (enC c))] h fun r h' => r = .v (.one (.int .i64 (reportS c))) ∧ h.le h' := by
  refine wF_fn fs20 rfl fun Q hQ => ?_
  refine s20_0 ?_
  simp -implicitDefEqProofs (disch := first | (refine NE.mk ?_; first | omega | assumption) | (refine LTn.mk ?_; omega) | (refine NFam.mk ?_; simp only [enC, updO_same, notFam_cells]; omega)) [↓h20_1, enC, Nat.min_self, -List.length_flatMap]
  refine s20_2 ?_
  refine s20_3 ?_
  by_cases h0 : c.s = 0
  · (try simp -implicitDefEqProofs (disch := first | (refine NE.mk ?_; first | omega | assumption) | (refine LTn.mk ?_; omega) | (refine NFam.mk ?_; simp only [h0, updO_same, notFam_cells]; omega)) [↓h20_4, ↓w20_4_1, ↓h20_4_1g, ↓h20_4_1g_1, ↓h20_4_2, h0, Nat.min_self, -List.length_flatMap])
    refine wF_mono (k28 ⟨0, c.a, c.b⟩ _) ?_
    rintro _ h1 ⟨rfl, hn1, ho1⟩
    rw [show (⟨0, c.a, c.b⟩ : Cnt) = c by rw [← h0]]
    (try dsimp only at hn1 ho1)
    have p0 : h1.o h.nx = some (.cells h.nx false 26 0 [.int .i64 c.s, .int .i64 c.a, .int .i64 c.b]) := by rw [ho1 _ (by omega)]; simp -implicitDefEqProofs (disch := first | (refine NE.mk ?_; first | omega | assumption) | (refine LTn.mk ?_; omega) | (refine NFam.mk ?_; simp only [h0, updO_same, notFam_cells]; omega)) [h0, Nat.min_self, -List.length_flatMap]
    have low1 : ∀ i, i < h.nx → h1.o i = h.o i := fun i hi => by rw [ho1 i (by omega)]; simp -implicitDefEqProofs (disch := first | (refine NE.mk ?_; first | omega | assumption) | (refine LTn.mk ?_; omega) | (refine NFam.mk ?_; simp only [updO_same, notFam_cells]; omega)) [Nat.min_self, -List.length_flatMap]
    (try simp -implicitDefEqProofs (disch := first | (refine NE.mk ?_; first | omega | assumption) | (refine LTn.mk ?_; omega) | (refine NFam.mk ?_; simp only [p0, updO_same, notFam_cells]; omega)) [↓h20_4, ↓w20_4_1, ↓h20_4_1g, ↓h20_4_1g_1, ↓h20_4_2, p0, Nat.min_self, -List.length_flatMap])
    refine s20_5 ?_
    cases hs : soundS c with
    | false =>
      (try simp -implicitDefEqProofs (disch := first | (refine NE.mk ?_; first | omega | assumption) | (refine LTn.mk ?_; omega) | (refine NFam.mk ?_; simp only [p0, updO_same, notFam_cells]; omega)) [p0, Nat.min_self, -List.length_flatMap])
      refine s20_6 ?_
      simp -implicitDefEqProofs (disch := first | (refine NE.mk ?_; first | omega | assumption) | (refine LTn.mk ?_; omega) | (refine NFam.mk ?_; simp only [p0, updO_same, notFam_cells]; omega)) [↓h20_7, p0, Nat.min_self, -List.length_flatMap]
      exact hQ _ _ _ (.inr rfl) rfl ⟨by simp [reportS, hs], (by (try dsimp only [keepOnly_eq]); omega), low1⟩
    | true =>
      have hs1 : (c.s = 0 ∨ c.s = 2) ∧ c.a = c.b ∧ 0 ≤ c.a ∧ c.a ≤ 1600 := by simpa [soundS, and_assoc] using hs
      (try simp -implicitDefEqProofs (disch := first | (refine NE.mk ?_; first | omega | assumption) | (refine LTn.mk ?_; omega) | (refine NFam.mk ?_; simp only [p0, updO_same, notFam_cells]; omega)) [p0, Nat.min_self, -List.length_flatMap])
      refine s20_8 ?_
      refine s20_9 ?_
      simp -implicitDefEqProofs (disch := first | (refine NE.mk ?_; first | omega | assumption) | (refine LTn.mk ?_; omega) | (refine NFam.mk ?_; simp only [p0, updO_same, notFam_cells]; omega)) [↓h20_10, p0, Nat.min_self, -List.length_flatMap]
      refine s20_11 ?_
      simp -implicitDefEqProofs (disch := first | (refine NE.mk ?_; first | omega | assumption) | (refine LTn.mk ?_; omega) | (refine NFam.mk ?_; simp only [p0, updO_same, notFam_cells]; omega)) [p0, Nat.min_self, -List.length_flatMap]
      split
      · rename_i ha
        refine s20_12 ?_
        simp -implicitDefEqProofs (disch := first | (refine NE.mk ?_; first | omega | assumption) | (refine LTn.mk ?_; omega) | (refine NFam.mk ?_; simp only [p0, updO_same, notFam_cells]; omega)) [↓h20_13, p0, Nat.min_self, -List.length_flatMap]
        exact hQ _ _ _ (.inr rfl) rfl ⟨by simp [reportS, hs, h0, ha], (by (try dsimp only [keepOnly_eq]); omega), low1⟩
      · rename_i ha
        refine s20_14 ?_
        simp -implicitDefEqProofs (disch := first | (refine NE.mk ?_; first | omega | assumption) | (refine LTn.mk ?_; omega) | (refine NFam.mk ?_; simp only [p0, updO_same, notFam_cells]; omega)) [↓h20_15, p0, Nat.min_self, -List.length_flatMap]
        exact hQ _ _ _ (.inr rfl) rfl ⟨by simp [reportS, hs, h0, show 0 < c.a by omega], (by (try dsimp only [keepOnly_eq]); omega), low1⟩
  · skip
    (try simp -implicitDefEqProofs (disch := first | (refine NE.mk ?_; first | omega | assumption) | (refine LTn.mk ?_; omega) | (refine NFam.mk ?_; simp only [h0, updO_same, notFam_cells]; omega)) [↓h20_4, ↓w20_4_1, ↓h20_4_1g, ↓h20_4_1g_1, ↓h20_4_2, h0, Nat.min_self, -List.length_flatMap])
    refine s20_5 ?_
    (try simp -implicitDefEqProofs (disch := first | (refine NE.mk ?_; first | omega | assumption) | (refine LTn.mk ?_; omega) | (refine NFam.mk ?_; simp only [h0, updO_same, notFam_cells]; omega)) [h0, Nat.min_self, -List.length_flatMap])
    refine s20_6 ?_
    simp -implicitDefEqProofs (disch := first | (refine NE.mk ?_; first | omega | assumption) | (refine LTn.mk ?_; omega) | (refine NFam.mk ?_; simp only [h0, updO_same, notFam_cells]; omega)) [↓h20_7, h0, Nat.min_self, -List.length_flatMap]
    exact hQ _ _ _ (.inr rfl) rfl ⟨by simp [reportS, h0], (by (try dsimp only [keepOnly_eq]); omega), fun i hi => by simp -implicitDefEqProofs (disch := first | (refine NE.mk ?_; first | omega | assumption) | (refine LTn.mk ?_; omega) | (refine NFam.mk ?_; simp only [h0, updO_same, notFam_cells]; omega)) [h0, Nat.min_self, -List.length_flatMap]⟩
theorem k21 (c : Cnt) (h : AH) : wF fs out 21 [.v (.agg (enC c))] h fun r h' => r = .v (.agg (enC (resetS c))) ∧ h.le h' := by
  refine wF_fn fs21 rfl fun Q hQ => ?_
  refine s21_0 ?_
  simp -implicitDefEqProofs (disch := first | (refine NE.mk ?_; first | omega | assumption) | (refine LTn.mk ?_; omega) | (refine NFam.mk ?_; simp only [enC, updO_same, notFam_cells]; omega)) [↓h21_1, enC, Nat.min_self, -List.length_flatMap]
  refine s21_2 ?_
  refine s21_3 ?_
  simp -implicitDefEqProofs (disch := first | (refine NE.mk ?_; first | omega | assumption) | (refine LTn.mk ?_; omega) | (refine NFam.mk ?_; simp only [enC, updO_same, notFam_cells]; omega)) [↓h21_4, ↓h21_4_1, enC, Nat.min_self, -List.length_flatMap]
  refine wF_mono (k28 c _) ?_
  rintro _ h1 ⟨rfl, hn1, ho1⟩
  (try dsimp only at hn1 ho1)
  have p0 : h1.o h.nx = some (.cells h.nx false 26 0 [.int .i64 c.s, .int .i64 c.a, .int .i64 c.b]) := by rw [ho1 _ (by omega)]; simp -implicitDefEqProofs (disch := first | (refine NE.mk ?_; first | omega | assumption) | (refine LTn.mk ?_; omega) | (refine NFam.mk ?_; simp only [updO_same, notFam_cells]; omega)) [Nat.min_self, -List.length_flatMap]
  have p1 : h1.o (h.nx + 1) = some (.cells (h.nx + 1) false 26 0 [.int .i64 0, .int .i64 0, .int .i64 0]) := by rw [ho1 _ (by omega)]; simp -implicitDefEqProofs (disch := first | (refine NE.mk ?_; first | omega | assumption) | (refine LTn.mk ?_; omega) | (refine NFam.mk ?_; simp only [updO_same, notFam_cells]; omega)) [Nat.min_self, -List.length_flatMap]
  have low1 : ∀ i, i < h.nx → h1.o i = h.o i := fun i hi => by rw [ho1 i (by omega)]; simp -implicitDefEqProofs (disch := first | (refine NE.mk ?_; first | omega | assumption) | (refine LTn.mk ?_; omega) | (refine NFam.mk ?_; simp only [updO_same, notFam_cells]; omega)) [Nat.min_self, -List.length_flatMap]
  cases hs : soundS c with
  | false =>
    (try simp -implicitDefEqProofs (disch := first | (refine NE.mk ?_; first | omega | assumption) | (refine LTn.mk ?_; omega) | (refine NFam.mk ?_; simp only [p0, p1, updO_same, notFam_cells]; omega)) [↓h21_4, ↓h21_4_1, p0, p1, Nat.min_self, -List.length_flatMap])
    refine s21_5 ?_
    (try simp -implicitDefEqProofs (disch := first | (refine NE.mk ?_; first | omega | assumption) | (refine LTn.mk ?_; omega) | (refine NFam.mk ?_; simp only [p0, p1, updO_same, notFam_cells]; omega)) [p0, p1, Nat.min_self, -List.length_flatMap])
    refine s21_6 ?_
    simp -implicitDefEqProofs (disch := first | (refine NE.mk ?_; first | omega | assumption) | (refine LTn.mk ?_; omega) | (refine NFam.mk ?_; simp only [p0, p1, updO_same, notFam_cells]; omega)) [↓h21_7, p0, p1, Nat.min_self, -List.length_flatMap]
    refine hQ _ _ _ (.inr rfl) (resc_box (f := h.nx + 1) (ro := false) (e := 26) (w := 0) (cs := enC ⟨2, 0, 0⟩) (by simp -implicitDefEqProofs (disch := first | (refine NE.mk ?_; first | omega | assumption) | (refine LTn.mk ?_; omega) | (refine NFam.mk ?_; simp only [p0, p1, updO_same, notFam_cells]; omega)) [p0, p1, Nat.min_self, -List.length_flatMap]; rfl) (by simp -implicitDefEqProofs (disch := first | (refine NE.mk ?_; first | omega | assumption) | (refine LTn.mk ?_; omega) | (refine NFam.mk ?_; simp only [p0, p1, enC, updO_same, notFam_cells]; omega)) [p0, p1, enC, Nat.min_self, -List.length_flatMap]) rfl) ⟨by simp [resetS, hs], (by (try dsimp only [keepOnly_eq]); omega), fun i hi => by simp -implicitDefEqProofs (disch := first | (refine NE.mk ?_; first | omega | assumption) | (refine LTn.mk ?_; omega) | (refine NFam.mk ?_; simp only [p0, p1, updO_same, notFam_cells]; omega)) [p0, p1, Nat.min_self, -List.length_flatMap]; exact low1 i hi⟩
  | true =>
    (try simp -implicitDefEqProofs (disch := first | (refine NE.mk ?_; first | omega | assumption) | (refine LTn.mk ?_; omega) | (refine NFam.mk ?_; simp only [p0, p1, updO_same, notFam_cells]; omega)) [↓h21_4, ↓h21_4_1, p0, p1, Nat.min_self, -List.length_flatMap])
    refine s21_5 ?_
    (try simp -implicitDefEqProofs (disch := first | (refine NE.mk ?_; first | omega | assumption) | (refine LTn.mk ?_; omega) | (refine NFam.mk ?_; simp only [p0, p1, updO_same, notFam_cells]; omega)) [p0, p1, Nat.min_self, -List.length_flatMap])
    refine s21_8 ?_
    simp -implicitDefEqProofs (disch := first | (refine NE.mk ?_; first | omega | assumption) | (refine LTn.mk ?_; omega) | (refine NFam.mk ?_; simp only [p0, p1, updO_same, notFam_cells]; omega)) [↓h21_9, p0, p1, Nat.min_self, -List.length_flatMap]
    refine hQ _ _ _ (.inr rfl) (resc_box (f := h.nx + 1) (ro := false) (e := 26) (w := 0) (cs := enC c) (by simp -implicitDefEqProofs (disch := first | (refine NE.mk ?_; first | omega | assumption) | (refine LTn.mk ?_; omega) | (refine NFam.mk ?_; simp only [p0, p1, updO_same, notFam_cells]; omega)) [p0, p1, Nat.min_self, -List.length_flatMap]; rfl) (by simp -implicitDefEqProofs (disch := first | (refine NE.mk ?_; first | omega | assumption) | (refine LTn.mk ?_; omega) | (refine NFam.mk ?_; simp only [p0, p1, enC, updO_same, notFam_cells]; omega)) [p0, p1, enC, Nat.min_self, -List.length_flatMap]) rfl) ⟨by simp [resetS, hs], (by (try dsimp only [keepOnly_eq]); omega), fun i hi => by simp -implicitDefEqProofs (disch := first | (refine NE.mk ?_; first | omega | assumption) | (refine LTn.mk ?_; omega) | (refine NFam.mk ?_; simp only [p0, p1, updO_same, notFam_cells]; omega)) [p0, p1, Nat.min_self, -List.length_flatMap]; exact low1 i hi⟩
theorem k9 (x : Cell) (l : List Int) (h : AH) (v : View h.o h.nx x enI l) (hlen : l.length < 9223372036854775807) :
    wF fs out 9 [.v (.one x)] h fun r h' => r = .v (.one (.bool true)) := by
  refine wF_fn fs9 rfl fun Q hQ => ?_
  refine s9_0 ?_
  simp -implicitDefEqProofs (disch := first | (refine NE.mk ?_; first | omega | assumption) | (refine LTn.mk ?_; omega) | (refine NFam.mk ?_; simp only [updO_same, notFam_cells]; omega)) [↓h9_1, Nat.min_self, -List.length_flatMap]
  refine s9_2 ?_
  simp -implicitDefEqProofs (disch := first | (refine NE.mk ?_; first | omega | assumption) | (refine LTn.mk ?_; omega) | (refine NFam.mk ?_; simp only [updO_same, notFam_cells]; omega)) [↓h9_3, ↓h9_3_1, Nat.min_self, -List.length_flatMap]
  refine wF_mono (k22 x l _ (v.keep (by (try dsimp only [keepOnly_eq]); omega) fun _ _ => rfl) hlen) ?_
  rintro _ ⟨o1, q⟩ ⟨y, lp, f1, rfl, O1, hl12, hr3, hn1, ho1⟩
  (try dsimp only at hn1 O1 ho1)
  have V1 := O1.view
  have leny := V1.lenV (fs := fs) (out := out)
  (try simp -implicitDefEqProofs (disch := first | (refine NE.mk ?_; first | omega | assumption) | (refine LTn.mk ?_; omega) | (refine NFam.mk ?_; simp only [leny, updO_same, notFam_cells]; omega)) [↓h9_3, ↓h9_3_1, leny, Nat.min_self, -List.length_flatMap])
  refine s9_4 ?_
  simp -implicitDefEqProofs (disch := first | (refine NE.mk ?_; first | omega | assumption) | (refine LTn.mk ?_; omega) | (refine NFam.mk ?_; simp only [leny, updO_same, notFam_cells]; omega)) [↓h9_5, leny, Nat.min_self, -List.length_flatMap]
  refine s9_6 ?_
  refine s9_7 ?_
  simp -implicitDefEqProofs (disch := first | (refine NE.mk ?_; first | omega | assumption) | (refine LTn.mk ?_; omega) | (refine NFam.mk ?_; simp only [leny, updO_same, notFam_cells]; omega)) [↓h9_8, leny, Nat.min_self, -List.length_flatMap]
  refine s9_9 ?_
  rw [show ([.int .i64 0, .int .i64 0, .int .i64 0] : List Cell) = enC ⟨0, 0, 0⟩ from rfl, reps_rows]
  refine s9_10 (fun m s => ∃ i : Nat, i + m = lp.length ∧ s.t 3 = .v (.one y) ∧ s.t 4 = .v (.one (.slice q 0 3)) ∧ s.t 14 = .v (.one y) ∧ s.t 15 = .v (.one (.int .i64 lp.length)) ∧ s.t 16 = .v (.one (.int .i64 i)) ∧ s.h.o q = some (.cells q false 26 3 (((lp.take i).foldl stepR (List.replicate 3 (⟨0, 0, 0⟩ : Cnt))).flatMap enC)) ∧ q < s.h.nx ∧ (∀ i, i < q → s.h.o i = o1 i)) lp.length ?_ ?_
  · exact ⟨0, by omega, by simp -implicitDefEqProofs (disch := first | (refine NE.mk ?_; first | omega | assumption) | (refine LTn.mk ?_; omega) | (refine NFam.mk ?_; simp only [leny, updO_same, notFam_cells]; omega)) [leny, Nat.min_self, -List.length_flatMap], by simp -implicitDefEqProofs (disch := first | (refine NE.mk ?_; first | omega | assumption) | (refine LTn.mk ?_; omega) | (refine NFam.mk ?_; simp only [leny, updO_same, notFam_cells]; omega)) [leny, Nat.min_self, -List.length_flatMap], by simp -implicitDefEqProofs (disch := first | (refine NE.mk ?_; first | omega | assumption) | (refine LTn.mk ?_; omega) | (refine NFam.mk ?_; simp only [leny, updO_same, notFam_cells]; omega)) [leny, Nat.min_self, -List.length_flatMap], by simp -implicitDefEqProofs (disch := first | (refine NE.mk ?_; first | omega | assumption) | (refine LTn.mk ?_; omega) | (refine NFam.mk ?_; simp only [leny, updO_same, notFam_cells]; omega)) [leny, Nat.min_self, -List.length_flatMap], by simp -implicitDefEqProofs (disch := first | (refine NE.mk ?_; first | omega | assumption) | (refine LTn.mk ?_; omega) | (refine NFam.mk ?_; simp only [leny, updO_same, notFam_cells]; omega)) [leny, Nat.min_self, -List.length_flatMap], by simp -implicitDefEqProofs (disch := first | (refine NE.mk ?_; first | omega | assumption) | (refine LTn.mk ?_; omega) | (refine NFam.mk ?_; simp only [leny, updO_same, notFam_cells]; omega)) [leny, Nat.min_self, -List.length_flatMap], (by (try dsimp only [keepOnly_eq]); omega), fun i hi => by simp -implicitDefEqProofs (disch := first | (refine NE.mk ?_; first | omega | assumption) | (refine LTn.mk ?_; omega) | (refine NFam.mk ?_; simp only [leny, updO_same, notFam_cells]; omega)) [leny, Nat.min_self, -List.length_flatMap]⟩
  · rintro m s Q2 ⟨i, hm, t3, t4, t14, t15, t16, hoq, hqn, ho⟩ hN hE hR
    refine s9_11 ?_
    simp -implicitDefEqProofs (disch := first | (refine NE.mk ?_; first | omega | assumption) | (refine LTn.mk ?_; omega) | (refine NFam.mk ?_; simp only [t3, t4, t14, t15, t16, updO_same, notFam_cells]; omega)) [↓h9_12, t3, t4, t14, t15, t16, Nat.min_self, -List.length_flatMap]
    refine s9_13 ?_
    simp -implicitDefEqProofs (disch := first | (refine NE.mk ?_; first | omega | assumption) | (refine LTn.mk ?_; omega) | (refine NFam.mk ?_; simp only [t3, t4, t14, t15, t16, updO_same, notFam_cells]; omega)) [t3, t4, t14, t15, t16, Nat.min_self, -List.length_flatMap]
    split
    · rename_i hi
      obtain ⟨j, f, ro, e, w, cs, rfl, hj, hcs, hl1, hg1, hg2, hg3⟩ := V1.get enP_len hi
      have hcs' := (ho j hj).trans hcs
      obtain ⟨p, hpe⟩ : ∃ p, p = lp[i] := ⟨_, rfl⟩
      rw [← hpe] at hg2 hg1 hg3
      obtain ⟨r0, r1⟩ := hr3 p (by rw [hpe]; exact List.getElem_mem hi)
      have w1 := wrap64 (show -9223372036854775808 ≤ (i : Int) + 1 by omega) (by omega)
      obtain ⟨k, hk⟩ : ∃ k : Nat, p.r = k := ⟨p.r.toNat, by omega⟩
      obtain ⟨L, hL⟩ : ∃ L, L = (lp.take i).foldl stepR (List.replicate 3 (⟨0, 0, 0⟩ : Cnt)) := ⟨_, rfl⟩
      have hLN : L.length = 3 := by rw [hL, foldR_len]; simp
      rw [← hL] at hoq
      have hkN : k < 3 := by omega
      have hki : (k : Int) < 3 := by omega
      have hl3 : (L.flatMap enC).length = 9 := by rw [rows_len enC_len, hLN]
      have hk3 : k * 3 + 3 ≤ 9 := by omega
      have g1 := rows_get0 enC_len L (i := k) (by omega)
      refine s9_15 ?_
      refine s9_16 ?_
      refine s9_17 ?_
      simp -implicitDefEqProofs (disch := first | (refine NE.mk ?_; first | omega | assumption) | (refine LTn.mk ?_; omega) | (refine NFam.mk ?_; simp only [t3, t4, t14, t15, t16, hi, w1, hoq, hl3, hk3, g1, hkN, hki, hl1, hcs', hg2, hk, enP, updO_same, notFam_cells]; omega)) [↓h9_18, t3, t4, t14, t15, t16, hi, w1, hoq, hl3, hk3, g1, hkN, hki, hl1, hcs', hg2, hk, enP, Nat.min_self, -List.length_flatMap]
      refine s9_19 ?_
      simp -implicitDefEqProofs (disch := first | (refine NE.mk ?_; first | omega | assumption) | (refine LTn.mk ?_; omega) | (refine NFam.mk ?_; simp only [t3, t4, t14, t15, t16, hi, w1, hoq, hl3, hk3, g1, hkN, hki, hl1, hcs', hg2, hk, enP, updO_same, notFam_cells]; omega)) [↓h9_19, t3, t4, t14, t15, t16, hi, w1, hoq, hl3, hk3, g1, hkN, hki, hl1, hcs', hg2, hk, enP, Nat.min_self, -List.length_flatMap]
      have hpp : (⟨k, p.i, p.a, p.b⟩ : Pulse) = p := by rw [← hk]
      refine wF_mono (k14 L[k] ⟨k, p.i, p.a, p.b⟩ _) ?_
      rintro _ g ⟨rfl, hn4, ho4⟩
      rw [hpp]
      (try dsimp only at hn4 ho4)
      obtain ⟨b, hb⟩ : ∃ b, b = s.h.nx + 1 + 2 := ⟨_, rfl⟩
      rw [← hb] at ho4
      rw [← hb]
      have gq : g.o q = some (.cells q false 26 3 (L.flatMap enC)) := by rw [ho4 q (by omega)]; simp -implicitDefEqProofs (disch := first | (refine NE.mk ?_; first | omega | assumption) | (refine LTn.mk ?_; omega) | (refine NFam.mk ?_; simp only [t3, t4, t14, t15, t16, hi, w1, hoq, hl3, hk3, g1, hkN, hki, hl1, hcs', hg2, hk, updO_same, notFam_cells]; omega)) [t3, t4, t14, t15, t16, hi, w1, hoq, hl3, hk3, g1, hkN, hki, hl1, hcs', hg2, hk, Nat.min_self, -List.length_flatMap]
      have gb : g.o b = some (.cells b false 31 0 [.int .i64 k, .bool p.i, .int .i64 p.a, .int .i64 p.b]) := by rw [ho4 b (by omega)]; simp -implicitDefEqProofs (disch := first | (refine NE.mk ?_; first | omega | assumption) | (refine LTn.mk ?_; omega) | (refine NFam.mk ?_; simp only [t3, t4, t14, t15, t16, hi, w1, hoq, hl3, hk3, g1, hkN, hki, hl1, hcs', hg2, hk, updO_same, notFam_cells]; omega)) [t3, t4, t14, t15, t16, hi, w1, hoq, hl3, hk3, g1, hkN, hki, hl1, hcs', hg2, hk, Nat.min_self, -List.length_flatMap]
      have glow : ∀ i, i < q → g.o i = o1 i := fun i hi => by rw [ho4 i (by omega)]; simp -implicitDefEqProofs (disch := first | (refine NE.mk ?_; first | omega | assumption) | (refine LTn.mk ?_; omega) | (refine NFam.mk ?_; simp only [t3, t4, t14, t15, t16, hi, w1, hoq, hl3, hk3, g1, hkN, hki, hl1, hcs', hg2, hk, updO_same, notFam_cells]; omega)) [t3, t4, t14, t15, t16, hi, w1, hoq, hl3, hk3, g1, hkN, hki, hl1, hcs', hg2, hk, Nat.min_self, -List.length_flatMap]; exact ho i hi
      have e4 := rows_set0 enC_len L (i := k) (by omega) (feedS L[k] p)
      (try simp -implicitDefEqProofs (disch := first | (refine NE.mk ?_; first | omega | assumption) | (refine LTn.mk ?_; omega) | (refine NFam.mk ?_; simp only [t3, t4, t14, t15, t16, hi, w1, hl3, hk3, hkN, hki, hk, gq, gb, e4, enC_len, enC_solid, updO_same, notFam_cells]; omega)) [t3, t4, t14, t15, t16, hi, w1, hl3, hk3, hkN, hki, hk, gq, gb, e4, enC_len, enC_solid, Nat.min_self, -List.length_flatMap])
      refine ⟨hold_load (j := b) (o := 0) (f := b) (ro := false) (e := 31) (w := 0) (cs := [.int .i64 k, .bool p.i, .int .i64 p.a, .int .i64 p.b]) (c := .int .i64 k) (by simp -implicitDefEqProofs (disch := first | (refine NE.mk ?_; first | omega | assumption) | (refine LTn.mk ?_; omega) | (refine NFam.mk ?_; simp only [t3, t4, t14, t15, t16, hi, w1, hl3, hk3, hkN, hki, hk, gq, gb, e4, enC_len, enC_solid, updO_same, notFam_cells]; omega)) [t3, t4, t14, t15, t16, hi, w1, hl3, hk3, hkN, hki, hk, gq, gb, e4, enC_len, enC_solid, Nat.min_self, -List.length_flatMap]) (by simp -implicitDefEqProofs (disch := first | (refine NE.mk ?_; first | omega | assumption) | (refine LTn.mk ?_; omega) | (refine NFam.mk ?_; simp only [t3, t4, t14, t15, t16, hi, w1, hl3, hk3, hkN, hki, hk, gq, gb, e4, enC_len, enC_solid, updO_same, notFam_cells]; omega)) [t3, t4, t14, t15, t16, hi, w1, hl3, hk3, hkN, hki, hk, gq, gb, e4, enC_len, enC_solid, Nat.min_self, -List.length_flatMap]) (by simp -implicitDefEqProofs (disch := first | (refine NE.mk ?_; first | omega | assumption) | (refine LTn.mk ?_; omega) | (refine NFam.mk ?_; simp only [t3, t4, t14, t15, t16, hi, w1, hl3, hk3, hkN, hki, hk, gq, gb, e4, enC_len, enC_solid, updO_same, notFam_cells]; omega)) [t3, t4, t14, t15, t16, hi, w1, hl3, hk3, hkN, hki, hk, gq, gb, e4, enC_len, enC_solid, Nat.min_self, -List.length_flatMap]) rfl, ?_⟩
      (try simp -implicitDefEqProofs (disch := first | (refine NE.mk ?_; first | omega | assumption) | (refine LTn.mk ?_; omega) | (refine NFam.mk ?_; simp only [t3, t4, t14, t15, t16, hi, w1, hl3, hk3, hkN, hki, hk, gq, gb, e4, enC_len, enC_solid, updO_same, notFam_cells]; omega)) [↓h9_19h1, t3, t4, t14, t15, t16, hi, w1, hl3, hk3, hkN, hki, hk, gq, gb, e4, enC_len, enC_solid, Nat.min_self, -List.length_flatMap])
      refine s9_20 ?_
      simp -implicitDefEqProofs (disch := first | (refine NE.mk ?_; first | omega | assumption) | (refine LTn.mk ?_; omega) | (refine NFam.mk ?_; simp only [t3, t4, t14, t15, t16, hi, w1, hl3, hk3, hkN, hki, hk, gq, gb, e4, enC_len, enC_solid, updO_same, notFam_cells]; omega)) [↓h9_20, t3, t4, t14, t15, t16, hi, w1, hl3, hk3, hkN, hki, hk, gq, gb, e4, enC_len, enC_solid, Nat.min_self, -List.length_flatMap]
      have hnext : (lp.take (i + 1)).foldl stepR (List.replicate 3 (⟨0, 0, 0⟩ : Cnt)) = L.set k (feedS L[k] p) := by
        rw [List.take_succ_eq_append_getElem hi, List.foldl_append, ← hL, ← hpe]
        simp only [List.foldl_cons, List.foldl_nil, stepR, hk, Int.toNat_natCast, List.getD]
        rw [List.getElem?_eq_getElem (by omega)]; rfl
      refine hN (m - 1) _ (by omega) ?_
      dsimp only [keepOnly_eq]
      refine ⟨i + 1, by omega, by simp -implicitDefEqProofs (disch := first | (refine NE.mk ?_; first | omega | assumption) | (refine LTn.mk ?_; omega) | (refine NFam.mk ?_; simp only [t3, t4, t14, t15, t16, hi, w1, hl3, hk3, hkN, hki, hk, gq, gb, e4, enC_len, enC_solid, updO_same, notFam_cells]; omega)) [t3, t4, t14, t15, t16, hi, w1, hl3, hk3, hkN, hki, hk, gq, gb, e4, enC_len, enC_solid, Nat.min_self, -List.length_flatMap], by simp -implicitDefEqProofs (disch := first | (refine NE.mk ?_; first | omega | assumption) | (refine LTn.mk ?_; omega) | (refine NFam.mk ?_; simp only [t3, t4, t14, t15, t16, hi, w1, hl3, hk3, hkN, hki, hk, gq, gb, e4, enC_len, enC_solid, updO_same, notFam_cells]; omega)) [t3, t4, t14, t15, t16, hi, w1, hl3, hk3, hkN, hki, hk, gq, gb, e4, enC_len, enC_solid, Nat.min_self, -List.length_flatMap], by simp -implicitDefEqProofs (disch := first | (refine NE.mk ?_; first | omega | assumption) | (refine LTn.mk ?_; omega) | (refine NFam.mk ?_; simp only [t3, t4, t14, t15, t16, hi, w1, hl3, hk3, hkN, hki, hk, gq, gb, e4, enC_len, enC_solid, updO_same, notFam_cells]; omega)) [t3, t4, t14, t15, t16, hi, w1, hl3, hk3, hkN, hki, hk, gq, gb, e4, enC_len, enC_solid, Nat.min_self, -List.length_flatMap], by simp -implicitDefEqProofs (disch := first | (refine NE.mk ?_; first | omega | assumption) | (refine LTn.mk ?_; omega) | (refine NFam.mk ?_; simp only [t3, t4, t14, t15, t16, hi, w1, hl3, hk3, hkN, hki, hk, gq, gb, e4, enC_len, enC_solid, updO_same, notFam_cells]; omega)) [t3, t4, t14, t15, t16, hi, w1, hl3, hk3, hkN, hki, hk, gq, gb, e4, enC_len, enC_solid, Nat.min_self, -List.length_flatMap], by simp -implicitDefEqProofs (disch := first | (refine NE.mk ?_; first | omega | assumption) | (refine LTn.mk ?_; omega) | (refine NFam.mk ?_; simp only [t3, t4, t14, t15, t16, hi, w1, hl3, hk3, hkN, hki, hk, gq, gb, e4, enC_len, enC_solid, updO_same, notFam_cells]; omega)) [t3, t4, t14, t15, t16, hi, w1, hl3, hk3, hkN, hki, hk, gq, gb, e4, enC_len, enC_solid, Nat.min_self, -List.length_flatMap], by rw [hnext]; simp -implicitDefEqProofs (disch := first | (refine NE.mk ?_; first | omega | assumption) | (refine LTn.mk ?_; omega) | (refine NFam.mk ?_; simp only [t3, t4, t14, t15, t16, hi, w1, hl3, hk3, hkN, hki, hk, gq, gb, e4, enC_len, enC_solid, updO_same, notFam_cells]; omega)) [t3, t4, t14, t15, t16, hi, w1, hl3, hk3, hkN, hki, hk, gq, gb, e4, enC_len, enC_solid, Nat.min_self, -List.length_flatMap], (by (try dsimp only [keepOnly_eq]); omega), fun k hk => ?_⟩
      (try simp -implicitDefEqProofs (disch := first | (refine NE.mk ?_; first | omega | assumption) | (refine LTn.mk ?_; omega) | (refine NFam.mk ?_; simp only [t3, t4, t14, t15, t16, hi, w1, hl3, hk3, hkN, hki, hk, gq, gb, e4, enC_len, enC_solid, updO_same, notFam_cells]; omega)) [t3, t4, t14, t15, t16, hi, w1, hl3, hk3, hkN, hki, hk, gq, gb, e4, enC_len, enC_solid, Nat.min_self, -List.length_flatMap])
      exact glow k hk
    · skip
      rename_i hi
      refine hE 0 _ ?_
      (try simp -implicitDefEqProofs (disch := first | (refine NE.mk ?_; first | omega | assumption) | (refine LTn.mk ?_; omega) | (refine NFam.mk ?_; simp only [t3, t4, t14, t15, t16, updO_same, notFam_cells]; omega)) [t3, t4, t14, t15, t16, Nat.min_self, -List.length_flatMap])
      have hfin : (lp.take i).foldl stepR (List.replicate 3 (⟨0, 0, 0⟩ : Cnt)) = runL 3 lp := by
        rw [List.take_of_length_le (by omega)]; rfl
      rw [hfin] at hoq
      have hfl : (runL 3 lp).length = 3 := by unfold runL; rw [foldR_len]; simp
      have hg : goodR 3 lp := ⟨by omega, by omega, fun p hp => hr3 p hp⟩
      refine s9_21 ?_
      simp -implicitDefEqProofs (disch := first | (refine NE.mk ?_; first | omega | assumption) | (refine LTn.mk ?_; omega) | (refine NFam.mk ?_; simp only [t3, t4, t14, t15, t16, updO_same, notFam_cells]; omega)) [↓h9_22, ↓h9_22_1, t3, t4, t14, t15, t16, Nat.min_self, -List.length_flatMap]
      have VY : View s.h.o s.h.nx y enP lp := V1.keep (by omega) ho
      have VQ : View s.h.o s.h.nx (.slice q 0 3) enC (runL 3 lp) := .inr ⟨q, q, false, 26, 3, [], by rw [hfl], hqn, by rw [List.append_nil]; exact hoq⟩
      refine wF_mono (k23 3 y lp _ (VY.keep (by (try dsimp only [keepOnly_eq]); omega) fun _ _ => rfl) (by omega)) ?_
      rintro _ h2 ⟨⟨_, y2, f2, rfl, O2⟩ | ⟨hb, _⟩, hn2, ho2⟩
      · (try dsimp only at hn2 O2 ho2)
        have VY2 : View h2.o h2.nx y enP lp := VY.keep (by omega) fun i hi => ho2 i (by omega)
        have VQ2 : View h2.o h2.nx (.slice q 0 3) enC (runL 3 lp) := VQ.keep (by omega) fun i hi => ho2 i (by omega)
        have V2 := O2.view
        (try simp -implicitDefEqProofs (disch := first | (refine NE.mk ?_; first | omega | assumption) | (refine LTn.mk ?_; omega) | (refine NFam.mk ?_; simp only [t3, t4, t14, t15, t16, updO_same, notFam_cells]; omega)) [↓h9_22, ↓h9_22_1, t3, t4, t14, t15, t16, Nat.min_self, -List.length_flatMap])
        refine s9_23 ?_
        simp -implicitDefEqProofs (disch := first | (refine NE.mk ?_; first | omega | assumption) | (refine LTn.mk ?_; omega) | (refine NFam.mk ?_; simp only [t3, t4, t14, t15, t16, updO_same, notFam_cells]; omega)) [↓h9_24, ↓h9_24_1, t3, t4, t14, t15, t16, Nat.min_self, -List.length_flatMap]
        refine wF_mono (k24 3 y lp _ (VY2.keep (by (try dsimp only [keepOnly_eq]); omega) fun _ _ => rfl) (by omega)) ?_
        rintro _ h3 ⟨⟨_, y3, f3, rfl, O3⟩ | ⟨hb, _⟩, hn3, ho3⟩
        · (try dsimp only at hn3 O3 ho3)
          have VQ3 : View h3.o h3.nx (.slice q 0 3) enC (runL 3 lp) := VQ2.keep (by omega) fun i hi => ho3 i (by omega)
          have V23 : View h3.o h3.nx y2 enC (runL 3 lp) := V2.keep (by omega) fun i hi => ho3 i (by omega)
          have V3 := O3.view
          (try simp -implicitDefEqProofs (disch := first | (refine NE.mk ?_; first | omega | assumption) | (refine LTn.mk ?_; omega) | (refine NFam.mk ?_; simp only [t3, t4, t14, t15, t16, updO_same, notFam_cells]; omega)) [↓h9_24, ↓h9_24_1, t3, t4, t14, t15, t16, Nat.min_self, -List.length_flatMap])
          refine s9_25 ?_
          (try simp -implicitDefEqProofs (disch := first | (refine NE.mk ?_; first | omega | assumption) | (refine LTn.mk ?_; omega) | (refine NFam.mk ?_; simp only [t3, t4, t14, t15, t16, updO_same, notFam_cells]; omega)) [↓h9_26, ↓h9_26_1, ↓w9_26_2, ↓h9_26_2g, ↓h9_26_3, ↓w9_26_4, ↓h9_26_4g, ↓h9_26_5, ↓w9_26_6, ↓h9_26_6g, ↓h9_26_7, ↓w9_26_8, ↓h9_26_8g, ↓h9_26_9, t3, t4, t14, t15, t16, Nat.min_self, -List.length_flatMap])
          refine wF_mono (k16 _) ?_
          rintro _ h4 ⟨rfl, rfl⟩
          (try simp -implicitDefEqProofs (disch := first | (refine NE.mk ?_; first | omega | assumption) | (refine LTn.mk ?_; omega) | (refine NFam.mk ?_; simp only [t3, t4, t14, t15, t16, updO_same, notFam_cells]; omega)) [↓h9_26, ↓h9_26_1, ↓w9_26_2, ↓h9_26_2g, ↓h9_26_3, ↓w9_26_4, ↓h9_26_4g, ↓h9_26_5, ↓w9_26_6, ↓h9_26_6g, ↓h9_26_7, ↓w9_26_8, ↓h9_26_8g, ↓h9_26_9, t3, t4, t14, t15, t16, Nat.min_self, -List.length_flatMap])
          refine wF_mono (k25 y2 (.slice q 0 3) _ _ _ (V23.keep (by (try dsimp only [keepOnly_eq]); omega) fun _ _ => rfl) (VQ3.keep (by (try dsimp only [keepOnly_eq]); omega) fun _ _ => rfl) (by omega)) ?_
          rintro _ h5 ⟨rfl, hn5, ho5⟩
          (try dsimp only at hn5 ho5)
          have V25 : View h5.o h5.nx y2 enC (runL 3 lp) := V23.keep (by omega) fun i hi => ho5 i (by omega)
          have V35 : View h5.o h5.nx y3 enC (runL 3 lp) := V3.keep (by omega) fun i hi => ho5 i (by omega)
          (try simp -implicitDefEqProofs (disch := first | (refine NE.mk ?_; first | omega | assumption) | (refine LTn.mk ?_; omega) | (refine NFam.mk ?_; simp only [t3, t4, t14, t15, t16, updO_same, notFam_cells]; omega)) [↓h9_26, ↓h9_26_1, ↓w9_26_2, ↓h9_26_2g, ↓h9_26_3, ↓w9_26_4, ↓h9_26_4g, ↓h9_26_5, ↓w9_26_6, ↓h9_26_6g, ↓h9_26_7, ↓w9_26_8, ↓h9_26_8g, ↓h9_26_9, t3, t4, t14, t15, t16, Nat.min_self, -List.length_flatMap])
          refine wF_mono (k25 y2 y3 _ _ _ V25 V35 (by omega)) ?_
          rintro _ h6 ⟨rfl, hn6, ho6⟩
          (try simp -implicitDefEqProofs (disch := first | (refine NE.mk ?_; first | omega | assumption) | (refine LTn.mk ?_; omega) | (refine NFam.mk ?_; simp only [t3, t4, t14, t15, t16, updO_same, notFam_cells]; omega)) [↓h9_26, ↓h9_26_1, ↓w9_26_2, ↓h9_26_2g, ↓h9_26_3, ↓w9_26_4, ↓h9_26_4g, ↓h9_26_5, ↓w9_26_6, ↓h9_26_6g, ↓h9_26_7, ↓w9_26_8, ↓h9_26_8g, ↓h9_26_9, t3, t4, t14, t15, t16, Nat.min_self, -List.length_flatMap])
          refine hQ _ _ _ (.inr rfl) rfl ?_
          (try simp -implicitDefEqProofs (disch := first | (refine NE.mk ?_; first | omega | assumption) | (refine LTn.mk ?_; omega) | (refine NFam.mk ?_; simp only [t3, t4, t14, t15, t16, updO_same, notFam_cells]; omega)) [t3, t4, t14, t15, t16, Nat.min_self, -List.length_flatMap])
        · exact absurd hg hb
      · exact absurd hg hb
end Go.Proofs.Ytellgcahkpaldaa.Fn
