/- Contracts: report and reset. Conditions: none. -/
import Derived.Test.YtellgcahkpaldaaX3
set_option linter.unusedVariables false
set_option linter.unusedSimpArgs false
namespace Go.Proofs.Ytellgcahkpaldaa.Fn
open Go Go.Am
set_option maxRecDepth 100000
set_option maxHeartbeats 1000000
def reportS (c : Cnt) : Int := if soundS c = false ∨ ¬ c.s = 0 then 2 else if c.a > 0 then 1 else 0
theorem k15 (c : Cnt) (h : AH) : wF fs out 15 [.v (.agg (enC c))] h fun r h' => r = .v (.one (.int .i64 (reportS c))) ∧ h.le h' := by
  refine wF_fn fs15 rfl fun Q hQ => ?_
  refine s15_0 ?_
  simp -implicitDefEqProofs (disch := first | (refine NE.mk ?_; first | omega | assumption) | (refine LTn.mk ?_; omega) | (refine NFam.mk ?_; simp only [enC, updO_same, notFam_cells]; omega)) [↓h15_1, enC, Nat.min_self, -List.length_flatMap]
  refine s15_2 ?_
  refine s15_3 ?_
  refine s15_4 ?_
  simp -implicitDefEqProofs (disch := first | (refine NE.mk ?_; first | omega | assumption) | (refine LTn.mk ?_; omega) | (refine NFam.mk ?_; simp only [enC, updO_same, notFam_cells]; omega)) [↓h15_5, ↓h15_5_1, ↓w15_5_2, ↓h15_5_2g, ↓h15_5_3, enC, Nat.min_self, -List.length_flatMap]
  refine wF_mono (k26 c _) ?_
  rintro _ h1 ⟨rfl, hn1, ho1⟩
  (try dsimp only at hn1 ho1)
  have p0 : h1.o h.nx = some (.cells h.nx false 26 0 [.int .i64 c.s, .int .i64 c.a, .int .i64 c.b]) := by rw [ho1 _ (by omega)]; simp -implicitDefEqProofs (disch := first | (refine NE.mk ?_; first | omega | assumption) | (refine LTn.mk ?_; omega) | (refine NFam.mk ?_; simp only [updO_same, notFam_cells]; omega)) [Nat.min_self, -List.length_flatMap]
  have low1 : ∀ i, i < h.nx → h1.o i = h.o i := fun i hi => by rw [ho1 i (by omega)]; simp -implicitDefEqProofs (disch := first | (refine NE.mk ?_; first | omega | assumption) | (refine LTn.mk ?_; omega) | (refine NFam.mk ?_; simp only [updO_same, notFam_cells]; omega)) [Nat.min_self, -List.length_flatMap]
  cases hs : soundS c with
  | false =>
    (try simp -implicitDefEqProofs (disch := first | (refine NE.mk ?_; first | omega | assumption) | (refine LTn.mk ?_; omega) | (refine NFam.mk ?_; simp only [p0, updO_same, notFam_cells]; omega)) [↓h15_5, ↓h15_5_1, ↓w15_5_2, ↓h15_5_2g, ↓h15_5_3, p0, Nat.min_self, -List.length_flatMap])
    refine s15_6 ?_
    (try simp -implicitDefEqProofs (disch := first | (refine NE.mk ?_; first | omega | assumption) | (refine LTn.mk ?_; omega) | (refine NFam.mk ?_; simp only [p0, updO_same, notFam_cells]; omega)) [p0, Nat.min_self, -List.length_flatMap])
    refine s15_7 ?_
    simp -implicitDefEqProofs (disch := first | (refine NE.mk ?_; first | omega | assumption) | (refine LTn.mk ?_; omega) | (refine NFam.mk ?_; simp only [p0, updO_same, notFam_cells]; omega)) [↓h15_8, p0, Nat.min_self, -List.length_flatMap]
    exact hQ _ _ _ (.inr rfl) rfl ⟨by simp [reportS, hs], (by (try dsimp only [keepOnly_eq]); omega), low1⟩
  | true =>
    by_cases h0 : c.s = 0
    · (try simp -implicitDefEqProofs (disch := first | (refine NE.mk ?_; first | omega | assumption) | (refine LTn.mk ?_; omega) | (refine NFam.mk ?_; simp only [p0, h0, updO_same, notFam_cells]; omega)) [↓h15_5, ↓h15_5_1, ↓w15_5_2, ↓h15_5_2g, ↓h15_5_3, p0, h0, Nat.min_self, -List.length_flatMap])
      refine s15_6 ?_
      (try simp -implicitDefEqProofs (disch := first | (refine NE.mk ?_; first | omega | assumption) | (refine LTn.mk ?_; omega) | (refine NFam.mk ?_; simp only [p0, updO_same, notFam_cells]; omega)) [p0, Nat.min_self, -List.length_flatMap])
      refine s15_9 ?_
      simp -implicitDefEqProofs (disch := first | (refine NE.mk ?_; first | omega | assumption) | (refine LTn.mk ?_; omega) | (refine NFam.mk ?_; simp only [p0, updO_same, notFam_cells]; omega)) [↓h15_10, p0, Nat.min_self, -List.length_flatMap]
      refine s15_11 ?_
      simp -implicitDefEqProofs (disch := first | (refine NE.mk ?_; first | omega | assumption) | (refine LTn.mk ?_; omega) | (refine NFam.mk ?_; simp only [p0, updO_same, notFam_cells]; omega)) [p0, Nat.min_self, -List.length_flatMap]
      split
      · rename_i ha
        refine s15_12 ?_
        simp -implicitDefEqProofs (disch := first | (refine NE.mk ?_; first | omega | assumption) | (refine LTn.mk ?_; omega) | (refine NFam.mk ?_; simp only [p0, updO_same, notFam_cells]; omega)) [↓h15_13, p0, Nat.min_self, -List.length_flatMap]
        exact hQ _ _ _ (.inr rfl) rfl ⟨by simp [reportS, hs, h0, ha], (by (try dsimp only [keepOnly_eq]); omega), low1⟩
      · rename_i ha
        refine s15_14 ?_
        simp -implicitDefEqProofs (disch := first | (refine NE.mk ?_; first | omega | assumption) | (refine LTn.mk ?_; omega) | (refine NFam.mk ?_; simp only [p0, updO_same, notFam_cells]; omega)) [↓h15_15, p0, Nat.min_self, -List.length_flatMap]
        exact hQ _ _ _ (.inr rfl) rfl ⟨by simp [reportS, hs, h0, ha], (by (try dsimp only [keepOnly_eq]); omega), low1⟩
    · (try simp -implicitDefEqProofs (disch := first | (refine NE.mk ?_; first | omega | assumption) | (refine LTn.mk ?_; omega) | (refine NFam.mk ?_; simp only [p0, h0, updO_same, notFam_cells]; omega)) [↓h15_5, ↓h15_5_1, ↓w15_5_2, ↓h15_5_2g, ↓h15_5_3, p0, h0, Nat.min_self, -List.length_flatMap])
      refine s15_6 ?_
      (try simp -implicitDefEqProofs (disch := first | (refine NE.mk ?_; first | omega | assumption) | (refine LTn.mk ?_; omega) | (refine NFam.mk ?_; simp only [p0, h0, updO_same, notFam_cells]; omega)) [p0, h0, Nat.min_self, -List.length_flatMap])
      refine s15_7 ?_
      simp -implicitDefEqProofs (disch := first | (refine NE.mk ?_; first | omega | assumption) | (refine LTn.mk ?_; omega) | (refine NFam.mk ?_; simp only [p0, updO_same, notFam_cells]; omega)) [↓h15_8, p0, Nat.min_self, -List.length_flatMap]
      exact hQ _ _ _ (.inr rfl) rfl ⟨by simp [reportS, hs, h0], (by (try dsimp only [keepOnly_eq]); omega), low1⟩
def resetS (c : Cnt) : Cnt := if soundS c = true then c else ⟨2, 0, 0⟩
theorem k18 (c : Cnt) (h : AH) : wF fs out 18 [.v (.agg (enC c))] h fun r h' => r = .v (.agg (enC (resetS c))) ∧ h.le h' := by
  refine wF_fn fs18 rfl fun Q hQ => ?_
  refine s18_0 ?_
  simp -implicitDefEqProofs (disch := first | (refine NE.mk ?_; first | omega | assumption) | (refine LTn.mk ?_; omega) | (refine NFam.mk ?_; simp only [enC, updO_same, notFam_cells]; omega)) [↓h18_1, enC, Nat.min_self, -List.length_flatMap]
  refine s18_2 ?_
  refine s18_3 ?_
  simp -implicitDefEqProofs (disch := first | (refine NE.mk ?_; first | omega | assumption) | (refine LTn.mk ?_; omega) | (refine NFam.mk ?_; simp only [enC, updO_same, notFam_cells]; omega)) [↓h18_4, enC, Nat.min_self, -List.length_flatMap]
  refine wF_mono (k26 c _) ?_
  rintro _ h1 ⟨rfl, hn1, ho1⟩
  (try dsimp only at hn1 ho1)
  have p0 : h1.o h.nx = some (.cells h.nx false 26 0 [.int .i64 c.s, .int .i64 c.a, .int .i64 c.b]) := by rw [ho1 _ (by omega)]; simp -implicitDefEqProofs (disch := first | (refine NE.mk ?_; first | omega | assumption) | (refine LTn.mk ?_; omega) | (refine NFam.mk ?_; simp only [updO_same, notFam_cells]; omega)) [Nat.min_self, -List.length_flatMap]
  have p1 : h1.o (h.nx + 1) = some (.cells (h.nx + 1) false 26 0 [.int .i64 0, .int .i64 0, .int .i64 0]) := by rw [ho1 _ (by omega)]; simp -implicitDefEqProofs (disch := first | (refine NE.mk ?_; first | omega | assumption) | (refine LTn.mk ?_; omega) | (refine NFam.mk ?_; simp only [updO_same, notFam_cells]; omega)) [Nat.min_self, -List.length_flatMap]
  have low1 : ∀ i, i < h.nx → h1.o i = h.o i := fun i hi => by rw [ho1 i (by omega)]; simp -implicitDefEqProofs (disch := first | (refine NE.mk ?_; first | omega | assumption) | (refine LTn.mk ?_; omega) | (refine NFam.mk ?_; simp only [updO_same, notFam_cells]; omega)) [Nat.min_self, -List.length_flatMap]
  cases hs : soundS c with
  | false =>
    (try simp -implicitDefEqProofs (disch := first | (refine NE.mk ?_; first | omega | assumption) | (refine LTn.mk ?_; omega) | (refine NFam.mk ?_; simp only [p0, p1, updO_same, notFam_cells]; omega)) [↓h18_4, p0, p1, Nat.min_self, -List.length_flatMap])
    refine s18_5 ?_
    (try simp -implicitDefEqProofs (disch := first | (refine NE.mk ?_; first | omega | assumption) | (refine LTn.mk ?_; omega) | (refine NFam.mk ?_; simp only [p0, p1, updO_same, notFam_cells]; omega)) [p0, p1, Nat.min_self, -List.length_flatMap])
    refine s18_8 ?_
    simp -implicitDefEqProofs (disch := first | (refine NE.mk ?_; first | omega | assumption) | (refine LTn.mk ?_; omega) | (refine NFam.mk ?_; simp only [p0, p1, updO_same, notFam_cells]; omega)) [↓h18_9, p0, p1, Nat.min_self, -List.length_flatMap]
    refine hQ _ _ _ (.inr rfl) (resc_box (f := h.nx + 1) (ro := false) (e := 26) (w := 0) (cs := enC ⟨2, 0, 0⟩) (by simp -implicitDefEqProofs (disch := first | (refine NE.mk ?_; first | omega | assumption) | (refine LTn.mk ?_; omega) | (refine NFam.mk ?_; simp only [p0, p1, updO_same, notFam_cells]; omega)) [p0, p1, Nat.min_self, -List.length_flatMap]; rfl) (by simp -implicitDefEqProofs (disch := first | (refine NE.mk ?_; first | omega | assumption) | (refine LTn.mk ?_; omega) | (refine NFam.mk ?_; simp only [p0, p1, enC, updO_same, notFam_cells]; omega)) [p0, p1, enC, Nat.min_self, -List.length_flatMap]) rfl) ⟨by simp [resetS, hs], (by (try dsimp only [keepOnly_eq]); omega), fun i hi => by simp -implicitDefEqProofs (disch := first | (refine NE.mk ?_; first | omega | assumption) | (refine LTn.mk ?_; omega) | (refine NFam.mk ?_; simp only [p0, p1, updO_same, notFam_cells]; omega)) [p0, p1, Nat.min_self, -List.length_flatMap]; exact low1 i hi⟩
  | true =>
    (try simp -implicitDefEqProofs (disch := first | (refine NE.mk ?_; first | omega | assumption) | (refine LTn.mk ?_; omega) | (refine NFam.mk ?_; simp only [p0, p1, updO_same, notFam_cells]; omega)) [↓h18_4, p0, p1, Nat.min_self, -List.length_flatMap])
    refine s18_5 ?_
    (try simp -implicitDefEqProofs (disch := first | (refine NE.mk ?_; first | omega | assumption) | (refine LTn.mk ?_; omega) | (refine NFam.mk ?_; simp only [p0, p1, updO_same, notFam_cells]; omega)) [p0, p1, Nat.min_self, -List.length_flatMap])
    refine s18_6 ?_
    simp -implicitDefEqProofs (disch := first | (refine NE.mk ?_; first | omega | assumption) | (refine LTn.mk ?_; omega) | (refine NFam.mk ?_; simp only [p0, p1, updO_same, notFam_cells]; omega)) [↓h18_7, p0, p1, Nat.min_self, -List.length_flatMap]
    refine hQ _ _ _ (.inr rfl) (resc_box (f := h.nx + 1) (ro := false) (e := 26) (w := 0) (cs := enC c) (by simp -implicitDefEqProofs (disch := first | (refine NE.mk ?_; first | omega | assumption) | (refine LTn.mk ?_; omega) | (refine NFam.mk ?_; simp only [p0, p1, updO_same, notFam_cells]; omega)) [p0, p1, Nat.min_self, -List.length_flatMap]; rfl) (by simp -implicitDefEqProofs (disch := first | (refine NE.mk ?_; first | omega | assumption) | (refine LTn.mk ?_; omega) | (refine NFam.mk ?_; simp only [p0, p1, enC, updO_same, notFam_cells]; omega)) [p0, p1, enC, Nat.min_self, -List.length_flatMap]) rfl) ⟨by simp [resetS, hs], (by (try dsimp only [keepOnly_eq]); omega), fun i hi => by simp -implicitDefEqProofs (disch := first | (refine NE.mk ?_; first | omega | assumption) | (refine LTn.mk ?_; omega) | (refine NFam.mk ?_; simp only [p0, p1, updO_same, notFam_cells]; omega)) [p0, p1, Nat.min_self, -List.length_flatMap]; exact low1 i hi⟩
end Go.Proofs.Ytellgcahkpaldaa.Fn
