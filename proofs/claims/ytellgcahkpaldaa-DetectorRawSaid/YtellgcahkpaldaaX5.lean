/- Contracts: the reference's counter. Conditions: none. -/
import Derived.Test.YtellgcahkpaldaaX4
set_option linter.unusedVariables false
set_option linter.unusedSimpArgs false
namespace Go.Proofs.Ytellgcahkpaldaa.Fn
open Go Go.Am
set_option maxRecDepth 100000
set_option maxHeartbeats 1000000
theorem k28 (c : Cnt) (h : AH) : wF fs out 28 [.v (.agg (enC c))] h fun r h' => r = .v (.one (.bool (soundS c))) ∧ h.le h' := by
  refine wF_fn fs28 rfl fun Q hQ => ?_
  refine s28_0 ?_
  simp -implicitDefEqProofs (disch := first | (refine NE.mk ?_; first | omega | assumption) | (refine LTn.mk ?_; omega) | (refine NFam.mk ?_; simp only [enC, updO_same, notFam_cells]; omega)) [↓h28_1, enC, Nat.min_self, -List.length_flatMap]
  refine s28_2 ?_
  simp -implicitDefEqProofs (disch := first | (refine NE.mk ?_; first | omega | assumption) | (refine LTn.mk ?_; omega) | (refine NFam.mk ?_; simp only [enC, updO_same, notFam_cells]; omega)) [↓h28_3, ↓w28_3_1, ↓h28_3_1g, ↓h28_3_2, ↓w28_3_3, ↓h28_3_3g, ↓h28_3_4, ↓w28_3_5, ↓h28_3_5g, ↓h28_3_6, ↓w28_3_7, ↓h28_3_7g, ↓h28_3_8, enC, Nat.min_self, -List.length_flatMap]
  repeat' split
  all_goals
    refine hQ _ _ _ (.inr rfl) rfl ⟨?_, (by (try dsimp only [keepOnly_eq]); omega), fun i hi => by simp -implicitDefEqProofs (disch := first | (refine NE.mk ?_; first | omega | assumption) | (refine LTn.mk ?_; omega) | (refine NFam.mk ?_; simp only [updO_same, notFam_cells]; omega)) [Nat.min_self, -List.length_flatMap]⟩
    (try simp -implicitDefEqProofs (disch := first | (refine NE.mk ?_; first | omega | assumption) | (refine LTn.mk ?_; omega) | (refine NFam.mk ?_; simp only [updO_same, notFam_cells]; omega)) [Nat.min_self, -List.length_flatMap])
    simp_all [soundS] <;> omega
theorem k19 (c : Cnt) (p : Pulse) (h : AH) : wF fs out 19 [.v (.agg (enC c)), .v (.agg (enP p))] h fun r h' => r = .v (.agg (enC (feedS c p))) ∧ h.le h' := by
  refine wF_fn fs19 rfl fun Q hQ => ?_
  refine s19_0 ?_
  simp -implicitDefEqProofs (disch := first | (refine NE.mk ?_; first | omega | assumption) | (refine LTn.mk ?_; omega) | (refine NFam.mk ?_; simp only [enP, enC, updO_same, notFam_cells]; omega)) [↓h19_1, enP, enC, Nat.min_self, -List.length_flatMap]
  refine s19_2 ?_
  refine s19_3 ?_
  simp -implicitDefEqProofs (disch := first | (refine NE.mk ?_; first | omega | assumption) | (refine LTn.mk ?_; omega) | (refine NFam.mk ?_; simp only [enP, enC, updO_same, notFam_cells]; omega)) [↓h19_4, ↓h19_4_1, ↓w19_4_2, ↓h19_4_2g, ↓h19_4_3, ↓w19_4_4, ↓h19_4_4g, ↓h19_4_5, ↓w19_4_6, ↓h19_4_6g, ↓h19_4_7, enP, enC, Nat.min_self, -List.length_flatMap]
  refine wF_mono (k28 c _) ?_
  rintro _ g ⟨rfl, hn1, ho1⟩
  (try dsimp only at hn1 ho1)
  have p0 : g.o h.nx = some (.cells h.nx false 26 0 [.int .i64 c.s, .int .i64 c.a, .int .i64 c.b]) := by rw [ho1 _ (by omega)]; simp -implicitDefEqProofs (disch := first | (refine NE.mk ?_; first | omega | assumption) | (refine LTn.mk ?_; omega) | (refine NFam.mk ?_; simp only [updO_same, notFam_cells]; omega)) [Nat.min_self, -List.length_flatMap]
  have p1 : g.o (h.nx + 1) = some (.cells (h.nx + 1) false 31 0 [.int .i64 p.r, .bool p.i, .int .i64 p.a, .int .i64 p.b]) := by rw [ho1 _ (by omega)]; simp -implicitDefEqProofs (disch := first | (refine NE.mk ?_; first | omega | assumption) | (refine LTn.mk ?_; omega) | (refine NFam.mk ?_; simp only [updO_same, notFam_cells]; omega)) [Nat.min_self, -List.length_flatMap]
  have p2 : g.o (h.nx + 2) = some (.cells (h.nx + 2) false 26 0 [.int .i64 0, .int .i64 0, .int .i64 0]) := by rw [ho1 _ (by omega)]; simp -implicitDefEqProofs (disch := first | (refine NE.mk ?_; first | omega | assumption) | (refine LTn.mk ?_; omega) | (refine NFam.mk ?_; simp only [updO_same, notFam_cells]; omega)) [Nat.min_self, -List.length_flatMap]
  have low : ∀ i, i < h.nx → g.o i = h.o i := fun i hi => by rw [ho1 i (by omega)]; simp -implicitDefEqProofs (disch := first | (refine NE.mk ?_; first | omega | assumption) | (refine LTn.mk ?_; omega) | (refine NFam.mk ?_; simp only [updO_same, notFam_cells]; omega)) [Nat.min_self, -List.length_flatMap]
  clear ho1
  have fin : ∀ (t : Nat → T) (m : Nat) (d : Cnt), t 4 = .v (.one (.ptr (h.nx + 2) 0)) → g.nx ≤ m → feedS c p = d → Q .ret ⟨t, ⟨upd g.o (h.nx + 2) (some (.cells (h.nx + 2) false 26 0 (enC d))), m⟩⟩ := by
    intro t m d h1 h6 h7
    rw [h7] at hQ
    exact hQ _ _ _ (.inr rfl) (resc_box (f := h.nx + 2) (ro := false) (e := 26) (w := 0) (cs := enC d) h1 (by simp -implicitDefEqProofs (disch := first | (refine NE.mk ?_; first | omega | assumption) | (refine LTn.mk ?_; omega) | (refine NFam.mk ?_; simp only [updO_same, notFam_cells]; omega)) [Nat.min_self, -List.length_flatMap]) rfl) ⟨rfl, (by (try dsimp only [keepOnly_eq]); omega), fun i hi => by simp -implicitDefEqProofs (disch := first | (refine NE.mk ?_; first | omega | assumption) | (refine LTn.mk ?_; omega) | (refine NFam.mk ?_; simp only [updO_same, notFam_cells]; omega)) [Nat.min_self, -List.length_flatMap]; exact low i hi⟩
  cases hs : soundS c with
  | false =>
    (try simp -implicitDefEqProofs (disch := first | (refine NE.mk ?_; first | omega | assumption) | (refine LTn.mk ?_; omega) | (refine NFam.mk ?_; simp only [p0, p1, p2, updO_same, notFam_cells]; omega)) [↓h19_4, ↓h19_4_1, ↓w19_4_2, ↓h19_4_2g, ↓h19_4_3, ↓w19_4_4, ↓h19_4_4g, ↓h19_4_5, ↓w19_4_6, ↓h19_4_6g, ↓h19_4_7, p0, p1, p2, Nat.min_self, -List.length_flatMap])
    refine s19_5 ?_
    (try simp -implicitDefEqProofs (disch := first | (refine NE.mk ?_; first | omega | assumption) | (refine LTn.mk ?_; omega) | (refine NFam.mk ?_; simp only [p0, p1, p2, updO_same, notFam_cells]; omega)) [p0, p1, p2, Nat.min_self, -List.length_flatMap])
    refine s19_6 ?_
    simp -implicitDefEqProofs (disch := first | (refine NE.mk ?_; first | omega | assumption) | (refine LTn.mk ?_; omega) | (refine NFam.mk ?_; simp only [p0, p1, p2, updO_same, notFam_cells]; omega)) [↓h19_7, p0, p1, p2, Nat.min_self, -List.length_flatMap]
    exact fin _ _ ⟨1, 0, 0⟩ (by simp -implicitDefEqProofs (disch := first | (refine NE.mk ?_; first | omega | assumption) | (refine LTn.mk ?_; omega) | (refine NFam.mk ?_; simp only [p0, p1, p2, updO_same, notFam_cells]; omega)) [p0, p1, p2, Nat.min_self, -List.length_flatMap]) (by omega) (by simp [feedS, hs])
  | true =>
    by_cases e1 : p.a = p.b
    · by_cases e2 : p.a < 1
      · (try simp -implicitDefEqProofs (disch := first | (refine NE.mk ?_; first | omega | assumption) | (refine LTn.mk ?_; omega) | (refine NFam.mk ?_; simp only [p0, p1, p2, ← e1, e2, updO_same, notFam_cells]; omega)) [↓h19_4, ↓h19_4_1, ↓w19_4_2, ↓h19_4_2g, ↓h19_4_3, ↓w19_4_4, ↓h19_4_4g, ↓h19_4_5, ↓w19_4_6, ↓h19_4_6g, ↓h19_4_7, p0, p1, p2, ← e1, e2, Nat.min_self, -List.length_flatMap])
        refine s19_5 ?_
        (try simp -implicitDefEqProofs (disch := first | (refine NE.mk ?_; first | omega | assumption) | (refine LTn.mk ?_; omega) | (refine NFam.mk ?_; simp only [p0, p1, p2, e2, updO_same, notFam_cells]; omega)) [p0, p1, p2, e2, Nat.min_self, -List.length_flatMap])
        refine s19_6 ?_
        simp -implicitDefEqProofs (disch := first | (refine NE.mk ?_; first | omega | assumption) | (refine LTn.mk ?_; omega) | (refine NFam.mk ?_; simp only [p0, p1, p2, updO_same, notFam_cells]; omega)) [↓h19_7, p0, p1, p2, Nat.min_self, -List.length_flatMap]
        exact fin _ _ ⟨1, 0, 0⟩ (by simp -implicitDefEqProofs (disch := first | (refine NE.mk ?_; first | omega | assumption) | (refine LTn.mk ?_; omega) | (refine NFam.mk ?_; simp only [p0, p1, p2, updO_same, notFam_cells]; omega)) [p0, p1, p2, Nat.min_self, -List.length_flatMap]) (by omega) (by simp [feedS, cleanS]; omega)
      · by_cases e3 : 400 < p.a
        · (try simp -implicitDefEqProofs (disch := first | (refine NE.mk ?_; first | omega | assumption) | (refine LTn.mk ?_; omega) | (refine NFam.mk ?_; simp only [p0, p1, p2, ← e1, e2, e3, updO_same, notFam_cells]; omega)) [↓h19_4, ↓h19_4_1, ↓w19_4_2, ↓h19_4_2g, ↓h19_4_3, ↓w19_4_4, ↓h19_4_4g, ↓h19_4_5, ↓w19_4_6, ↓h19_4_6g, ↓h19_4_7, p0, p1, p2, ← e1, e2, e3, Nat.min_self, -List.length_flatMap])
          refine s19_5 ?_
          (try simp -implicitDefEqProofs (disch := first | (refine NE.mk ?_; first | omega | assumption) | (refine LTn.mk ?_; omega) | (refine NFam.mk ?_; simp only [p0, p1, p2, e2, e3, updO_same, notFam_cells]; omega)) [p0, p1, p2, e2, e3, Nat.min_self, -List.length_flatMap])
          refine s19_6 ?_
          simp -implicitDefEqProofs (disch := first | (refine NE.mk ?_; first | omega | assumption) | (refine LTn.mk ?_; omega) | (refine NFam.mk ?_; simp only [p0, p1, p2, updO_same, notFam_cells]; omega)) [↓h19_7, p0, p1, p2, Nat.min_self, -List.length_flatMap]
          exact fin _ _ ⟨1, 0, 0⟩ (by simp -implicitDefEqProofs (disch := first | (refine NE.mk ?_; first | omega | assumption) | (refine LTn.mk ?_; omega) | (refine NFam.mk ?_; simp only [p0, p1, p2, updO_same, notFam_cells]; omega)) [p0, p1, p2, Nat.min_self, -List.length_flatMap]) (by omega) (by simp [feedS, cleanS]; omega)
        · have hc : cleanS p = true := by simp [cleanS]; omega
          have hs1 : (c.s = 0 ∨ c.s = 2) ∧ c.a = c.b ∧ 0 ≤ c.a ∧ c.a ≤ 1600 := by simpa [soundS, and_assoc] using hs
          have w1 := wrap64 (show -9223372036854775808 ≤ c.a + p.a by omega) (by omega)
          have w2 := wrap64 (show -9223372036854775808 ≤ c.a - p.a by omega) (by omega)
          obtain ⟨N, hN⟩ : ∃ N, N = (if p.i = true then c.a + p.a else c.a - p.a) := ⟨_, rfl⟩
          have hNb : -400 ≤ N ∧ N ≤ 2000 := by rw [hN]; split <;> omega
          have fS : feedS c p = if N < 0 ∨ N > 1600 then ⟨1, 0, 0⟩ else if c.s = 2 ∧ p.i = false ∧ N = 0 then ⟨0, 0, 0⟩ else ⟨c.s, N, N⟩ := by rw [hN]; unfold feedS; rw [if_pos ⟨hs, hc⟩]
          (try simp -implicitDefEqProofs (disch := first | (refine NE.mk ?_; first | omega | assumption) | (refine LTn.mk ?_; omega) | (refine NFam.mk ?_; simp only [p0, p1, p2, ← e1, e2, e3, updO_same, notFam_cells]; omega)) [↓h19_4, ↓h19_4_1, ↓w19_4_2, ↓h19_4_2g, ↓h19_4_3, ↓w19_4_4, ↓h19_4_4g, ↓h19_4_5, ↓w19_4_6, ↓h19_4_6g, ↓h19_4_7, p0, p1, p2, ← e1, e2, e3, Nat.min_self, -List.length_flatMap])
          refine s19_5 ?_
          (try simp -implicitDefEqProofs (disch := first | (refine NE.mk ?_; first | omega | assumption) | (refine LTn.mk ?_; omega) | (refine NFam.mk ?_; simp only [p0, p1, p2, e2, e3, updO_same, notFam_cells]; omega)) [p0, p1, p2, e2, e3, Nat.min_self, -List.length_flatMap])
          refine s19_8 ?_
          (try simp -implicitDefEqProofs (disch := first | (refine NE.mk ?_; first | omega | assumption) | (refine LTn.mk ?_; omega) | (refine NFam.mk ?_; simp only [p0, p1, p2, w1, w2, updO_same, notFam_cells]; omega)) [↓h19_9, p0, p1, p2, w1, w2, Nat.min_self, -List.length_flatMap])
          refine wC_cut (a := c19_11) (b := c19_15) (fun s => s.t 2 = .v (.one (.ptr h.nx 0)) ∧ s.t 3 = .v (.one (.ptr (h.nx + 1) 0)) ∧ s.t 4 = .v (.one (.ptr (h.nx + 2) 0)) ∧ s.t 5 = .v (.one (.int .i64 N)) ∧ s.h.o = g.o ∧ g.nx ≤ s.h.nx) ?_ ?_
          · intro Q1 h1 hX
            refine s19_11 ?_
            simp -implicitDefEqProofs (disch := first | (refine NE.mk ?_; first | omega | assumption) | (refine LTn.mk ?_; omega) | (refine NFam.mk ?_; simp only [p0, p1, p2, w1, w2, updO_same, notFam_cells]; omega)) [↓h19_12, p0, p1, p2, w1, w2, Nat.min_self, -List.length_flatMap]
            refine s19_13 ?_
            simp -implicitDefEqProofs (disch := first | (refine NE.mk ?_; first | omega | assumption) | (refine LTn.mk ?_; omega) | (refine NFam.mk ?_; simp only [p0, p1, p2, w1, w2, updO_same, notFam_cells]; omega)) [p0, p1, p2, w1, w2, Nat.min_self, -List.length_flatMap]
            split
            · rename_i hi
              refine s19_14 ?_
              simp -implicitDefEqProofs (disch := first | (refine NE.mk ?_; first | omega | assumption) | (refine LTn.mk ?_; omega) | (refine NFam.mk ?_; simp only [p0, p1, p2, w1, w2, updO_same, notFam_cells]; omega)) [↓h19_14, p0, p1, p2, w1, w2, Nat.min_self, -List.length_flatMap]
              exact h1 _ ⟨by simp -implicitDefEqProofs (disch := first | (refine NE.mk ?_; first | omega | assumption) | (refine LTn.mk ?_; omega) | (refine NFam.mk ?_; simp only [p0, p1, p2, w1, w2, updO_same, notFam_cells]; omega)) [p0, p1, p2, w1, w2, Nat.min_self, -List.length_flatMap], by simp -implicitDefEqProofs (disch := first | (refine NE.mk ?_; first | omega | assumption) | (refine LTn.mk ?_; omega) | (refine NFam.mk ?_; simp only [p0, p1, p2, w1, w2, updO_same, notFam_cells]; omega)) [p0, p1, p2, w1, w2, Nat.min_self, -List.length_flatMap], by simp -implicitDefEqProofs (disch := first | (refine NE.mk ?_; first | omega | assumption) | (refine LTn.mk ?_; omega) | (refine NFam.mk ?_; simp only [p0, p1, p2, w1, w2, updO_same, notFam_cells]; omega)) [p0, p1, p2, w1, w2, Nat.min_self, -List.length_flatMap], by simp -implicitDefEqProofs (disch := first | (refine NE.mk ?_; first | omega | assumption) | (refine LTn.mk ?_; omega) | (refine NFam.mk ?_; simp only [p0, p1, p2, w1, w2, updO_same, notFam_cells]; omega)) [p0, p1, p2, w1, w2, Nat.min_self, -List.length_flatMap]; rw [hN, if_pos hi], rfl, (by (try dsimp only [keepOnly_eq]); omega)⟩
            · rename_i hi
              exact h1 _ ⟨by simp -implicitDefEqProofs (disch := first | (refine NE.mk ?_; first | omega | assumption) | (refine LTn.mk ?_; omega) | (refine NFam.mk ?_; simp only [p0, p1, p2, w1, w2, updO_same, notFam_cells]; omega)) [p0, p1, p2, w1, w2, Nat.min_self, -List.length_flatMap], by simp -implicitDefEqProofs (disch := first | (refine NE.mk ?_; first | omega | assumption) | (refine LTn.mk ?_; omega) | (refine NFam.mk ?_; simp only [p0, p1, p2, w1, w2, updO_same, notFam_cells]; omega)) [p0, p1, p2, w1, w2, Nat.min_self, -List.length_flatMap], by simp -implicitDefEqProofs (disch := first | (refine NE.mk ?_; first | omega | assumption) | (refine LTn.mk ?_; omega) | (refine NFam.mk ?_; simp only [p0, p1, p2, w1, w2, updO_same, notFam_cells]; omega)) [p0, p1, p2, w1, w2, Nat.min_self, -List.length_flatMap], by simp -implicitDefEqProofs (disch := first | (refine NE.mk ?_; first | omega | assumption) | (refine LTn.mk ?_; omega) | (refine NFam.mk ?_; simp only [p0, p1, p2, w1, w2, updO_same, notFam_cells]; omega)) [p0, p1, p2, w1, w2, Nat.min_self, -List.length_flatMap]; rw [hN, if_neg hi], rfl, (by (try dsimp only [keepOnly_eq]); omega)⟩
          · rintro ⟨st, so, sn⟩ ⟨t2, t3, t4, t5, rfl, hn⟩
            dsimp only at t2 t3 t4 t5 hn
            refine s19_15 ?_
            refine s19_16 ?_
            by_cases n0 : N < 0
            · (try simp -implicitDefEqProofs (disch := first | (refine NE.mk ?_; first | omega | assumption) | (refine LTn.mk ?_; omega) | (refine NFam.mk ?_; simp only [p0, p1, p2, t2, t3, t4, t5, n0, updO_same, notFam_cells]; omega)) [↓h19_17, ↓w19_17_1, ↓h19_17_1g, ↓h19_17_2, p0, p1, p2, t2, t3, t4, t5, n0, Nat.min_self, -List.length_flatMap])
              refine s19_18 ?_
              (try simp -implicitDefEqProofs (disch := first | (refine NE.mk ?_; first | omega | assumption) | (refine LTn.mk ?_; omega) | (refine NFam.mk ?_; simp only [p0, p1, p2, t2, t3, t4, t5, updO_same, notFam_cells]; omega)) [p0, p1, p2, t2, t3, t4, t5, Nat.min_self, -List.length_flatMap])
              refine s19_19 ?_
              simp -implicitDefEqProofs (disch := first | (refine NE.mk ?_; first | omega | assumption) | (refine LTn.mk ?_; omega) | (refine NFam.mk ?_; simp only [p0, p1, p2, t2, t3, t4, t5, updO_same, notFam_cells]; omega)) [↓h19_20, p0, p1, p2, t2, t3, t4, t5, Nat.min_self, -List.length_flatMap]
              exact fin _ _ ⟨1, 0, 0⟩ (by simp -implicitDefEqProofs (disch := first | (refine NE.mk ?_; first | omega | assumption) | (refine LTn.mk ?_; omega) | (refine NFam.mk ?_; simp only [p0, p1, p2, t2, t3, t4, t5, updO_same, notFam_cells]; omega)) [p0, p1, p2, t2, t3, t4, t5, Nat.min_self, -List.length_flatMap]) (by omega) (by rw [fS, if_pos (.inl n0)])
            · by_cases n1 : 1600 < N
              · (try simp -implicitDefEqProofs (disch := first | (refine NE.mk ?_; first | omega | assumption) | (refine LTn.mk ?_; omega) | (refine NFam.mk ?_; simp only [p0, p1, p2, t2, t3, t4, t5, n0, n1, updO_same, notFam_cells]; omega)) [↓h19_17, ↓w19_17_1, ↓h19_17_1g, ↓h19_17_2, p0, p1, p2, t2, t3, t4, t5, n0, n1, Nat.min_self, -List.length_flatMap])
                refine s19_18 ?_
                (try simp -implicitDefEqProofs (disch := first | (refine NE.mk ?_; first | omega | assumption) | (refine LTn.mk ?_; omega) | (refine NFam.mk ?_; simp only [p0, p1, p2, t2, t3, t4, t5, updO_same, notFam_cells]; omega)) [p0, p1, p2, t2, t3, t4, t5, Nat.min_self, -List.length_flatMap])
                refine s19_19 ?_
                simp -implicitDefEqProofs (disch := first | (refine NE.mk ?_; first | omega | assumption) | (refine LTn.mk ?_; omega) | (refine NFam.mk ?_; simp only [p0, p1, p2, t2, t3, t4, t5, updO_same, notFam_cells]; omega)) [↓h19_20, p0, p1, p2, t2, t3, t4, t5, Nat.min_self, -List.length_flatMap]
                exact fin _ _ ⟨1, 0, 0⟩ (by simp -implicitDefEqProofs (disch := first | (refine NE.mk ?_; first | omega | assumption) | (refine LTn.mk ?_; omega) | (refine NFam.mk ?_; simp only [p0, p1, p2, t2, t3, t4, t5, updO_same, notFam_cells]; omega)) [p0, p1, p2, t2, t3, t4, t5, Nat.min_self, -List.length_flatMap]) (by omega) (by rw [fS, if_pos (.inr n1)])
              · rw [if_neg (by omega)] at fS
                (try simp -implicitDefEqProofs (disch := first | (refine NE.mk ?_; first | omega | assumption) | (refine LTn.mk ?_; omega) | (refine NFam.mk ?_; simp only [p0, p1, p2, t2, t3, t4, t5, n0, n1, updO_same, notFam_cells]; omega)) [↓h19_17, ↓w19_17_1, ↓h19_17_1g, ↓h19_17_2, p0, p1, p2, t2, t3, t4, t5, n0, n1, Nat.min_self, -List.length_flatMap])
                refine s19_18 ?_
                (try simp -implicitDefEqProofs (disch := first | (refine NE.mk ?_; first | omega | assumption) | (refine LTn.mk ?_; omega) | (refine NFam.mk ?_; simp only [p0, p1, p2, t2, t3, t4, t5, updO_same, notFam_cells]; omega)) [p0, p1, p2, t2, t3, t4, t5, Nat.min_self, -List.length_flatMap])
                refine s19_21 ?_
                refine s19_22 ?_
                by_cases d1 : c.s = 2 ∧ p.i = false ∧ N = 0
                · rw [if_pos d1] at fS
                  obtain ⟨d1, d2, d3⟩ := d1
                  (try simp -implicitDefEqProofs (disch := first | (refine NE.mk ?_; first | omega | assumption) | (refine LTn.mk ?_; omega) | (refine NFam.mk ?_; simp only [p0, p1, p2, t2, t3, t4, t5, d1, d2, d3, updO_same, notFam_cells]; omega)) [↓h19_23, ↓w19_23_1, ↓h19_23_1g, ↓h19_23_2, ↓w19_23_3, ↓h19_23_3g, ↓h19_23_4, p0, p1, p2, t2, t3, t4, t5, d1, d2, d3, Nat.min_self, -List.length_flatMap])
                  refine s19_24 ?_
                  (try simp -implicitDefEqProofs (disch := first | (refine NE.mk ?_; first | omega | assumption) | (refine LTn.mk ?_; omega) | (refine NFam.mk ?_; simp only [p0, p1, p2, t2, t3, t4, t5, updO_same, notFam_cells]; omega)) [p0, p1, p2, t2, t3, t4, t5, Nat.min_self, -List.length_flatMap])
                  refine s19_25 ?_
                  simp -implicitDefEqProofs (disch := first | (refine NE.mk ?_; first | omega | assumption) | (refine LTn.mk ?_; omega) | (refine NFam.mk ?_; simp only [p0, p1, p2, t2, t3, t4, t5, updO_same, notFam_cells]; omega)) [↓h19_26, p0, p1, p2, t2, t3, t4, t5, Nat.min_self, -List.length_flatMap]
                  exact fin _ _ ⟨0, 0, 0⟩ (by simp -implicitDefEqProofs (disch := first | (refine NE.mk ?_; first | omega | assumption) | (refine LTn.mk ?_; omega) | (refine NFam.mk ?_; simp only [p0, p1, p2, t2, t3, t4, t5, updO_same, notFam_cells]; omega)) [p0, p1, p2, t2, t3, t4, t5, Nat.min_self, -List.length_flatMap]) (by omega) fS
                · rw [if_neg d1] at fS
                  have tail : ∀ s : St, s.t 2 = .v (.one (.ptr h.nx 0)) → s.t 4 = .v (.one (.ptr (h.nx + 2) 0)) → s.t 5 = .v (.one (.int .i64 N)) → s.h.o = g.o → g.nx ≤ s.h.nx → wC fs out c19_27 s Q := by
                    rintro ⟨t, o, m⟩ t2 t4 t5 rfl hm
                    dsimp only at t2 t4 t5 hm
                    refine s19_27 ?_
                    simp -implicitDefEqProofs (disch := first | (refine NE.mk ?_; first | omega | assumption) | (refine LTn.mk ?_; omega) | (refine NFam.mk ?_; simp only [p0, p1, p2, t2, t4, t5, updO_same, notFam_cells]; omega)) [↓h19_28, p0, p1, p2, t2, t4, t5, Nat.min_self, -List.length_flatMap]
                    exact fin _ _ ⟨c.s, N, N⟩ (by simp -implicitDefEqProofs (disch := first | (refine NE.mk ?_; first | omega | assumption) | (refine LTn.mk ?_; omega) | (refine NFam.mk ?_; simp only [p0, p1, p2, t2, t4, t5, updO_same, notFam_cells]; omega)) [p0, p1, p2, t2, t4, t5, Nat.min_self, -List.length_flatMap]) (by omega) fS
                  (try simp -implicitDefEqProofs (disch := first | (refine NE.mk ?_; first | omega | assumption) | (refine LTn.mk ?_; omega) | (refine NFam.mk ?_; simp only [p0, p1, p2, t2, t3, t4, t5, updO_same, notFam_cells]; omega)) [↓h19_23, ↓w19_23_1, ↓h19_23_1g, ↓h19_23_2, ↓w19_23_3, ↓h19_23_3g, ↓h19_23_4, p0, p1, p2, t2, t3, t4, t5, Nat.min_self, -List.length_flatMap])
                  repeat' split
                  all_goals (refine s19_24 ?_)
                  all_goals simp -implicitDefEqProofs (disch := first | (refine NE.mk ?_; first | omega | assumption) | (refine LTn.mk ?_; omega) | (refine NFam.mk ?_; simp only [p0, p1, p2, t2, t3, t4, t5, updO_same, notFam_cells]; omega)) [p0, p1, p2, t2, t3, t4, t5, Nat.min_self, -List.length_flatMap]
                  · refine tail _ ?_ ?_ ?_ ?_ ?_ <;> first | rfl | ((try dsimp only); omega) | simp -implicitDefEqProofs (disch := first | (refine NE.mk ?_; first | omega | assumption) | (refine LTn.mk ?_; omega) | (refine NFam.mk ?_; simp only [p0, p1, p2, t2, t3, t4, t5, updO_same, notFam_cells]; omega)) [p0, p1, p2, t2, t3, t4, t5, Nat.min_self, -List.length_flatMap]
                  · rename_i e1 e2
                    rw [if_neg (fun e3 => d1 ⟨e1, by simpa using e2, e3⟩)]
                    refine tail _ ?_ ?_ ?_ ?_ ?_ <;> first | rfl | ((try dsimp only); omega) | simp -implicitDefEqProofs (disch := first | (refine NE.mk ?_; first | omega | assumption) | (refine LTn.mk ?_; omega) | (refine NFam.mk ?_; simp only [p0, p1, p2, t2, t3, t4, t5, updO_same, notFam_cells]; omega)) [p0, p1, p2, t2, t3, t4, t5, Nat.min_self, -List.length_flatMap]
                  · refine tail _ ?_ ?_ ?_ ?_ ?_ <;> first | rfl | ((try dsimp only); omega) | simp -implicitDefEqProofs (disch := first | (refine NE.mk ?_; first | omega | assumption) | (refine LTn.mk ?_; omega) | (refine NFam.mk ?_; simp only [p0, p1, p2, t2, t3, t4, t5, updO_same, notFam_cells]; omega)) [p0, p1, p2, t2, t3, t4, t5, Nat.min_self, -List.length_flatMap]
    · (try simp -implicitDefEqProofs (disch := first | (refine NE.mk ?_; first | omega | assumption) | (refine LTn.mk ?_; omega) | (refine NFam.mk ?_; simp only [p0, p1, p2, e1, updO_same, notFam_cells]; omega)) [↓h19_4, ↓h19_4_1, ↓w19_4_2, ↓h19_4_2g, ↓h19_4_3, ↓w19_4_4, ↓h19_4_4g, ↓h19_4_5, ↓w19_4_6, ↓h19_4_6g, ↓h19_4_7, p0, p1, p2, e1, Nat.min_self, -List.length_flatMap])
      refine s19_5 ?_
      (try simp -implicitDefEqProofs (disch := first | (refine NE.mk ?_; first | omega | assumption) | (refine LTn.mk ?_; omega) | (refine NFam.mk ?_; simp only [p0, p1, p2, e1, updO_same, notFam_cells]; omega)) [p0, p1, p2, e1, Nat.min_self, -List.length_flatMap])
      refine s19_6 ?_
      simp -implicitDefEqProofs (disch := first | (refine NE.mk ?_; first | omega | assumption) | (refine LTn.mk ?_; omega) | (refine NFam.mk ?_; simp only [p0, p1, p2, updO_same, notFam_cells]; omega)) [↓h19_7, p0, p1, p2, Nat.min_self, -List.length_flatMap]
      exact fin _ _ ⟨1, 0, 0⟩ (by simp -implicitDefEqProofs (disch := first | (refine NE.mk ?_; first | omega | assumption) | (refine LTn.mk ?_; omega) | (refine NFam.mk ?_; simp only [p0, p1, p2, updO_same, notFam_cells]; omega)) [p0, p1, p2, Nat.min_self, -List.length_flatMap]) (by omega) (by simp [feedS, cleanS, e1])
end Go.Proofs.Ytellgcahkpaldaa.Fn
