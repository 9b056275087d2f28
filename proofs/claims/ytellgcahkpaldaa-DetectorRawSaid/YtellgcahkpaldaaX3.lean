/- Contracts: the counter. Conditions: none. -/
import Derived.Test.YtellgcahkpaldaaX2
set_option linter.unusedVariables false
set_option linter.unusedSimpArgs false
namespace Go.Proofs.Ytellgcahkpaldaa.Fn
open Go Go.Am
set_option maxRecDepth 100000
set_option maxHeartbeats 1000000
structure Cnt where
  s : Int
  a : Int
  b : Int
  deriving DecidableEq
def enC (c : Cnt) : List Cell := [.int .i64 c.s, .int .i64 c.a, .int .i64 c.b]
theorem enC_len (c : Cnt) : (enC c).length = 3 := rfl
theorem enC_solid (c : Cnt) : solid (enC c) = true := by simp [enC]
def soundS (c : Cnt) : Bool := (c.s == 0 || c.s == 2) && c.a == c.b && decide (c.a ≥ 0) && decide (c.a ≤ 1600)
def cleanS (p : Pulse) : Bool := p.a == p.b && decide (p.a ≥ 1) && decide (p.a ≤ 400)
theorem k26 (c : Cnt) (h : AH) : wF fs out 26 [.v (.agg (enC c))] h fun r h' => r = .v (.one (.bool (soundS c))) ∧ h.le h' := by
  refine wF_fn fs26 rfl fun Q hQ => ?_
  refine s26_0 ?_
  simp -implicitDefEqProofs (disch := first | (refine NE.mk ?_; first | omega | assumption) | (refine LTn.mk ?_; omega) | (refine NFam.mk ?_; simp only [enC, updO_same, notFam_cells]; omega)) [↓h26_1, enC, Nat.min_self, -List.length_flatMap]
  refine s26_2 ?_
  simp -implicitDefEqProofs (disch := first | (refine NE.mk ?_; first | omega | assumption) | (refine LTn.mk ?_; omega) | (refine NFam.mk ?_; simp only [enC, updO_same, notFam_cells]; omega)) [↓h26_3, ↓w26_3_1, ↓h26_3_1g, ↓h26_3_2, ↓w26_3_3, ↓h26_3_3g, ↓h26_3_4, ↓w26_3_5, ↓h26_3_5g, ↓h26_3_6, ↓w26_3_7, ↓h26_3_7g, ↓h26_3_8, enC, Nat.min_self, -List.length_flatMap]
  repeat' split
  all_goals
    refine hQ _ _ _ (.inr rfl) rfl ⟨?_, (by (try dsimp only [keepOnly_eq]); omega), fun i hi => by simp -implicitDefEqProofs (disch := first | (refine NE.mk ?_; first | omega | assumption) | (refine LTn.mk ?_; omega) | (refine NFam.mk ?_; simp only [updO_same, notFam_cells]; omega)) [Nat.min_self, -List.length_flatMap]⟩
    (try simp -implicitDefEqProofs (disch := first | (refine NE.mk ?_; first | omega | assumption) | (refine LTn.mk ?_; omega) | (refine NFam.mk ?_; simp only [updO_same, notFam_cells]; omega)) [Nat.min_self, -List.length_flatMap])
    simp_all [soundS] <;> omega
theorem k27 (p : Pulse) (h : AH) : wF fs out 27 [.v (.agg (enP p))] h fun r h' => r = .v (.one (.bool (cleanS p))) ∧ h.le h' := by
  refine wF_fn fs27 rfl fun Q hQ => ?_
  refine s27_0 ?_
  simp -implicitDefEqProofs (disch := first | (refine NE.mk ?_; first | omega | assumption) | (refine LTn.mk ?_; omega) | (refine NFam.mk ?_; simp only [enP, updO_same, notFam_cells]; omega)) [↓h27_1, enP, Nat.min_self, -List.length_flatMap]
  refine s27_2 ?_
  simp -implicitDefEqProofs (disch := first | (refine NE.mk ?_; first | omega | assumption) | (refine LTn.mk ?_; omega) | (refine NFam.mk ?_; simp only [enP, updO_same, notFam_cells]; omega)) [↓h27_3, ↓w27_3_1, ↓h27_3_1g, ↓h27_3_2, ↓w27_3_3, ↓h27_3_3g, ↓h27_3_4, enP, Nat.min_self, -List.length_flatMap]
  repeat' split
  all_goals
    refine hQ _ _ _ (.inr rfl) rfl ⟨?_, (by (try dsimp only [keepOnly_eq]); omega), fun i hi => by simp -implicitDefEqProofs (disch := first | (refine NE.mk ?_; first | omega | assumption) | (refine LTn.mk ?_; omega) | (refine NFam.mk ?_; simp only [updO_same, notFam_cells]; omega)) [Nat.min_self, -List.length_flatMap]⟩
    (try simp -implicitDefEqProofs (disch := first | (refine NE.mk ?_; first | omega | assumption) | (refine LTn.mk ?_; omega) | (refine NFam.mk ?_; simp only [updO_same, notFam_cells]; omega)) [Nat.min_self, -List.length_flatMap])
    simp_all [cleanS] <;> omega
def feedS (c : Cnt) (p : Pulse) : Cnt :=
  if soundS c = true ∧ cleanS p = true then
    if (if p.i = true then c.a + p.a else c.a - p.a) < 0 ∨ (if p.i = true then c.a + p.a else c.a - p.a) > 1600 then ⟨1, 0, 0⟩
    else if c.s = 2 ∧ p.i = false ∧ (if p.i = true then c.a + p.a else c.a - p.a) = 0 then ⟨0, 0, 0⟩ else ⟨c.s, (if p.i = true then c.a + p.a else c.a - p.a), (if p.i = true then c.a + p.a else c.a - p.a)⟩
  else ⟨1, 0, 0⟩
theorem k14 (c : Cnt) (p : Pulse) (h : AH) : wF fs out 14 [.v (.agg (enC c)), .v (.agg (enP p))] h fun r h' => r = .v (.agg (enC (feedS c p))) ∧ h.le h' := by
  refine wF_fn fs14 rfl fun Q hQ => ?_
  refine s14_0 ?_
  simp -implicitDefEqProofs (disch := first | (refine NE.mk ?_; first | omega | assumption) | (refine LTn.mk ?_; omega) | (refine NFam.mk ?_; simp only [enP, enC, updO_same, notFam_cells]; omega)) [↓h14_1, enP, enC, Nat.min_self, -List.length_flatMap]
  refine s14_2 ?_
  refine s14_3 ?_
  simp -implicitDefEqProofs (disch := first | (refine NE.mk ?_; first | omega | assumption) | (refine LTn.mk ?_; omega) | (refine NFam.mk ?_; simp only [enP, enC, updO_same, notFam_cells]; omega)) [↓h14_4, ↓h14_4_1, ↓w14_4_2, ↓h14_4_2g, ↓h14_4_2g_1, ↓h14_4_3, enP, enC, Nat.min_self, -List.length_flatMap]
  refine wF_mono (k26 c _) ?_
  rintro _ h1 ⟨rfl, hn1, ho1⟩
  (try dsimp only at hn1 ho1)
  have p0 : h1.o h.nx = some (.cells h.nx false 26 0 [.int .i64 c.s, .int .i64 c.a, .int .i64 c.b]) := by rw [ho1 _ (by omega)]; simp -implicitDefEqProofs (disch := first | (refine NE.mk ?_; first | omega | assumption) | (refine LTn.mk ?_; omega) | (refine NFam.mk ?_; simp only [updO_same, notFam_cells]; omega)) [Nat.min_self, -List.length_flatMap]
  have p1 : h1.o (h.nx + 1) = some (.cells (h.nx + 1) false 31 0 [.int .i64 p.r, .bool p.i, .int .i64 p.a, .int .i64 p.b]) := by rw [ho1 _ (by omega)]; simp -implicitDefEqProofs (disch := first | (refine NE.mk ?_; first | omega | assumption) | (refine LTn.mk ?_; omega) | (refine NFam.mk ?_; simp only [updO_same, notFam_cells]; omega)) [Nat.min_self, -List.length_flatMap]
  have p2 : h1.o (h.nx + 2) = some (.cells (h.nx + 2) false 26 0 [.int .i64 0, .int .i64 0, .int .i64 0]) := by rw [ho1 _ (by omega)]; simp -implicitDefEqProofs (disch := first | (refine NE.mk ?_; first | omega | assumption) | (refine LTn.mk ?_; omega) | (refine NFam.mk ?_; simp only [updO_same, notFam_cells]; omega)) [Nat.min_self, -List.length_flatMap]
  have low1 : ∀ i, i < h.nx → h1.o i = h.o i := fun i hi => by rw [ho1 i (by omega)]; simp -implicitDefEqProofs (disch := first | (refine NE.mk ?_; first | omega | assumption) | (refine LTn.mk ?_; omega) | (refine NFam.mk ?_; simp only [updO_same, notFam_cells]; omega)) [Nat.min_self, -List.length_flatMap]
  clear ho1
  (try simp -implicitDefEqProofs (disch := first | (refine NE.mk ?_; first | omega | assumption) | (refine LTn.mk ?_; omega) | (refine NFam.mk ?_; simp only [p0, p1, p2, updO_same, notFam_cells]; omega)) [↓h14_4, ↓h14_4_1, ↓w14_4_2, ↓h14_4_2g, ↓h14_4_2g_1, ↓h14_4_3, p0, p1, p2, Nat.min_self, -List.length_flatMap])
  have fin : ∀ (g : AH) (s : St) (d : Cnt) (cs : List Cell), s.t 4 = .v (.one (.ptr (h.nx + 2) 0)) → g.o (h.nx + 2) = some (.cells (h.nx + 2) false 26 0 cs) → (∀ i, i < h.nx → g.o i = h.o i) → h.nx + 3 ≤ g.nx → s.h = ⟨upd g.o (h.nx + 2) (some (.cells (h.nx + 2) false 26 0 (enC d))), s.h.nx⟩ → g.nx ≤ s.h.nx → feedS c p = d → Q .ret s := by
    rintro g ⟨st, sh⟩ d cs h1 h2 h3 h4 h5 h6 h7
    dsimp only at h1 h5 h6
    rw [h7] at hQ
    refine hQ _ _ _ (.inr rfl) (resc_box (s := ⟨st, sh⟩) (f := h.nx + 2) (ro := false) (e := 26) (w := 0) (cs := enC d) h1 (by rw [h5]; simp -implicitDefEqProofs (disch := first | (refine NE.mk ?_; first | omega | assumption) | (refine LTn.mk ?_; omega) | (refine NFam.mk ?_; simp only [p0, p1, p2, updO_same, notFam_cells]; omega)) [p0, p1, p2, Nat.min_self, -List.length_flatMap]) rfl) ⟨rfl, (by (try dsimp only [keepOnly_eq]); omega), fun i hi => ?_⟩
    rw [show (⟨st, sh⟩ : St).h = sh from rfl, h5]
    (try simp -implicitDefEqProofs (disch := first | (refine NE.mk ?_; first | omega | assumption) | (refine LTn.mk ?_; omega) | (refine NFam.mk ?_; simp only [p0, p1, p2, updO_same, notFam_cells]; omega)) [p0, p1, p2, Nat.min_self, -List.length_flatMap])
    exact h3 i hi
  cases hs : soundS c with
  | false =>
    (try simp -implicitDefEqProofs (disch := first | (refine NE.mk ?_; first | omega | assumption) | (refine LTn.mk ?_; omega) | (refine NFam.mk ?_; simp only [p0, p1, p2, updO_same, notFam_cells]; omega)) [p0, p1, p2, Nat.min_self, -List.length_flatMap])
    refine s14_5 ?_
    (try simp -implicitDefEqProofs (disch := first | (refine NE.mk ?_; first | omega | assumption) | (refine LTn.mk ?_; omega) | (refine NFam.mk ?_; simp only [p0, p1, p2, updO_same, notFam_cells]; omega)) [p0, p1, p2, Nat.min_self, -List.length_flatMap])
    refine s14_6 ?_
    simp -implicitDefEqProofs (disch := first | (refine NE.mk ?_; first | omega | assumption) | (refine LTn.mk ?_; omega) | (refine NFam.mk ?_; simp only [p0, p1, p2, updO_same, notFam_cells]; omega)) [↓h14_7, p0, p1, p2, Nat.min_self, -List.length_flatMap]
    exact fin h1 _ ⟨1, 0, 0⟩ _ (by simp -implicitDefEqProofs (disch := first | (refine NE.mk ?_; first | omega | assumption) | (refine LTn.mk ?_; omega) | (refine NFam.mk ?_; simp only [p0, p1, p2, updO_same, notFam_cells]; omega)) [p0, p1, p2, Nat.min_self, -List.length_flatMap]) p2 low1 (by omega) rfl (by (try dsimp only [keepOnly_eq]); omega) (by simp [feedS, hs])
  | true =>
    (try simp -implicitDefEqProofs (disch := first | (refine NE.mk ?_; first | omega | assumption) | (refine LTn.mk ?_; omega) | (refine NFam.mk ?_; simp only [p0, p1, p2, updO_same, notFam_cells]; omega)) [p0, p1, p2, Nat.min_self, -List.length_flatMap])
    refine wF_mono (k27 p _) ?_
    rintro _ h2 ⟨rfl, hn2, ho2⟩
    rw [← ho2 _ (by omega)] at p0 p1 p2
    have low2 : ∀ i, i < h.nx → h2.o i = h.o i := fun i hi => by rw [ho2 i (by omega), low1 i hi]
    clear ho2
    (try simp -implicitDefEqProofs (disch := first | (refine NE.mk ?_; first | omega | assumption) | (refine LTn.mk ?_; omega) | (refine NFam.mk ?_; simp only [p0, p1, p2, updO_same, notFam_cells]; omega)) [↓h14_4, ↓h14_4_1, ↓w14_4_2, ↓h14_4_2g, ↓h14_4_2g_1, ↓h14_4_3, p0, p1, p2, Nat.min_self, -List.length_flatMap])
    refine s14_5 ?_
    cases hc : cleanS p with
    | false =>
      (try simp -implicitDefEqProofs (disch := first | (refine NE.mk ?_; first | omega | assumption) | (refine LTn.mk ?_; omega) | (refine NFam.mk ?_; simp only [p0, p1, p2, updO_same, notFam_cells]; omega)) [p0, p1, p2, Nat.min_self, -List.length_flatMap])
      refine s14_6 ?_
      simp -implicitDefEqProofs (disch := first | (refine NE.mk ?_; first | omega | assumption) | (refine LTn.mk ?_; omega) | (refine NFam.mk ?_; simp only [p0, p1, p2, updO_same, notFam_cells]; omega)) [↓h14_7, p0, p1, p2, Nat.min_self, -List.length_flatMap]
      exact fin h2 _ ⟨1, 0, 0⟩ _ (by simp -implicitDefEqProofs (disch := first | (refine NE.mk ?_; first | omega | assumption) | (refine LTn.mk ?_; omega) | (refine NFam.mk ?_; simp only [p0, p1, p2, updO_same, notFam_cells]; omega)) [p0, p1, p2, Nat.min_self, -List.length_flatMap]) p2 low2 (by omega) rfl (by (try dsimp only [keepOnly_eq]); omega) (by simp [feedS, hc])
    | true =>
      have hs1 : (c.s = 0 ∨ c.s = 2) ∧ c.a = c.b ∧ 0 ≤ c.a ∧ c.a ≤ 1600 := by simpa [soundS, and_assoc] using hs
      have hc1 : p.a = p.b ∧ 1 ≤ p.a ∧ p.a ≤ 400 := by simpa [cleanS, and_assoc] using hc
      have w1 := wrap64 (show -9223372036854775808 ≤ c.a + p.a by omega) (by omega)
      have w2 := wrap64 (show -9223372036854775808 ≤ c.a - p.a by omega) (by omega)
      (try simp -implicitDefEqProofs (disch := first | (refine NE.mk ?_; first | omega | assumption) | (refine LTn.mk ?_; omega) | (refine NFam.mk ?_; simp only [p0, p1, p2, w1, w2, updO_same, notFam_cells]; omega)) [p0, p1, p2, w1, w2, Nat.min_self, -List.length_flatMap])
      refine s14_8 ?_
      (try simp -implicitDefEqProofs (disch := first | (refine NE.mk ?_; first | omega | assumption) | (refine LTn.mk ?_; omega) | (refine NFam.mk ?_; simp only [p0, p1, p2, w1, w2, updO_same, notFam_cells]; omega)) [↓h14_9, p0, p1, p2, w1, w2, Nat.min_self, -List.length_flatMap])
      obtain ⟨N, hN⟩ : ∃ N, N = (if p.i = true then c.a + p.a else c.a - p.a) := ⟨_, rfl⟩
      have hNb : -400 ≤ N ∧ N ≤ 2000 := by rw [hN]; split <;> omega
      have fS : feedS c p = if N < 0 ∨ N > 1600 then ⟨1, 0, 0⟩ else if c.s = 2 ∧ p.i = false ∧ N = 0 then ⟨0, 0, 0⟩ else ⟨c.s, N, N⟩ := by rw [hN]; unfold feedS; rw [if_pos ⟨hs, hc⟩]
      refine wC_cut (a := c14_11) (b := c14_15) (fun s => s.t 2 = .v (.one (.ptr h.nx 0)) ∧ s.t 3 = .v (.one (.ptr (h.nx + 1) 0)) ∧ s.t 4 = .v (.one (.ptr (h.nx + 2) 0)) ∧ s.t 5 = .v (.one (.int .i64 N)) ∧ s.h.o = h2.o ∧ h2.nx ≤ s.h.nx) ?_ ?_
      · intro Q1 h1 hX
        refine s14_11 ?_
        simp -implicitDefEqProofs (disch := first | (refine NE.mk ?_; first | omega | assumption) | (refine LTn.mk ?_; omega) | (refine NFam.mk ?_; simp only [p0, p1, p2, w1, w2, updO_same, notFam_cells]; omega)) [↓h14_12, p0, p1, p2, w1, w2, Nat.min_self, -List.length_flatMap]
        refine s14_13 ?_
        simp -implicitDefEqProofs (disch := first | (refine NE.mk ?_; first | omega | assumption) | (refine LTn.mk ?_; omega) | (refine NFam.mk ?_; simp only [p0, p1, p2, w1, w2, updO_same, notFam_cells]; omega)) [p0, p1, p2, w1, w2, Nat.min_self, -List.length_flatMap]
        split
        · rename_i hi
          exact h1 _ ⟨by simp -implicitDefEqProofs (disch := first | (refine NE.mk ?_; first | omega | assumption) | (refine LTn.mk ?_; omega) | (refine NFam.mk ?_; simp only [p0, p1, p2, w1, w2, updO_same, notFam_cells]; omega)) [p0, p1, p2, w1, w2, Nat.min_self, -List.length_flatMap], by simp -implicitDefEqProofs (disch := first | (refine NE.mk ?_; first | omega | assumption) | (refine LTn.mk ?_; omega) | (refine NFam.mk ?_; simp only [p0, p1, p2, w1, w2, updO_same, notFam_cells]; omega)) [p0, p1, p2, w1, w2, Nat.min_self, -List.length_flatMap], by simp -implicitDefEqProofs (disch := first | (refine NE.mk ?_; first | omega | assumption) | (refine LTn.mk ?_; omega) | (refine NFam.mk ?_; simp only [p0, p1, p2, w1, w2, updO_same, notFam_cells]; omega)) [p0, p1, p2, w1, w2, Nat.min_self, -List.length_flatMap], by simp -implicitDefEqProofs (disch := first | (refine NE.mk ?_; first | omega | assumption) | (refine LTn.mk ?_; omega) | (refine NFam.mk ?_; simp only [p0, p1, p2, w1, w2, updO_same, notFam_cells]; omega)) [p0, p1, p2, w1, w2, Nat.min_self, -List.length_flatMap]; rw [hN, if_pos hi], rfl, (by (try dsimp only [keepOnly_eq]); omega)⟩
        · rename_i hi
          refine s14_14 ?_
          simp -implicitDefEqProofs (disch := first | (refine NE.mk ?_; first | omega | assumption) | (refine LTn.mk ?_; omega) | (refine NFam.mk ?_; simp only [p0, p1, p2, w1, w2, updO_same, notFam_cells]; omega)) [↓h14_14, p0, p1, p2, w1, w2, Nat.min_self, -List.length_flatMap]
          exact h1 _ ⟨by simp -implicitDefEqProofs (disch := first | (refine NE.mk ?_; first | omega | assumption) | (refine LTn.mk ?_; omega) | (refine NFam.mk ?_; simp only [p0, p1, p2, w1, w2, updO_same, notFam_cells]; omega)) [p0, p1, p2, w1, w2, Nat.min_self, -List.length_flatMap], by simp -implicitDefEqProofs (disch := first | (refine NE.mk ?_; first | omega | assumption) | (refine LTn.mk ?_; omega) | (refine NFam.mk ?_; simp only [p0, p1, p2, w1, w2, updO_same, notFam_cells]; omega)) [p0, p1, p2, w1, w2, Nat.min_self, -List.length_flatMap], by simp -implicitDefEqProofs (disch := first | (refine NE.mk ?_; first | omega | assumption) | (refine LTn.mk ?_; omega) | (refine NFam.mk ?_; simp only [p0, p1, p2, w1, w2, updO_same, notFam_cells]; omega)) [p0, p1, p2, w1, w2, Nat.min_self, -List.length_flatMap], by simp -implicitDefEqProofs (disch := first | (refine NE.mk ?_; first | omega | assumption) | (refine LTn.mk ?_; omega) | (refine NFam.mk ?_; simp only [p0, p1, p2, w1, w2, updO_same, notFam_cells]; omega)) [p0, p1, p2, w1, w2, Nat.min_self, -List.length_flatMap]; rw [hN, if_neg hi], rfl, (by (try dsimp only [keepOnly_eq]); omega)⟩
      · rintro ⟨st, so, sn⟩ ⟨t2, t3, t4, t5, rfl, hn⟩
        dsimp only at t2 t3 t4 t5 hn
        refine s14_15 ?_
        refine s14_16 ?_
        refine s14_17 ?_
        by_cases n0 : N < 0
        · skip
          (try simp -implicitDefEqProofs (disch := first | (refine NE.mk ?_; first | omega | assumption) | (refine LTn.mk ?_; omega) | (refine NFam.mk ?_; simp only [p0, p1, p2, t2, t3, t4, t5, n0, updO_same, notFam_cells]; omega)) [↓h14_18, ↓w14_18_1, ↓h14_18_1g, ↓h14_18_2, p0, p1, p2, t2, t3, t4, t5, n0, Nat.min_self, -List.length_flatMap])
          refine s14_19 ?_
          (try simp -implicitDefEqProofs (disch := first | (refine NE.mk ?_; first | omega | assumption) | (refine LTn.mk ?_; omega) | (refine NFam.mk ?_; simp only [p0, p1, p2, t2, t3, t4, t5, n0, updO_same, notFam_cells]; omega)) [p0, p1, p2, t2, t3, t4, t5, n0, Nat.min_self, -List.length_flatMap])
          refine s14_20 ?_
          simp -implicitDefEqProofs (disch := first | (refine NE.mk ?_; first | omega | assumption) | (refine LTn.mk ?_; omega) | (refine NFam.mk ?_; simp only [p0, p1, p2, t2, t3, t4, t5, n0, updO_same, notFam_cells]; omega)) [↓h14_21, p0, p1, p2, t2, t3, t4, t5, n0, Nat.min_self, -List.length_flatMap]
          exact fin h2 _ ⟨1, 0, 0⟩ _ (by simp -implicitDefEqProofs (disch := first | (refine NE.mk ?_; first | omega | assumption) | (refine LTn.mk ?_; omega) | (refine NFam.mk ?_; simp only [p0, p1, p2, t2, t3, t4, t5, n0, updO_same, notFam_cells]; omega)) [p0, p1, p2, t2, t3, t4, t5, n0, Nat.min_self, -List.length_flatMap]) p2 low2 (by omega) rfl (by (try dsimp only [keepOnly_eq]); omega) (by rw [fS, if_pos (.inl n0)])
        · by_cases n1 : 1600 < N
          · skip
            (try simp -implicitDefEqProofs (disch := first | (refine NE.mk ?_; first | omega | assumption) | (refine LTn.mk ?_; omega) | (refine NFam.mk ?_; simp only [p0, p1, p2, t2, t3, t4, t5, n0, n1, updO_same, notFam_cells]; omega)) [↓h14_18, ↓w14_18_1, ↓h14_18_1g, ↓h14_18_2, p0, p1, p2, t2, t3, t4, t5, n0, n1, Nat.min_self, -List.length_flatMap])
            refine s14_19 ?_
            (try simp -implicitDefEqProofs (disch := first | (refine NE.mk ?_; first | omega | assumption) | (refine LTn.mk ?_; omega) | (refine NFam.mk ?_; simp only [p0, p1, p2, t2, t3, t4, t5, n0, n1, updO_same, notFam_cells]; omega)) [p0, p1, p2, t2, t3, t4, t5, n0, n1, Nat.min_self, -List.length_flatMap])
            refine s14_20 ?_
            simp -implicitDefEqProofs (disch := first | (refine NE.mk ?_; first | omega | assumption) | (refine LTn.mk ?_; omega) | (refine NFam.mk ?_; simp only [p0, p1, p2, t2, t3, t4, t5, n0, n1, updO_same, notFam_cells]; omega)) [↓h14_21, p0, p1, p2, t2, t3, t4, t5, n0, n1, Nat.min_self, -List.length_flatMap]
            exact fin h2 _ ⟨1, 0, 0⟩ _ (by simp -implicitDefEqProofs (disch := first | (refine NE.mk ?_; first | omega | assumption) | (refine LTn.mk ?_; omega) | (refine NFam.mk ?_; simp only [p0, p1, p2, t2, t3, t4, t5, n0, n1, updO_same, notFam_cells]; omega)) [p0, p1, p2, t2, t3, t4, t5, n0, n1, Nat.min_self, -List.length_flatMap]) p2 low2 (by omega) rfl (by (try dsimp only [keepOnly_eq]); omega) (by rw [fS, if_pos (.inr (by omega))])
          · skip
            rw [if_neg (by omega)] at fS
            (try simp -implicitDefEqProofs (disch := first | (refine NE.mk ?_; first | omega | assumption) | (refine LTn.mk ?_; omega) | (refine NFam.mk ?_; simp only [p0, p1, p2, t2, t3, t4, t5, n0, n1, updO_same, notFam_cells]; omega)) [↓h14_18, ↓w14_18_1, ↓h14_18_1g, ↓h14_18_2, p0, p1, p2, t2, t3, t4, t5, n0, n1, Nat.min_self, -List.length_flatMap])
            refine s14_19 ?_
            (try simp -implicitDefEqProofs (disch := first | (refine NE.mk ?_; first | omega | assumption) | (refine LTn.mk ?_; omega) | (refine NFam.mk ?_; simp only [p0, p1, p2, t2, t3, t4, t5, n0, n1, updO_same, notFam_cells]; omega)) [p0, p1, p2, t2, t3, t4, t5, n0, n1, Nat.min_self, -List.length_flatMap])
            refine s14_22 ?_
            by_cases d1 : c.s = 2 ∧ p.i = false ∧ N = 0
            · rw [if_pos d1] at fS
              obtain ⟨d1, d2, d3⟩ := d1
              (try simp -implicitDefEqProofs (disch := first | (refine NE.mk ?_; first | omega | assumption) | (refine LTn.mk ?_; omega) | (refine NFam.mk ?_; simp only [p0, p1, p2, t2, t3, t4, t5, n0, n1, d1, d2, d3, updO_same, notFam_cells]; omega)) [↓h14_23, ↓w14_23_1, ↓h14_23_1g, ↓h14_23_2, ↓w14_23_3, ↓h14_23_3g, ↓h14_23_4, p0, p1, p2, t2, t3, t4, t5, n0, n1, d1, d2, d3, Nat.min_self, -List.length_flatMap])
              refine s14_24 ?_
              (try simp -implicitDefEqProofs (disch := first | (refine NE.mk ?_; first | omega | assumption) | (refine LTn.mk ?_; omega) | (refine NFam.mk ?_; simp only [p0, p1, p2, t2, t3, t4, t5, n0, n1, updO_same, notFam_cells]; omega)) [p0, p1, p2, t2, t3, t4, t5, n0, n1, Nat.min_self, -List.length_flatMap])
              refine s14_25 ?_
              simp -implicitDefEqProofs (disch := first | (refine NE.mk ?_; first | omega | assumption) | (refine LTn.mk ?_; omega) | (refine NFam.mk ?_; simp only [p0, p1, p2, t2, t3, t4, t5, n0, n1, updO_same, notFam_cells]; omega)) [↓h14_26, p0, p1, p2, t2, t3, t4, t5, n0, n1, Nat.min_self, -List.length_flatMap]
              exact fin h2 _ ⟨0, 0, 0⟩ _ (by simp -implicitDefEqProofs (disch := first | (refine NE.mk ?_; first | omega | assumption) | (refine LTn.mk ?_; omega) | (refine NFam.mk ?_; simp only [p0, p1, p2, t2, t3, t4, t5, n0, n1, updO_same, notFam_cells]; omega)) [p0, p1, p2, t2, t3, t4, t5, n0, n1, Nat.min_self, -List.length_flatMap]) p2 low2 (by omega) rfl (by (try dsimp only [keepOnly_eq]); omega) fS
            · rw [if_neg d1] at fS
              (try simp -implicitDefEqProofs (disch := first | (refine NE.mk ?_; first | omega | assumption) | (refine LTn.mk ?_; omega) | (refine NFam.mk ?_; simp only [p0, p1, p2, t2, t3, t4, t5, n0, n1, updO_same, notFam_cells]; omega)) [↓h14_23, ↓w14_23_1, ↓h14_23_1g, ↓h14_23_2, ↓w14_23_3, ↓h14_23_3g, ↓h14_23_4, p0, p1, p2, t2, t3, t4, t5, n0, n1, Nat.min_self, -List.length_flatMap])
              have tail : ∀ (t : Nat → T) (m : Nat), h2.nx ≤ m → t 2 = .v (.one (.ptr h.nx 0)) → t 4 = .v (.one (.ptr (h.nx + 2) 0)) → t 5 = .v (.one (.int .i64 N)) → wC fs out c14_27 ⟨t, ⟨h2.o, m⟩⟩ Q := by
                intro t m hm t2 t4 t5
                refine s14_27 ?_
                simp -implicitDefEqProofs (disch := first | (refine NE.mk ?_; first | omega | assumption) | (refine LTn.mk ?_; omega) | (refine NFam.mk ?_; simp only [p0, p1, p2, t2, t4, t5, updO_same, notFam_cells]; omega)) [↓h14_28, p0, p1, p2, t2, t4, t5, Nat.min_self, -List.length_flatMap]
                exact fin h2 _ ⟨c.s, N, N⟩ _ (by simp -implicitDefEqProofs (disch := first | (refine NE.mk ?_; first | omega | assumption) | (refine LTn.mk ?_; omega) | (refine NFam.mk ?_; simp only [p0, p1, p2, t2, t4, t5, updO_same, notFam_cells]; omega)) [p0, p1, p2, t2, t4, t5, Nat.min_self, -List.length_flatMap]) p2 low2 (by omega) rfl (by (try dsimp only [keepOnly_eq]); omega) fS
              repeat' split
              all_goals (refine s14_24 ?_)
              all_goals simp -implicitDefEqProofs (disch := first | (refine NE.mk ?_; first | omega | assumption) | (refine LTn.mk ?_; omega) | (refine NFam.mk ?_; simp only [t2, t3, t4, t5, updO_same, notFam_cells]; omega)) [t2, t3, t4, t5, Nat.min_self, -List.length_flatMap]
              · refine tail _ _ (by (try dsimp only [keepOnly_eq]); omega) ?_ ?_ ?_ <;> simp -implicitDefEqProofs (disch := first | (refine NE.mk ?_; first | omega | assumption) | (refine LTn.mk ?_; omega) | (refine NFam.mk ?_; simp only [t2, t3, t4, t5, updO_same, notFam_cells]; omega)) [t2, t3, t4, t5, Nat.min_self, -List.length_flatMap]
              · rename_i e1 e2
                rw [if_neg (fun e3 => d1 ⟨e1, by simpa using e2, e3⟩)]
                refine tail _ _ (by (try dsimp only [keepOnly_eq]); omega) ?_ ?_ ?_ <;> simp -implicitDefEqProofs (disch := first | (refine NE.mk ?_; first | omega | assumption) | (refine LTn.mk ?_; omega) | (refine NFam.mk ?_; simp only [t2, t3, t4, t5, updO_same, notFam_cells]; omega)) [t2, t3, t4, t5, Nat.min_self, -List.length_flatMap]
              · refine tail _ _ (by (try dsimp only [keepOnly_eq]); omega) ?_ ?_ ?_ <;> simp -implicitDefEqProofs (disch := first | (refine NE.mk ?_; first | omega | assumption) | (refine LTn.mk ?_; omega) | (refine NFam.mk ?_; simp only [t2, t3, t4, t5, updO_same, notFam_cells]; omega)) [t2, t3, t4, t5, Nat.min_self, -List.length_flatMap]
end Go.Proofs.Ytellgcahkpaldaa.Fn
