/- Contracts: pulses. Conditions: none. -/
import Derived.Test.YtellgcahkpaldaaX1
set_option linter.unusedVariables false
set_option linter.unusedSimpArgs false
namespace Go.Proofs.Ytellgcahkpaldaa.Fn
open Go Go.Am
set_option maxRecDepth 100000
set_option maxHeartbeats 1000000
structure Pulse where
  r : Int
  i : Bool
  a : Int
  b : Int
def enP (p : Pulse) : List Cell := [.int .i64 p.r, .bool p.i, .int .i64 p.a, .int .i64 p.b]
theorem enP_len (p : Pulse) : (enP p).length = 4 := rfl
theorem enP_solid (p : Pulse) : solid (enP p) = true := by simp [enP]
theorem k22 (x : Cell) (l : List Int) (h : AH) (v : View h.o h.nx x enI l) (hlen : l.length < 9223372036854775807) :
    wF fs out 22 [.v (.one x)] h fun r h' => ∃ y lp f, r = .v (.one y) ∧ Own h'.o h.nx h'.nx y 31 4 enP lp f ∧ lp.length ≤ 12 ∧ (∀ p ∈ lp, 0 ≤ p.r ∧ p.r < 3) ∧ h.le h' := by
  refine wF_fn fs22 rfl fun Q hQ => ?_
  refine s22_0 ?_
  simp -implicitDefEqProofs (disch := first | (refine NE.mk ?_; first | omega | assumption) | (refine LTn.mk ?_; omega) | (refine NFam.mk ?_; simp only [updO_same, notFam_cells]; omega)) [↓h22_1, Nat.min_self, -List.length_flatMap]
  refine s22_2 ?_
  simp -implicitDefEqProofs (disch := first | (refine NE.mk ?_; first | omega | assumption) | (refine LTn.mk ?_; omega) | (refine NFam.mk ?_; simp only [updO_same, notFam_cells]; omega)) [↓h22_3, ↓h22_3_1, Nat.min_self, -List.length_flatMap]
  refine wF_mono (k11s x l _ h.nx v (by simp -implicitDefEqProofs (disch := first | (refine NE.mk ?_; first | omega | assumption) | (refine LTn.mk ?_; omega) | (refine NFam.mk ?_; simp only [updO_same, notFam_cells]; omega)) [Nat.min_self, -List.length_flatMap]; omega) hlen) ?_
  rintro _ h1 ⟨j, rfl, hj, S, hn1, ho1⟩
  (try dsimp only at hj hn1 ho1)
  (try simp -implicitDefEqProofs (disch := first | (refine NE.mk ?_; first | omega | assumption) | (refine LTn.mk ?_; omega) | (refine NFam.mk ?_; simp only [updO_same, notFam_cells]; omega)) [↓h22_3, ↓h22_3_1, Nat.min_self, -List.length_flatMap])
  refine s22_4 ?_
  simp -implicitDefEqProofs (disch := first | (refine NE.mk ?_; first | omega | assumption) | (refine LTn.mk ?_; omega) | (refine NFam.mk ?_; simp only [updO_same, notFam_cells]; omega)) [↓h22_5, Nat.min_self, -List.length_flatMap]
  refine s22_6 ?_
  refine s22_7 ?_
  simp -implicitDefEqProofs (disch := first | (refine NE.mk ?_; first | omega | assumption) | (refine LTn.mk ?_; omega) | (refine NFam.mk ?_; simp only [updO_same, notFam_cells]; omega)) [↓h22_8, ↓h22_8_1, Nat.min_self, -List.length_flatMap]
  refine wF_mono (k13s 12 (by omega) (by omega) h.nx j _ (S.keep (by simp -implicitDefEqProofs (disch := first | (refine NE.mk ?_; first | omega | assumption) | (refine LTn.mk ?_; omega) | (refine NFam.mk ?_; simp only [updO_same, notFam_cells]; omega)) [Nat.min_self, -List.length_flatMap]; omega) fun _ _ => rfl)) ?_
  rintro _ h2 ⟨⟨n, rfl, hn0, hn⟩, S, hn2, ho2⟩
  (try dsimp only at hn2 ho2)
  (try simp -implicitDefEqProofs (disch := first | (refine NE.mk ?_; first | omega | assumption) | (refine LTn.mk ?_; omega) | (refine NFam.mk ?_; simp only [updO_same, notFam_cells]; omega)) [↓h22_8, ↓h22_8_1, Nat.min_self, -List.length_flatMap])
  refine s22_9 ?_
  refine s22_10 (fun m s => ∃ y lp f, s.t 3 = .v (.one (.ptr j 0)) ∧ s.t 4 = .v (.one y) ∧ s.t 5 = .v (.one (.int .i64 m)) ∧ Own s.h.o h.nx s.h.nx y 31 4 enP lp f ∧ f ≠ j ∧ lp.length + m ≤ 12 ∧ (∀ p ∈ lp, 0 ≤ p.r ∧ p.r < 3) ∧ Src s.h h.nx j ∧ h.le s.h) n.toNat ?_ ?_
  · refine ⟨.nils, [], j + 1, by simp -implicitDefEqProofs (disch := first | (refine NE.mk ?_; first | omega | assumption) | (refine LTn.mk ?_; omega) | (refine NFam.mk ?_; simp only [updO_same, notFam_cells]; omega)) [Nat.min_self, -List.length_flatMap], by simp -implicitDefEqProofs (disch := first | (refine NE.mk ?_; first | omega | assumption) | (refine LTn.mk ?_; omega) | (refine NFam.mk ?_; simp only [updO_same, notFam_cells]; omega)) [Nat.min_self, -List.length_flatMap], by simp -implicitDefEqProofs (disch := first | (refine NE.mk ?_; first | omega | assumption) | (refine LTn.mk ?_; omega) | (refine NFam.mk ?_; simp only [updO_same, notFam_cells]; omega)) [Nat.min_self, -List.length_flatMap]; omega, Own.nil, by omega, by simp; omega, by simp, S, by simp -implicitDefEqProofs (disch := first | (refine NE.mk ?_; first | omega | assumption) | (refine LTn.mk ?_; omega) | (refine NFam.mk ?_; simp only [updO_same, notFam_cells]; omega)) [Nat.min_self, -List.length_flatMap]; omega, fun i hi => ?_⟩
    (try simp -implicitDefEqProofs (disch := first | (refine NE.mk ?_; first | omega | assumption) | (refine LTn.mk ?_; omega) | (refine NFam.mk ?_; simp only [updO_same, notFam_cells]; omega)) [Nat.min_self, -List.length_flatMap])
    rw [ho2 i (by omega) (by omega), ho1 i (by omega)]
  · rintro m s Q' ⟨y, lp, f, t3, t4, t5, O, hf, hl, hp, S, hle⟩ hN hE hR
    obtain ⟨hn0, ho0⟩ := hle
    have hjn := S.lt
    refine s22_11 ?_
    refine s22_12 ?_
    simp -implicitDefEqProofs (disch := first | (refine NE.mk ?_; first | omega | assumption) | (refine LTn.mk ?_; omega) | (refine NFam.mk ?_; simp only [t3, t4, t5, updO_same, notFam_cells]; omega)) [↓h22_13, t3, t4, t5, Nat.min_self, -List.length_flatMap]
    refine s22_14 ?_
    simp -implicitDefEqProofs (disch := first | (refine NE.mk ?_; first | omega | assumption) | (refine LTn.mk ?_; omega) | (refine NFam.mk ?_; simp only [t3, t4, t5, updO_same, notFam_cells]; omega)) [t3, t4, t5, Nat.min_self, -List.length_flatMap]
    split
    · rename_i hm
      refine s22_15 ?_
      refine s22_16 ?_
      refine s22_17 ?_
      simp -implicitDefEqProofs (disch := first | (refine NE.mk ?_; first | omega | assumption) | (refine LTn.mk ?_; omega) | (refine NFam.mk ?_; simp only [t3, t4, t5, updO_same, notFam_cells]; omega)) [↓h22_18, ↓h22_18_1, ↓h22_18_2, ↓h22_18_3, t3, t4, t5, Nat.min_self, -List.length_flatMap]
      refine wF_mono (k13s 3 (by omega) (by omega) h.nx j _ (S.keep (by (try dsimp only [keepOnly_eq]); omega) fun _ _ => rfl)) ?_
      rintro _ h3 ⟨⟨v1, rfl, hv1, hv1'⟩, S, hn3, ho3⟩
      (try dsimp only at hn3 ho3)
      (try simp -implicitDefEqProofs (disch := first | (refine NE.mk ?_; first | omega | assumption) | (refine LTn.mk ?_; omega) | (refine NFam.mk ?_; simp only [t3, t4, t5, updO_same, notFam_cells]; omega)) [↓h22_18, ↓h22_18_1, ↓h22_18_2, ↓h22_18_3, t3, t4, t5, Nat.min_self, -List.length_flatMap])
      refine wF_mono (k13s 2 (by omega) (by omega) h.nx j _ (S.keep (by (try dsimp only [keepOnly_eq]); omega) fun _ _ => rfl)) ?_
      rintro _ h4 ⟨⟨v2, rfl, hv2, hv2'⟩, S, hn4, ho4⟩
      (try dsimp only at hn4 ho4)
      (try simp -implicitDefEqProofs (disch := first | (refine NE.mk ?_; first | omega | assumption) | (refine LTn.mk ?_; omega) | (refine NFam.mk ?_; simp only [t3, t4, t5, updO_same, notFam_cells]; omega)) [↓h22_18, ↓h22_18_1, ↓h22_18_2, ↓h22_18_3, t3, t4, t5, Nat.min_self, -List.length_flatMap])
      refine wF_mono (k13s 3 (by omega) (by omega) h.nx j _ (S.keep (by (try dsimp only [keepOnly_eq]); omega) fun _ _ => rfl)) ?_
      rintro _ h5 ⟨⟨v3, rfl, hv3, hv3'⟩, S, hn5, ho5⟩
      (try dsimp only at hn5 ho5)
      (try simp -implicitDefEqProofs (disch := first | (refine NE.mk ?_; first | omega | assumption) | (refine LTn.mk ?_; omega) | (refine NFam.mk ?_; simp only [t3, t4, t5, wrap64 (show -9223372036854775808 ≤ 1 + v3 by omega) (by omega), updO_same, notFam_cells]; omega)) [↓h22_18, ↓h22_18_1, ↓h22_18_2, ↓h22_18_3, t3, t4, t5, wrap64 (show -9223372036854775808 ≤ 1 + v3 by omega) (by omega), Nat.min_self, -List.length_flatMap])
      obtain ⟨q, hq⟩ : ∃ q, q = s.h.nx + 2 + 9 := ⟨_, rfl⟩
      rw [← hq]
      have O5 : Own h5.o h.nx s.h.nx y 31 4 enP lp f := O.keep (by omega) fun i cs h1 h2 h3 => by
        have : i ≠ j := fun e => by subst e; exact Src.own ‹Src s.h h.nx i› h3
        rw [ho5 i (by omega) this, ho4 i (by omega) this, ho3 i (by omega) this]
      have hlow : ∀ i, i < h.nx → h5.o i = h.o i := fun i hi => by rw [ho5 i (by omega) (by omega), ho4 i (by omega) (by omega), ho3 i (by omega) (by omega), ho0 i hi]
      refine s22_19 ?_
      (try simp -implicitDefEqProofs (disch := first | (refine NE.mk ?_; first | omega | assumption) | (refine LTn.mk ?_; omega) | (refine NFam.mk ?_; simp only [t3, t4, t5, updO_same, notFam_cells]; omega)) [↓h22_20, t3, t4, t5, Nat.min_self, -List.length_flatMap])
      refine wC_cut (a := c22_22) (b := c22_26) (fun s1 => ∃ B, s1.t 3 = .v (.one (.ptr j 0)) ∧ s1.t 4 = .v (.one y) ∧ s1.t 5 = .v (.one (.int .i64 m)) ∧ s1.t 6 = .v (.one (.ptr q 0)) ∧ s1.h.o q = some (.cells q false 31 0 (enP ⟨v1, v2 == 0, 1 + v3, B⟩)) ∧ Own s1.h.o h.nx s.h.nx y 31 4 enP lp f ∧ Src s1.h h.nx j ∧ h5.nx ≤ s1.h.nx ∧ ∀ i, i < h.nx → s1.h.o i = h.o i) ?_ ?_
      · intro Q1 h1 hX
        refine s22_22 ?_
        simp -implicitDefEqProofs (disch := first | (refine NE.mk ?_; first | omega | assumption) | (refine LTn.mk ?_; omega) | (refine NFam.mk ?_; simp only [t3, t4, t5, updO_same, notFam_cells]; omega)) [↓h22_23, ↓h22_23_1, t3, t4, t5, Nat.min_self, -List.length_flatMap]
        refine wF_mono (k13s 8 (by omega) (by omega) h.nx j _ (S.keep (by (try dsimp only [keepOnly_eq]); omega) fun i hi => by rcases hi with hi | hi <;> simp -implicitDefEqProofs (disch := first | (refine NE.mk ?_; first | omega | assumption) | (refine LTn.mk ?_; omega) | (refine NFam.mk ?_; simp only [t3, t4, t5, updO_same, notFam_cells]; omega)) [t3, t4, t5, Nat.min_self, -List.length_flatMap])) ?_
        rintro _ h6 ⟨⟨v4, rfl, hv4, hv4'⟩, S, hn6, ho6⟩
        (try dsimp only at hn6 ho6)
        (try simp -implicitDefEqProofs (disch := first | (refine NE.mk ?_; first | omega | assumption) | (refine LTn.mk ?_; omega) | (refine NFam.mk ?_; simp only [t3, t4, t5, updO_same, notFam_cells]; omega)) [↓h22_23, ↓h22_23_1, t3, t4, t5, Nat.min_self, -List.length_flatMap])
        refine s22_24 ?_
        (try simp -implicitDefEqProofs (disch := first | (refine NE.mk ?_; first | omega | assumption) | (refine LTn.mk ?_; omega) | (refine NFam.mk ?_; simp only [t3, t4, t5, updO_same, notFam_cells]; omega)) [t3, t4, t5, Nat.min_self, -List.length_flatMap])
        have q6 : h6.o q = some (.cells q false 31 0 [.int .i64 v1, .bool (v2 == 0), .int .i64 (1 + v3), .int .i64 (1 + v3)]) := by
          rw [ho6 q (by omega) (by omega)]; simp -implicitDefEqProofs (disch := first | (refine NE.mk ?_; first | omega | assumption) | (refine LTn.mk ?_; omega) | (refine NFam.mk ?_; simp only [t3, t4, t5, updO_same, notFam_cells]; omega)) [t3, t4, t5, Nat.min_self, -List.length_flatMap]
        have O6 : Own h6.o h.nx s.h.nx y 31 4 enP lp f := O5.keep (Nat.le_refl _) fun i cs h1 h2 h3 => by
          have e1 : i ≠ j := fun e => by subst e; exact Src.own ‹Src h5 h.nx i› h3
          rw [ho6 i (by omega) e1]; simp -implicitDefEqProofs (disch := first | (refine NE.mk ?_; first | omega | assumption) | (refine LTn.mk ?_; omega) | (refine NFam.mk ?_; simp only [t3, t4, t5, updO_same, notFam_cells]; omega)) [t3, t4, t5, Nat.min_self, -List.length_flatMap]
        have low6 : ∀ i, i < h.nx → h6.o i = h.o i := fun i hi => by
          rw [ho6 i (by omega) (by omega)]; simp -implicitDefEqProofs (disch := first | (refine NE.mk ?_; first | omega | assumption) | (refine LTn.mk ?_; omega) | (refine NFam.mk ?_; simp only [t3, t4, t5, updO_same, notFam_cells]; omega)) [t3, t4, t5, Nat.min_self, -List.length_flatMap]; exact hlow i hi
        split
        · refine s22_25 ?_
          simp -implicitDefEqProofs (disch := first | (refine NE.mk ?_; first | omega | assumption) | (refine LTn.mk ?_; omega) | (refine NFam.mk ?_; simp only [t3, t4, t5, updO_same, notFam_cells]; omega)) [↓h22_25, ↓h22_25_1, t3, t4, t5, Nat.min_self, -List.length_flatMap]
          refine wF_mono (k13s 4 (by omega) (by omega) h.nx j _ (S.keep (by (try dsimp only [keepOnly_eq]); omega) fun i hi => by rcases hi with hi | hi <;> simp -implicitDefEqProofs (disch := first | (refine NE.mk ?_; first | omega | assumption) | (refine LTn.mk ?_; omega) | (refine NFam.mk ?_; simp only [t3, t4, t5, updO_same, notFam_cells]; omega)) [t3, t4, t5, Nat.min_self, -List.length_flatMap])) ?_
          rintro _ h7 ⟨⟨v5, rfl, hv5, hv5'⟩, S, hn7, ho7⟩
          (try dsimp only at hn7 ho7)
          have q7 := (ho7 q (by omega) (by omega)).trans q6
          (try simp -implicitDefEqProofs (disch := first | (refine NE.mk ?_; first | omega | assumption) | (refine LTn.mk ?_; omega) | (refine NFam.mk ?_; simp only [t3, t4, t5, q7, updO_same, notFam_cells]; omega)) [↓h22_25, ↓h22_25_1, t3, t4, t5, q7, Nat.min_self, -List.length_flatMap])
          refine h1 _ ⟨v5, by simp -implicitDefEqProofs (disch := first | (refine NE.mk ?_; first | omega | assumption) | (refine LTn.mk ?_; omega) | (refine NFam.mk ?_; simp only [t3, t4, t5, updO_same, notFam_cells]; omega)) [t3, t4, t5, Nat.min_self, -List.length_flatMap], by simp -implicitDefEqProofs (disch := first | (refine NE.mk ?_; first | omega | assumption) | (refine LTn.mk ?_; omega) | (refine NFam.mk ?_; simp only [t3, t4, t5, updO_same, notFam_cells]; omega)) [t3, t4, t5, Nat.min_self, -List.length_flatMap], by simp -implicitDefEqProofs (disch := first | (refine NE.mk ?_; first | omega | assumption) | (refine LTn.mk ?_; omega) | (refine NFam.mk ?_; simp only [t3, t4, t5, updO_same, notFam_cells]; omega)) [t3, t4, t5, Nat.min_self, -List.length_flatMap], by simp -implicitDefEqProofs (disch := first | (refine NE.mk ?_; first | omega | assumption) | (refine LTn.mk ?_; omega) | (refine NFam.mk ?_; simp only [t3, t4, t5, updO_same, notFam_cells]; omega)) [t3, t4, t5, Nat.min_self, -List.length_flatMap], by simp -implicitDefEqProofs (disch := first | (refine NE.mk ?_; first | omega | assumption) | (refine LTn.mk ?_; omega) | (refine NFam.mk ?_; simp only [t3, t4, t5, enP, updO_same, notFam_cells]; omega)) [t3, t4, t5, enP, Nat.min_self, -List.length_flatMap], O6.keep (Nat.le_refl _) fun i cs h1 h2 h3 => ?_, S.keep (by (try dsimp only [keepOnly_eq]); omega) fun i hi => by rcases hi with hi | hi <;> simp -implicitDefEqProofs (disch := first | (refine NE.mk ?_; first | omega | assumption) | (refine LTn.mk ?_; omega) | (refine NFam.mk ?_; simp only [t3, t4, t5, updO_same, notFam_cells]; omega)) [t3, t4, t5, Nat.min_self, -List.length_flatMap], (by (try dsimp only [keepOnly_eq]); omega), fun i hi => ?_⟩
          · have e1 : i ≠ j := fun e => by subst e; exact Src.own ‹Src h6 h.nx i› h3
            (try simp -implicitDefEqProofs (disch := first | (refine NE.mk ?_; first | omega | assumption) | (refine LTn.mk ?_; omega) | (refine NFam.mk ?_; simp only [t3, t4, t5, updO_same, notFam_cells]; omega)) [t3, t4, t5, Nat.min_self, -List.length_flatMap])
            rw [ho7 i (by omega) e1]
          · (try simp -implicitDefEqProofs (disch := first | (refine NE.mk ?_; first | omega | assumption) | (refine LTn.mk ?_; omega) | (refine NFam.mk ?_; simp only [t3, t4, t5, updO_same, notFam_cells]; omega)) [t3, t4, t5, Nat.min_self, -List.length_flatMap])
            rw [ho7 i (by omega) (by omega), low6 i hi]
        · refine h1 _ ⟨1 + v3, by simp -implicitDefEqProofs (disch := first | (refine NE.mk ?_; first | omega | assumption) | (refine LTn.mk ?_; omega) | (refine NFam.mk ?_; simp only [t3, t4, t5, updO_same, notFam_cells]; omega)) [t3, t4, t5, Nat.min_self, -List.length_flatMap], by simp -implicitDefEqProofs (disch := first | (refine NE.mk ?_; first | omega | assumption) | (refine LTn.mk ?_; omega) | (refine NFam.mk ?_; simp only [t3, t4, t5, updO_same, notFam_cells]; omega)) [t3, t4, t5, Nat.min_self, -List.length_flatMap], by simp -implicitDefEqProofs (disch := first | (refine NE.mk ?_; first | omega | assumption) | (refine LTn.mk ?_; omega) | (refine NFam.mk ?_; simp only [t3, t4, t5, updO_same, notFam_cells]; omega)) [t3, t4, t5, Nat.min_self, -List.length_flatMap], by simp -implicitDefEqProofs (disch := first | (refine NE.mk ?_; first | omega | assumption) | (refine LTn.mk ?_; omega) | (refine NFam.mk ?_; simp only [t3, t4, t5, updO_same, notFam_cells]; omega)) [t3, t4, t5, Nat.min_self, -List.length_flatMap], q6, O6, S.keep (by (try dsimp only [keepOnly_eq]); omega) fun _ _ => rfl, (by (try dsimp only [keepOnly_eq]); omega), low6⟩
      · rintro s1 ⟨B, t3, t4, t5, t6, hq1, O, S, hn5, hlow⟩
        refine s22_26 ?_
        (try simp -implicitDefEqProofs (disch := first | (refine NE.mk ?_; first | omega | assumption) | (refine LTn.mk ?_; omega) | (refine NFam.mk ?_; simp only [t3, t4, t5, t6, hq1, enP, updO_same, notFam_cells]; omega)) [↓h22_26, ↓h22_26_1, t3, t4, t5, t6, hq1, enP, Nat.min_self, -List.length_flatMap])
        refine app_own (f := f) (lo := h.nx) (n := s.h.nx) (x := y) (l := lp) (l2 := [⟨v1, v2 == 0, 1 + v3, B⟩]) (enc := enP) ?_ ?_ ?_ (src_one (f := s1.h.nx + 2) (ro := false) (e := 31) (s := 4) (w := 4) ?_ rfl) enP_len enP_solid (show 0 < 4 by omega) ⟨?_, ?_⟩ ?_
        · omega
        · omega
        · exact O.keep (by omega) fun i cs h1 h2 h3 => by simp -implicitDefEqProofs (disch := first | (refine NE.mk ?_; first | omega | assumption) | (refine LTn.mk ?_; omega) | (refine NFam.mk ?_; simp only [t3, t4, t5, t6, updO_same, notFam_cells]; omega)) [t3, t4, t5, t6, Nat.min_self, -List.length_flatMap]
        · (try simp -implicitDefEqProofs (disch := first | (refine NE.mk ?_; first | omega | assumption) | (refine LTn.mk ?_; omega) | (refine NFam.mk ?_; simp only [t3, t4, t5, t6, enP, updO_same, notFam_cells]; omega)) [t3, t4, t5, t6, enP, Nat.min_self, -List.length_flatMap])
        · simp; omega
        · simp; omega
        rintro x' f' o' O' hf' ho'
        (try dsimp only at ho')
        (try simp -implicitDefEqProofs (disch := first | (refine NE.mk ?_; first | omega | assumption) | (refine LTn.mk ?_; omega) | (refine NFam.mk ?_; simp only [t3, t4, t5, t6, updO_same, notFam_cells]; omega)) [↓h22_26, ↓h22_26_1, t3, t4, t5, t6, Nat.min_self, -List.length_flatMap])
        refine s22_27 ?_
        simp -implicitDefEqProofs (disch := first | (refine NE.mk ?_; first | omega | assumption) | (refine LTn.mk ?_; omega) | (refine NFam.mk ?_; simp only [t3, t4, t5, t6, updO_same, notFam_cells]; omega)) [↓h22_27, t3, t4, t5, t6, Nat.min_self, -List.length_flatMap]
        have hj2 := S.lt
        have w1 := wrap64 (show -9223372036854775808 ≤ (m : Int) - 1 by omega) (by omega)
        have keepj : ∀ i, i < h.nx ∨ i = j → o' i = s1.h.o i := fun i hi => by
          obtain ⟨x0, l0, p0, v0, a0, b0, c0, d0⟩ := S
          rw [ho' i (by omega) (by
            rcases hi with hi | rfl
            · exact .inl hi
            · right; simp -implicitDefEqProofs (disch := first | (refine NE.mk ?_; first | omega | assumption) | (refine LTn.mk ?_; omega) | (refine NFam.mk ?_; simp only [t3, t4, t5, t6, c0, updO_same, notFam_cells]; omega)) [t3, t4, t5, t6, c0, Nat.min_self, -List.length_flatMap]; omega)]
          (try simp -implicitDefEqProofs (disch := first | (refine NE.mk ?_; first | omega | assumption) | (refine LTn.mk ?_; omega) | (refine NFam.mk ?_; simp only [t3, t4, t5, t6, updO_same, notFam_cells]; omega)) [t3, t4, t5, t6, Nat.min_self, -List.length_flatMap])
        refine hN (m - 1) _ (by omega) ?_
        dsimp only [keepOnly_eq]
        refine ⟨x', lp ++ [⟨v1, v2 == 0, 1 + v3, B⟩], f', by simp -implicitDefEqProofs (disch := first | (refine NE.mk ?_; first | omega | assumption) | (refine LTn.mk ?_; omega) | (refine NFam.mk ?_; simp only [t3, t4, t5, t6, updO_same, notFam_cells]; omega)) [t3, t4, t5, t6, Nat.min_self, -List.length_flatMap], by simp -implicitDefEqProofs (disch := first | (refine NE.mk ?_; first | omega | assumption) | (refine LTn.mk ?_; omega) | (refine NFam.mk ?_; simp only [t3, t4, t5, t6, updO_same, notFam_cells]; omega)) [t3, t4, t5, t6, Nat.min_self, -List.length_flatMap], by simp -implicitDefEqProofs (disch := first | (refine NE.mk ?_; first | omega | assumption) | (refine LTn.mk ?_; omega) | (refine NFam.mk ?_; simp only [t3, t4, t5, t6, w1, updO_same, notFam_cells]; omega)) [t3, t4, t5, t6, w1, Nat.min_self, -List.length_flatMap]; omega, O'.keep' (by (try dsimp only [keepOnly_eq]); omega) fun _ _ => rfl, by omega, by simp; omega, ?_, S.keep (by (try dsimp only [keepOnly_eq]); omega) keepj, (by (try dsimp only [keepOnly_eq]); omega), fun i hi => ?_⟩
        · intro p hp'
          rcases List.mem_append.1 hp' with h1 | h1
          · exact hp p h1
          · simp at h1; subst h1; exact ⟨hv1, hv1'⟩
        · exact (keepj i (.inl hi)).trans (hlow i hi)
    · refine hE 0 _ ?_
      (try simp -implicitDefEqProofs (disch := first | (refine NE.mk ?_; first | omega | assumption) | (refine LTn.mk ?_; omega) | (refine NFam.mk ?_; simp only [t3, t4, t5, updO_same, notFam_cells]; omega)) [t3, t4, t5, Nat.min_self, -List.length_flatMap])
      refine s22_28 ?_
      simp -implicitDefEqProofs (disch := first | (refine NE.mk ?_; first | omega | assumption) | (refine LTn.mk ?_; omega) | (refine NFam.mk ?_; simp only [t3, t4, t5, updO_same, notFam_cells]; omega)) [↓h22_29, t3, t4, t5, Nat.min_self, -List.length_flatMap]
      refine hQ _ _ _ (.inr rfl) rfl ⟨y, lp, f, by simp -implicitDefEqProofs (disch := first | (refine NE.mk ?_; first | omega | assumption) | (refine LTn.mk ?_; omega) | (refine NFam.mk ?_; simp only [t3, t4, t5, updO_same, notFam_cells]; omega)) [t3, t4, t5, Nat.min_self, -List.length_flatMap], O.keep' (by (try dsimp only [keepOnly_eq]); omega) fun _ _ => rfl, by omega, hp, (by (try dsimp only [keepOnly_eq]); omega), ho0⟩
end Go.Proofs.Ytellgcahkpaldaa.Fn
