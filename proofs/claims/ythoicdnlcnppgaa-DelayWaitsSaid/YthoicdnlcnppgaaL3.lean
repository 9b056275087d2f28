/- Contract: the law DelayWaits. Conditions: none. -/
import Derived.Test.YthoicdnlcnppgaaD11
import Derived.Test.YthoicdnlcnppgaaFl3
set_option linter.unusedVariables false
set_option linter.unusedSimpArgs false
namespace Go.Proofs.Ythoicdnlcnppgaa.Fn
open Go Go.Am
set_option maxRecDepth 100000
set_option maxHeartbeats 1000000
theorem k3 (x : Cell) (l : List Int) (h : AH) (v : View h.o h.nx x enI l) (hlen : l.length < 9223372036854775807) :
    wF fl3 out 3 [.v (.one x)] h fun r h' => r = .v (.one (.bool true)) := by
  refine wF_fn fs3 rfl fun Q hQ => ?_
  refine s3_0 ?_
  simp -implicitDefEqProofs (disch := first | (refine NE.mk ?_; first | omega | assumption) | (refine LTn.mk ?_; omega) | (refine NFam.mk ?_; simp only [updO_same, notFam_cells]; omega)) [↓h3_1, Nat.min_self, -List.length_flatMap]
  refine s3_2 ?_
  simp -implicitDefEqProofs (disch := first | (refine NE.mk ?_; first | omega | assumption) | (refine LTn.mk ?_; omega) | (refine NFam.mk ?_; simp only [updO_same, notFam_cells]; omega)) [↓h3_3, ↓h3_3_1, Nat.min_self, -List.length_flatMap]
  refine wF_mono (lift3 (k12 x l _ (v.keep (by (try dsimp only [keepOnly_eq]); omega) fun i hi => rfl) hlen)) ?_
  rintro _ h1 ⟨xm, m, fm, xw, w, fw, xp, p, fp, j, rfl, D, M, hm0, hle1⟩
  have V := M.valid
  (try simp -implicitDefEqProofs (disch := first | (refine NE.mk ?_; first | omega | assumption) | (refine LTn.mk ?_; omega) | (refine NFam.mk ?_; simp only [updO_same, notFam_cells]; omega)) [↓h3_3, ↓h3_3_1, Nat.min_self, -List.length_flatMap])
  refine s3_4 ?_
  simp -implicitDefEqProofs (disch := first | (refine NE.mk ?_; first | omega | assumption) | (refine LTn.mk ?_; omega) | (refine NFam.mk ?_; simp only [updO_same, notFam_cells]; omega)) [↓h3_5, ↓h3_5_1, Nat.min_self, -List.length_flatMap]
  refine wF_mono (lift3 (k13 xm xw xp m w p _ (D.m.view.keep (by (try dsimp only [keepOnly_eq]); omega) fun i hi => rfl) (D.w.view.keep (by (try dsimp only [keepOnly_eq]); omega) fun i hi => rfl) (D.p.view.keep (by (try dsimp only [keepOnly_eq]); omega) fun i hi => rfl) (by have := V.ml; omega) (by have := V.wl; omega) (by have := V.pl; omega))) ?_
  rintro _ h2 ⟨⟨hV, _⟩ | ⟨y, z, b, a, kp, _, P, rfl, vy, vz⟩, hn2, ho2⟩
  · exact absurd V hV
  (try dsimp only at hn2 ho2)
  have vm := D.m.view.keep (n' := h2.nx) (o' := h2.o) (by omega) (fun i hi => ho2 i (by omega))
  have vw := D.w.view.keep (n' := h2.nx) (o' := h2.o) (by omega) (fun i hi => ho2 i (by omega))
  clear D hn2 ho2 hle1
  have hml := V.ml
  have hwl := V.wl
  have lenm := vm.lenV (fs := fl3) (out := out)
  have lenw := vw.lenV (fs := fl3) (out := out)
  have leny := vy.lenV (fs := fl3) (out := out)
  have lenz := vz.lenV (fs := fl3) (out := out)
  rw [vl_len] at leny lenz
  (try simp -implicitDefEqProofs (disch := first | (refine NE.mk ?_; first | omega | assumption) | (refine LTn.mk ?_; omega) | (refine NFam.mk ?_; simp only [lenm, lenw, leny, lenz, updO_same, notFam_cells]; omega)) [↓h3_5, ↓h3_5_1, lenm, lenw, leny, lenz, Nat.min_self, -List.length_flatMap])
  refine s3_6 ?_
  refine s3_7 ?_
  simp -implicitDefEqProofs (disch := first | (refine NE.mk ?_; first | omega | assumption) | (refine LTn.mk ?_; omega) | (refine NFam.mk ?_; simp only [lenm, lenw, leny, lenz, updO_same, notFam_cells]; omega)) [↓h3_8, ↓w3_8_1, ↓h3_8_1g, ↓h3_8_2, ↓w3_8_3, ↓h3_8_3g, ↓h3_8_4, lenm, lenw, leny, lenz, Nat.min_self, -List.length_flatMap]
  refine s3_9 ?_
  (try simp -implicitDefEqProofs (disch := first | (refine NE.mk ?_; first | omega | assumption) | (refine LTn.mk ?_; omega) | (refine NFam.mk ?_; simp only [lenm, lenw, leny, lenz, updO_same, notFam_cells]; omega)) [lenm, lenw, leny, lenz, Nat.min_self, -List.length_flatMap])
  refine s3_12 ?_
  refine s3_13 ?_
  simp -implicitDefEqProofs (disch := first | (refine NE.mk ?_; first | omega | assumption) | (refine LTn.mk ?_; omega) | (refine NFam.mk ?_; simp only [lenm, lenw, leny, lenz, updO_same, notFam_cells]; omega)) [↓h3_14, lenm, lenw, leny, lenz, Nat.min_self, -List.length_flatMap]
  refine s3_15 ?_
  refine s3_16 (fun k s => ∃ i : Nat, i + k = m.length ∧ s.t 3 = .v (.one (xm)) ∧ s.t 4 = .v (.one (xw)) ∧ s.t 6 = .v (.one (y)) ∧ s.t 7 = .v (.one (z)) ∧ s.t 44 = .v (.one (.int .i64 (m.length))) ∧ s.t 45 = .v (.one (.int .i64 (i))) ∧ h2.le s.h) m.length ?_ ?_
  · exact ⟨0, by omega, by simp -implicitDefEqProofs (disch := first | (refine NE.mk ?_; first | omega | assumption) | (refine LTn.mk ?_; omega) | (refine NFam.mk ?_; simp only [lenm, lenw, leny, lenz, updO_same, notFam_cells]; omega)) [lenm, lenw, leny, lenz, Nat.min_self, -List.length_flatMap], by simp -implicitDefEqProofs (disch := first | (refine NE.mk ?_; first | omega | assumption) | (refine LTn.mk ?_; omega) | (refine NFam.mk ?_; simp only [lenm, lenw, leny, lenz, updO_same, notFam_cells]; omega)) [lenm, lenw, leny, lenz, Nat.min_self, -List.length_flatMap], by simp -implicitDefEqProofs (disch := first | (refine NE.mk ?_; first | omega | assumption) | (refine LTn.mk ?_; omega) | (refine NFam.mk ?_; simp only [lenm, lenw, leny, lenz, updO_same, notFam_cells]; omega)) [lenm, lenw, leny, lenz, Nat.min_self, -List.length_flatMap], by simp -implicitDefEqProofs (disch := first | (refine NE.mk ?_; first | omega | assumption) | (refine LTn.mk ?_; omega) | (refine NFam.mk ?_; simp only [lenm, lenw, leny, lenz, updO_same, notFam_cells]; omega)) [lenm, lenw, leny, lenz, Nat.min_self, -List.length_flatMap], by simp -implicitDefEqProofs (disch := first | (refine NE.mk ?_; first | omega | assumption) | (refine LTn.mk ?_; omega) | (refine NFam.mk ?_; simp only [lenm, lenw, leny, lenz, updO_same, notFam_cells]; omega)) [lenm, lenw, leny, lenz, Nat.min_self, -List.length_flatMap], by simp -implicitDefEqProofs (disch := first | (refine NE.mk ?_; first | omega | assumption) | (refine LTn.mk ?_; omega) | (refine NFam.mk ?_; simp only [lenm, lenw, leny, lenz, updO_same, notFam_cells]; omega)) [lenm, lenw, leny, lenz, Nat.min_self, -List.length_flatMap], (by (try dsimp only [keepOnly_eq]); omega), fun i hi => by simp -implicitDefEqProofs (disch := first | (refine NE.mk ?_; first | omega | assumption) | (refine LTn.mk ?_; omega) | (refine NFam.mk ?_; simp only [lenm, lenw, leny, lenz, updO_same, notFam_cells]; omega)) [lenm, lenw, leny, lenz, Nat.min_self, -List.length_flatMap]⟩
  · rintro k s Q2 ⟨i, hk, t3, t4, t6, t7, t44, t45, hn, ho⟩ hN hE hR
    refine s3_17 ?_
    simp -implicitDefEqProofs (disch := first | (refine NE.mk ?_; first | omega | assumption) | (refine LTn.mk ?_; omega) | (refine NFam.mk ?_; simp only [t3, t4, t6, t7, t44, t45, updO_same, notFam_cells]; omega)) [↓h3_18, t3, t4, t6, t7, t44, t45, Nat.min_self, -List.length_flatMap]
    refine s3_19 ?_
    simp -implicitDefEqProofs (disch := first | (refine NE.mk ?_; first | omega | assumption) | (refine LTn.mk ?_; omega) | (refine NFam.mk ?_; simp only [t3, t4, t6, t7, t44, t45, updO_same, notFam_cells]; omega)) [t3, t4, t6, t7, t44, t45, Nat.min_self, -List.length_flatMap]
    split
    · rename_i hi
      obtain ⟨jm, fm, rom, em, wm, csm, rfl, hjm, hcm, hlm, hgm1, hgm2, hgm3⟩ := vm.get enM_len hi
      obtain ⟨jy, fy, roy, ey, wy, csy, rfl, hjy, hcy, hly, hgy⟩ := vy.get1 (g := (Cell.int .i64 ·)) (fun _ => rfl) (i := i) (by rw [vl_len]; exact hi)
      rw [vl_get] at hgy
      have gm0 : csm[i * 2]? = some (.int .i64 m[i].t) := hgm3 0 (by omega)
      have gm1 : csm[i * 2 + 1]? = some (.bool m[i].hold) := hgm3 1 (by omega)
      have cm := (ho jm hjm).trans hcm
      have cy := (ho jy hjy).trans hcy
      have w1 := wrap64 (show -9223372036854775808 ≤ (i : Int) + 1 by omega) (by omega)
      refine s3_21 ?_
      refine s3_22 ?_
      refine s3_23 ?_
      simp -implicitDefEqProofs (disch := first | (refine NE.mk ?_; first | omega | assumption) | (refine LTn.mk ?_; omega) | (refine NFam.mk ?_; simp only [t3, t4, t6, t7, t44, t45, hi, hgy, cy, hly, cm, gm0, gm1, w1, vl_len, updO_same, notFam_cells]; omega)) [↓h3_24, t3, t4, t6, t7, t44, t45, hi, hgy, cy, hly, cm, gm0, gm1, w1, vl_len, Nat.min_self, -List.length_flatMap]
      refine s3_25 ?_
      simp -implicitDefEqProofs (disch := first | (refine NE.mk ?_; first | omega | assumption) | (refine LTn.mk ?_; omega) | (refine NFam.mk ?_; simp only [t3, t4, t6, t7, t44, t45, hi, hgy, cy, hly, cm, gm0, gm1, w1, vl_len, updO_same, notFam_cells]; omega)) [↓h3_26, ↓w3_26_1, ↓h3_26_1g, ↓h3_26_2, t3, t4, t6, t7, t44, t45, hi, hgy, cy, hly, cm, gm0, gm1, w1, vl_len, Nat.min_self, -List.length_flatMap]
      obtain ⟨hs1, hs2⟩ := P.sec V hi
      have hF := foldB_spec m a i w
      rw [FB_mom hi] at hF
      split
      · rename_i hh
        have hge := hF.hd hh
        have hnl : ¬ a i < m[i].t := by omega
        refine s3_27 ?_
        simp -implicitDefEqProofs (disch := first | (refine NE.mk ?_; first | omega | assumption) | (refine LTn.mk ?_; omega) | (refine NFam.mk ?_; simp only [t3, t4, t6, t7, t44, t45, hi, hgy, cy, hly, cm, gm0, gm1, w1, vl_len, hh, hnl, updO_same, notFam_cells]; omega)) [t3, t4, t6, t7, t44, t45, hi, hgy, cy, hly, cm, gm0, gm1, w1, vl_len, hh, hnl, Nat.min_self, -List.length_flatMap]
        refine s3_30 ?_
        simp -implicitDefEqProofs (disch := first | (refine NE.mk ?_; first | omega | assumption) | (refine LTn.mk ?_; omega) | (refine NFam.mk ?_; simp only [t3, t4, t6, t7, t44, t45, hi, hgy, cy, hly, cm, gm0, gm1, w1, vl_len, updO_same, notFam_cells]; omega)) [↓h3_30, t3, t4, t6, t7, t44, t45, hi, hgy, cy, hly, cm, gm0, gm1, w1, vl_len, Nat.min_self, -List.length_flatMap]
        refine hN (k - 1) _ (by omega) ?_
        dsimp only [keepOnly_eq]
        exact ⟨i + 1, by omega, by simp -implicitDefEqProofs (disch := first | (refine NE.mk ?_; first | omega | assumption) | (refine LTn.mk ?_; omega) | (refine NFam.mk ?_; simp only [t3, t4, t6, t7, t44, t45, hi, hgy, cy, hly, cm, gm0, gm1, w1, vl_len, updO_same, notFam_cells]; omega)) [t3, t4, t6, t7, t44, t45, hi, hgy, cy, hly, cm, gm0, gm1, w1, vl_len, Nat.min_self, -List.length_flatMap], by simp -implicitDefEqProofs (disch := first | (refine NE.mk ?_; first | omega | assumption) | (refine LTn.mk ?_; omega) | (refine NFam.mk ?_; simp only [t3, t4, t6, t7, t44, t45, hi, hgy, cy, hly, cm, gm0, gm1, w1, vl_len, updO_same, notFam_cells]; omega)) [t3, t4, t6, t7, t44, t45, hi, hgy, cy, hly, cm, gm0, gm1, w1, vl_len, Nat.min_self, -List.length_flatMap], by simp -implicitDefEqProofs (disch := first | (refine NE.mk ?_; first | omega | assumption) | (refine LTn.mk ?_; omega) | (refine NFam.mk ?_; simp only [t3, t4, t6, t7, t44, t45, hi, hgy, cy, hly, cm, gm0, gm1, w1, vl_len, updO_same, notFam_cells]; omega)) [t3, t4, t6, t7, t44, t45, hi, hgy, cy, hly, cm, gm0, gm1, w1, vl_len, Nat.min_self, -List.length_flatMap], by simp -implicitDefEqProofs (disch := first | (refine NE.mk ?_; first | omega | assumption) | (refine LTn.mk ?_; omega) | (refine NFam.mk ?_; simp only [t3, t4, t6, t7, t44, t45, hi, hgy, cy, hly, cm, gm0, gm1, w1, vl_len, updO_same, notFam_cells]; omega)) [t3, t4, t6, t7, t44, t45, hi, hgy, cy, hly, cm, gm0, gm1, w1, vl_len, Nat.min_self, -List.length_flatMap], by simp -implicitDefEqProofs (disch := first | (refine NE.mk ?_; first | omega | assumption) | (refine LTn.mk ?_; omega) | (refine NFam.mk ?_; simp only [t3, t4, t6, t7, t44, t45, hi, hgy, cy, hly, cm, gm0, gm1, w1, vl_len, updO_same, notFam_cells]; omega)) [t3, t4, t6, t7, t44, t45, hi, hgy, cy, hly, cm, gm0, gm1, w1, vl_len, Nat.min_self, -List.length_flatMap], by simp -implicitDefEqProofs (disch := first | (refine NE.mk ?_; first | omega | assumption) | (refine LTn.mk ?_; omega) | (refine NFam.mk ?_; simp only [t3, t4, t6, t7, t44, t45, hi, hgy, cy, hly, cm, gm0, gm1, w1, vl_len, updO_same, notFam_cells]; omega)) [t3, t4, t6, t7, t44, t45, hi, hgy, cy, hly, cm, gm0, gm1, w1, vl_len, Nat.min_self, -List.length_flatMap], (by (try dsimp only [keepOnly_eq]); omega), ho⟩
      · rename_i hh
        have hhf : m[i].hold = false := by simpa using hh
        refine s3_27 ?_
        simp -implicitDefEqProofs (disch := first | (refine NE.mk ?_; first | omega | assumption) | (refine LTn.mk ?_; omega) | (refine NFam.mk ?_; simp only [t3, t4, t6, t7, t44, t45, hi, hgy, cy, hly, cm, gm0, gm1, w1, vl_len, hhf, updO_same, notFam_cells]; omega)) [t3, t4, t6, t7, t44, t45, hi, hgy, cy, hly, cm, gm0, gm1, w1, vl_len, hhf, Nat.min_self, -List.length_flatMap]
        refine s3_30 ?_
        simp -implicitDefEqProofs (disch := first | (refine NE.mk ?_; first | omega | assumption) | (refine LTn.mk ?_; omega) | (refine NFam.mk ?_; simp only [t3, t4, t6, t7, t44, t45, hi, hgy, cy, hly, cm, gm0, gm1, w1, vl_len, updO_same, notFam_cells]; omega)) [↓h3_30, t3, t4, t6, t7, t44, t45, hi, hgy, cy, hly, cm, gm0, gm1, w1, vl_len, Nat.min_self, -List.length_flatMap]
        refine hN (k - 1) _ (by omega) ?_
        dsimp only [keepOnly_eq]
        exact ⟨i + 1, by omega, by simp -implicitDefEqProofs (disch := first | (refine NE.mk ?_; first | omega | assumption) | (refine LTn.mk ?_; omega) | (refine NFam.mk ?_; simp only [t3, t4, t6, t7, t44, t45, hi, hgy, cy, hly, cm, gm0, gm1, w1, vl_len, updO_same, notFam_cells]; omega)) [t3, t4, t6, t7, t44, t45, hi, hgy, cy, hly, cm, gm0, gm1, w1, vl_len, Nat.min_self, -List.length_flatMap], by simp -implicitDefEqProofs (disch := first | (refine NE.mk ?_; first | omega | assumption) | (refine LTn.mk ?_; omega) | (refine NFam.mk ?_; simp only [t3, t4, t6, t7, t44, t45, hi, hgy, cy, hly, cm, gm0, gm1, w1, vl_len, updO_same, notFam_cells]; omega)) [t3, t4, t6, t7, t44, t45, hi, hgy, cy, hly, cm, gm0, gm1, w1, vl_len, Nat.min_self, -List.length_flatMap], by simp -implicitDefEqProofs (disch := first | (refine NE.mk ?_; first | omega | assumption) | (refine LTn.mk ?_; omega) | (refine NFam.mk ?_; simp only [t3, t4, t6, t7, t44, t45, hi, hgy, cy, hly, cm, gm0, gm1, w1, vl_len, updO_same, notFam_cells]; omega)) [t3, t4, t6, t7, t44, t45, hi, hgy, cy, hly, cm, gm0, gm1, w1, vl_len, Nat.min_self, -List.length_flatMap], by simp -implicitDefEqProofs (disch := first | (refine NE.mk ?_; first | omega | assumption) | (refine LTn.mk ?_; omega) | (refine NFam.mk ?_; simp only [t3, t4, t6, t7, t44, t45, hi, hgy, cy, hly, cm, gm0, gm1, w1, vl_len, updO_same, notFam_cells]; omega)) [t3, t4, t6, t7, t44, t45, hi, hgy, cy, hly, cm, gm0, gm1, w1, vl_len, Nat.min_self, -List.length_flatMap], by simp -implicitDefEqProofs (disch := first | (refine NE.mk ?_; first | omega | assumption) | (refine LTn.mk ?_; omega) | (refine NFam.mk ?_; simp only [t3, t4, t6, t7, t44, t45, hi, hgy, cy, hly, cm, gm0, gm1, w1, vl_len, updO_same, notFam_cells]; omega)) [t3, t4, t6, t7, t44, t45, hi, hgy, cy, hly, cm, gm0, gm1, w1, vl_len, Nat.min_self, -List.length_flatMap], by simp -implicitDefEqProofs (disch := first | (refine NE.mk ?_; first | omega | assumption) | (refine LTn.mk ?_; omega) | (refine NFam.mk ?_; simp only [t3, t4, t6, t7, t44, t45, hi, hgy, cy, hly, cm, gm0, gm1, w1, vl_len, updO_same, notFam_cells]; omega)) [t3, t4, t6, t7, t44, t45, hi, hgy, cy, hly, cm, gm0, gm1, w1, vl_len, Nat.min_self, -List.length_flatMap], (by (try dsimp only [keepOnly_eq]); omega), ho⟩
    · rename_i hi
      refine hE 0 _ ?_
      (try simp -implicitDefEqProofs (disch := first | (refine NE.mk ?_; first | omega | assumption) | (refine LTn.mk ?_; omega) | (refine NFam.mk ?_; simp only [t3, t4, t6, t7, t44, t45, lenw, updO_same, notFam_cells]; omega)) [t3, t4, t6, t7, t44, t45, lenw, Nat.min_self, -List.length_flatMap])
      refine s3_31 ?_
      refine s3_32 ?_
      simp -implicitDefEqProofs (disch := first | (refine NE.mk ?_; first | omega | assumption) | (refine LTn.mk ?_; omega) | (refine NFam.mk ?_; simp only [t3, t4, t6, t7, t44, t45, lenw, updO_same, notFam_cells]; omega)) [↓h3_33, t3, t4, t6, t7, t44, t45, lenw, Nat.min_self, -List.length_flatMap]
      refine s3_34 ?_
      refine s3_35 (fun k s => ∃ i : Nat, i + k = w.length ∧ s.t 3 = .v (.one (xm)) ∧ s.t 6 = .v (.one (y)) ∧ s.t 7 = .v (.one (z)) ∧ s.t 66 = .v (.one (xw)) ∧ s.t 67 = .v (.one (.int .i64 (w.length))) ∧ s.t 68 = .v (.one (.int .i64 (i))) ∧ h2.le s.h) w.length ?_ ?_
      · exact ⟨0, by omega, by simp -implicitDefEqProofs (disch := first | (refine NE.mk ?_; first | omega | assumption) | (refine LTn.mk ?_; omega) | (refine NFam.mk ?_; simp only [t3, t4, t6, t7, t44, t45, lenw, updO_same, notFam_cells]; omega)) [t3, t4, t6, t7, t44, t45, lenw, Nat.min_self, -List.length_flatMap], by simp -implicitDefEqProofs (disch := first | (refine NE.mk ?_; first | omega | assumption) | (refine LTn.mk ?_; omega) | (refine NFam.mk ?_; simp only [t3, t4, t6, t7, t44, t45, lenw, updO_same, notFam_cells]; omega)) [t3, t4, t6, t7, t44, t45, lenw, Nat.min_self, -List.length_flatMap], by simp -implicitDefEqProofs (disch := first | (refine NE.mk ?_; first | omega | assumption) | (refine LTn.mk ?_; omega) | (refine NFam.mk ?_; simp only [t3, t4, t6, t7, t44, t45, lenw, updO_same, notFam_cells]; omega)) [t3, t4, t6, t7, t44, t45, lenw, Nat.min_self, -List.length_flatMap], by simp -implicitDefEqProofs (disch := first | (refine NE.mk ?_; first | omega | assumption) | (refine LTn.mk ?_; omega) | (refine NFam.mk ?_; simp only [t3, t4, t6, t7, t44, t45, lenw, updO_same, notFam_cells]; omega)) [t3, t4, t6, t7, t44, t45, lenw, Nat.min_self, -List.length_flatMap], by simp -implicitDefEqProofs (disch := first | (refine NE.mk ?_; first | omega | assumption) | (refine LTn.mk ?_; omega) | (refine NFam.mk ?_; simp only [t3, t4, t6, t7, t44, t45, lenw, updO_same, notFam_cells]; omega)) [t3, t4, t6, t7, t44, t45, lenw, Nat.min_self, -List.length_flatMap], by simp -implicitDefEqProofs (disch := first | (refine NE.mk ?_; first | omega | assumption) | (refine LTn.mk ?_; omega) | (refine NFam.mk ?_; simp only [t3, t4, t6, t7, t44, t45, lenw, updO_same, notFam_cells]; omega)) [t3, t4, t6, t7, t44, t45, lenw, Nat.min_self, -List.length_flatMap], (by (try dsimp only [keepOnly_eq]); omega), fun i hi => by simp -implicitDefEqProofs (disch := first | (refine NE.mk ?_; first | omega | assumption) | (refine LTn.mk ?_; omega) | (refine NFam.mk ?_; simp only [t3, t4, t6, t7, t44, t45, lenw, updO_same, notFam_cells]; omega)) [t3, t4, t6, t7, t44, t45, lenw, Nat.min_self, -List.length_flatMap]; exact ho i hi⟩
      · clear hn ho hi hk t3 t4 t6 t7 t44 t45
        rintro k s Q2 ⟨i, hk, t3, t6, t7, t66, t67, t68, hn, ho⟩ hN hE hR
        refine s3_36 ?_
        simp -implicitDefEqProofs (disch := first | (refine NE.mk ?_; first | omega | assumption) | (refine LTn.mk ?_; omega) | (refine NFam.mk ?_; simp only [t3, t6, t7, t66, t67, t68, updO_same, notFam_cells]; omega)) [↓h3_37, t3, t6, t7, t66, t67, t68, Nat.min_self, -List.length_flatMap]
        refine s3_38 ?_
        simp -implicitDefEqProofs (disch := first | (refine NE.mk ?_; first | omega | assumption) | (refine LTn.mk ?_; omega) | (refine NFam.mk ?_; simp only [t3, t6, t7, t66, t67, t68, updO_same, notFam_cells]; omega)) [t3, t6, t7, t66, t67, t68, Nat.min_self, -List.length_flatMap]
        split
        · rename_i hi
          obtain ⟨jw, fw, row, ew, ww, csw, rfl, hjw, hcw, hlw, hgw1, hgw2, hgw3⟩ := vw.get enW_len hi
          obtain ⟨jz, fz, roz, ez, wz, csz, rfl, hjz, hcz, hlz, hgz⟩ := vz.get1 (g := (Cell.bool ·)) (fun _ => rfl) (i := i) (by rw [vl_len]; exact hi)
          rw [vl_get] at hgz
          obtain ⟨x, hxe⟩ : ∃ x, x = w[i] := ⟨_, rfl⟩
          rw [← hxe] at hgw1 hgw2 hgw3
          have hmem : x ∈ w := by rw [hxe]; exact List.getElem_mem hi
          obtain ⟨⟨xf0, xfn, xt0, xtn⟩, xft, xmn, xms⟩ := V.ww x hmem
          have xmn' := within_iff.1 xmn
          obtain ⟨uf, huf⟩ : ∃ n : Nat, x.f = n := ⟨x.f.toNat, by omega⟩
          obtain ⟨ut, hut⟩ : ∃ n : Nat, x.t = n := ⟨x.t.toNat, by omega⟩
          have hufn : uf < m.length := by omega
          have hutn : ut < m.length := by omega
          obtain ⟨jm, fm, rom, em, wm, csm, rfl, hjm, hcm, hlm, hgm1, hgm2, hgm3⟩ := vm.get enM_len hutn
          obtain ⟨jy, fy, roy, ey, wy, csy, rfl, hjy, hcy, hly, hgy⟩ := vy.get1 (g := (Cell.int .i64 ·)) (fun _ => rfl) (i := uf) (by rw [vl_len]; exact hufn)
          obtain ⟨jy', fy', roy', ey', wy', csy', hjeq, hjy', hcy', hly', hgy'⟩ := vy.get1 (g := (Cell.int .i64 ·)) (fun _ => rfl) (i := ut) (by rw [vl_len]; exact hutn)
          cases hjeq
          cases hcy.symm.trans hcy'
          rw [vl_get] at hgy hgy'
          have gm0 : csm[ut * 2]? = some (.int .i64 m[ut].t) := hgm3 0 (by omega)
          have cm := (ho jm hjm).trans hcm
          have cy := (ho jy hjy).trans hcy
          have cw := (ho jw hjw).trans hcw
          have cz := (ho jz hjz).trans hcz
          have bdf := P.bd uf
          have mt := momS_ok V.mm ut
          rw [momS_get hutn] at mt
          have w1 := wrap64 (show -9223372036854775808 ≤ (i : Int) + 1 by omega) (by omega)
          have w2 := wrap64 (show -9223372036854775808 ≤ a uf + x.mn by omega) (by omega)
          have w3 := wrap64 (show -9223372036854775808 ≤ a uf + x.mn - m[ut].t by omega) (by omega)
          have hkp := P.ek i hi
          rw [← hxe] at hkp
          refine s3_40 ?_
          refine s3_41 ?_
          refine s3_42 ?_
          simp -implicitDefEqProofs (disch := first | (refine NE.mk ?_; first | omega | assumption) | (refine LTn.mk ?_; omega) | (refine NFam.mk ?_; simp only [t3, t6, t7, t66, t67, t68, hi, hgy, hgy', cy, hly, cm, gm0, cz, hgz, hlz, cw, hlw, hgw2, enW, w1, w2, w3, vl_len, huf, hut, hufn, hutn, updO_same, notFam_cells]; omega)) [↓h3_43, t3, t6, t7, t66, t67, t68, hi, hgy, hgy', cy, hly, cm, gm0, cz, hgz, hlz, cw, hlw, hgw2, enW, w1, w2, w3, vl_len, huf, hut, hufn, hutn, Nat.min_self, -List.length_flatMap]
          refine s3_44 ?_
          simp -implicitDefEqProofs (disch := first | (refine NE.mk ?_; first | omega | assumption) | (refine LTn.mk ?_; omega) | (refine NFam.mk ?_; simp only [t3, t6, t7, t66, t67, t68, hi, hgy, hgy', cy, hly, cm, gm0, cz, hgz, hlz, cw, hlw, hgw2, enW, w1, w2, w3, vl_len, huf, hut, hufn, hutn, updO_same, notFam_cells]; omega)) [↓h3_45, ↓h3_45_1, t3, t6, t7, t66, t67, t68, hi, hgy, hgy', cy, hly, cm, gm0, cz, hgz, hlz, cw, hlw, hgw2, enW, w1, w2, w3, vl_len, huf, hut, hufn, hutn, Nat.min_self, -List.length_flatMap]
          refine s3_46 ?_
          simp -implicitDefEqProofs (disch := first | (refine NE.mk ?_; first | omega | assumption) | (refine LTn.mk ?_; omega) | (refine NFam.mk ?_; simp only [t3, t6, t7, t66, t67, t68, hi, hgy, hgy', cy, hly, cm, gm0, cz, hgz, hlz, cw, hlw, hgw2, enW, w1, w2, w3, vl_len, huf, hut, hufn, hutn, updO_same, notFam_cells]; omega)) [↓h3_47, ↓w3_47_1, ↓h3_47_1g, ↓h3_47_1g_1, ↓h3_47_2, ↓w3_47_3, ↓h3_47_3g, ↓w3_47_4, ↓h3_47_4g, ↓w3_47_5, ↓h3_47_5g, ↓h3_47_6, t3, t6, t7, t66, t67, t68, hi, hgy, hgy', cy, hly, cm, gm0, cz, hgz, hlz, cw, hlw, hgw2, enW, w1, w2, w3, vl_len, huf, hut, hufn, hutn, Nat.min_self, -List.length_flatMap]
          have K2 : kp i = decide (x.ms = -1 ∨ a uf + x.mn ≤ m[ut].t + x.ms) := by rw [hkp]; unfold kpS; rw [hut, momS_get hutn, huf]
          have K1 : kp i = true → a uf + x.mn ≤ a ut := by
            intro hk1
            obtain ⟨hs1, hs2⟩ := P.sec V hutn
            have := (foldB_spec m a ut w).ge x hmem ⟨hut, by rw [← hkp]; exact hk1⟩
            rw [huf] at this; omega
          have fin : ∀ s1 : St, s1.t 3 = .v (.one (.slice jm 0 m.length)) → s1.t 6 = .v (.one (.slice jy 0 m.length)) → s1.t 7 = .v (.one (.slice jz 0 w.length)) → s1.t 66 = .v (.one (.slice jw 0 w.length)) → s1.t 67 = .v (.one (.int .i64 w.length)) → s1.t 68 = .v (.one (.int .i64 i)) → h2.le s1.h → wC fl3 out c3_51 s1 Q2 := by
            rintro s1 t3 t6 t7 t66 t67 t68 ⟨hn1, ho1⟩
            refine s3_51 ?_
            simp -implicitDefEqProofs (disch := first | (refine NE.mk ?_; first | omega | assumption) | (refine LTn.mk ?_; omega) | (refine NFam.mk ?_; simp only [t3, t6, t7, t66, t67, t68, w1, updO_same, notFam_cells]; omega)) [↓h3_51, t3, t6, t7, t66, t67, t68, w1, Nat.min_self, -List.length_flatMap]
            refine hN (k - 1) _ (by omega) ?_
            dsimp only [keepOnly_eq]
            exact ⟨i + 1, by omega, by simp -implicitDefEqProofs (disch := first | (refine NE.mk ?_; first | omega | assumption) | (refine LTn.mk ?_; omega) | (refine NFam.mk ?_; simp only [t3, t6, t7, t66, t67, t68, w1, vl_len, updO_same, notFam_cells]; omega)) [t3, t6, t7, t66, t67, t68, w1, vl_len, Nat.min_self, -List.length_flatMap], by simp -implicitDefEqProofs (disch := first | (refine NE.mk ?_; first | omega | assumption) | (refine LTn.mk ?_; omega) | (refine NFam.mk ?_; simp only [t3, t6, t7, t66, t67, t68, w1, vl_len, updO_same, notFam_cells]; omega)) [t3, t6, t7, t66, t67, t68, w1, vl_len, Nat.min_self, -List.length_flatMap], by simp -implicitDefEqProofs (disch := first | (refine NE.mk ?_; first | omega | assumption) | (refine LTn.mk ?_; omega) | (refine NFam.mk ?_; simp only [t3, t6, t7, t66, t67, t68, w1, vl_len, updO_same, notFam_cells]; omega)) [t3, t6, t7, t66, t67, t68, w1, vl_len, Nat.min_self, -List.length_flatMap], by simp -implicitDefEqProofs (disch := first | (refine NE.mk ?_; first | omega | assumption) | (refine LTn.mk ?_; omega) | (refine NFam.mk ?_; simp only [t3, t6, t7, t66, t67, t68, w1, updO_same, notFam_cells]; omega)) [t3, t6, t7, t66, t67, t68, w1, Nat.min_self, -List.length_flatMap], by simp -implicitDefEqProofs (disch := first | (refine NE.mk ?_; first | omega | assumption) | (refine LTn.mk ?_; omega) | (refine NFam.mk ?_; simp only [t3, t6, t7, t66, t67, t68, w1, updO_same, notFam_cells]; omega)) [t3, t6, t7, t66, t67, t68, w1, Nat.min_self, -List.length_flatMap], by simp -implicitDefEqProofs (disch := first | (refine NE.mk ?_; first | omega | assumption) | (refine LTn.mk ?_; omega) | (refine NFam.mk ?_; simp only [t3, t6, t7, t66, t67, t68, w1, updO_same, notFam_cells]; omega)) [t3, t6, t7, t66, t67, t68, w1, Nat.min_self, -List.length_flatMap], (by (try dsimp only [keepOnly_eq]); omega), ho1⟩
          have fl : ∀ n, h2.nx ≤ n → h2.le ⟨upd s.h.o (s.h.nx + 1 + 3) (some (.cells (s.h.nx + 1 + 3) false 35 0 [.int .i64 uf, .int .i64 ut, .int .i64 x.mn, .int .i64 x.ms])), n⟩ := fun n hnn => ⟨hnn, fun i hi => by simp -implicitDefEqProofs (disch := first | (refine NE.mk ?_; first | omega | assumption) | (refine LTn.mk ?_; omega) | (refine NFam.mk ?_; simp only [t3, t6, t7, t66, t67, t68, hi, hgy, hgy', cy, hly, cm, gm0, cz, hgz, hlz, cw, hlw, hgw2, enW, w1, w2, w3, vl_len, huf, hut, hufn, hutn, updO_same, notFam_cells]; omega)) [t3, t6, t7, t66, t67, t68, hi, hgy, hgy', cy, hly, cm, gm0, cz, hgz, hlz, cw, hlw, hgw2, enW, w1, w2, w3, vl_len, huf, hut, hufn, hutn, Nat.min_self, -List.length_flatMap]; exact ho i hi⟩
          split
          · rename_i h1
            have h2' := K1 h1
            rw [h1] at K2
            have K3 := of_decide_eq_true K2.symm
            split
            · split
              · refine s3_48 ?_
                simp -implicitDefEqProofs (disch := first | (refine NE.mk ?_; first | omega | assumption) | (refine LTn.mk ?_; omega) | (refine NFam.mk ?_; simp only [t3, t6, t7, t66, t67, t68, hi, hgy, hgy', cy, hly, cm, gm0, cz, hgz, hlz, cw, hlw, hgw2, enW, w1, w2, w3, vl_len, huf, hut, hufn, hutn, h1, h2', updO_same, notFam_cells]; omega)) [t3, t6, t7, t66, t67, t68, hi, hgy, hgy', cy, hly, cm, gm0, cz, hgz, hlz, cw, hlw, hgw2, enW, w1, w2, w3, vl_len, huf, hut, hufn, hutn, h1, h2', Nat.min_self, -List.length_flatMap]
                exact fin _ (by simp -implicitDefEqProofs (disch := first | (refine NE.mk ?_; first | omega | assumption) | (refine LTn.mk ?_; omega) | (refine NFam.mk ?_; simp only [t3, t6, t7, t66, t67, t68, hi, hgy, hgy', cy, hly, cm, gm0, cz, hgz, hlz, cw, hlw, hgw2, enW, w1, w2, w3, vl_len, huf, hut, hufn, hutn, updO_same, notFam_cells]; omega)) [t3, t6, t7, t66, t67, t68, hi, hgy, hgy', cy, hly, cm, gm0, cz, hgz, hlz, cw, hlw, hgw2, enW, w1, w2, w3, vl_len, huf, hut, hufn, hutn, Nat.min_self, -List.length_flatMap]) (by simp -implicitDefEqProofs (disch := first | (refine NE.mk ?_; first | omega | assumption) | (refine LTn.mk ?_; omega) | (refine NFam.mk ?_; simp only [t3, t6, t7, t66, t67, t68, hi, hgy, hgy', cy, hly, cm, gm0, cz, hgz, hlz, cw, hlw, hgw2, enW, w1, w2, w3, vl_len, huf, hut, hufn, hutn, updO_same, notFam_cells]; omega)) [t3, t6, t7, t66, t67, t68, hi, hgy, hgy', cy, hly, cm, gm0, cz, hgz, hlz, cw, hlw, hgw2, enW, w1, w2, w3, vl_len, huf, hut, hufn, hutn, Nat.min_self, -List.length_flatMap]) (by simp -implicitDefEqProofs (disch := first | (refine NE.mk ?_; first | omega | assumption) | (refine LTn.mk ?_; omega) | (refine NFam.mk ?_; simp only [t3, t6, t7, t66, t67, t68, hi, hgy, hgy', cy, hly, cm, gm0, cz, hgz, hlz, cw, hlw, hgw2, enW, w1, w2, w3, vl_len, huf, hut, hufn, hutn, updO_same, notFam_cells]; omega)) [t3, t6, t7, t66, t67, t68, hi, hgy, hgy', cy, hly, cm, gm0, cz, hgz, hlz, cw, hlw, hgw2, enW, w1, w2, w3, vl_len, huf, hut, hufn, hutn, Nat.min_self, -List.length_flatMap]) (by simp -implicitDefEqProofs (disch := first | (refine NE.mk ?_; first | omega | assumption) | (refine LTn.mk ?_; omega) | (refine NFam.mk ?_; simp only [t3, t6, t7, t66, t67, t68, hi, hgy, hgy', cy, hly, cm, gm0, cz, hgz, hlz, cw, hlw, hgw2, enW, w1, w2, w3, vl_len, huf, hut, hufn, hutn, updO_same, notFam_cells]; omega)) [t3, t6, t7, t66, t67, t68, hi, hgy, hgy', cy, hly, cm, gm0, cz, hgz, hlz, cw, hlw, hgw2, enW, w1, w2, w3, vl_len, huf, hut, hufn, hutn, Nat.min_self, -List.length_flatMap]) (by simp -implicitDefEqProofs (disch := first | (refine NE.mk ?_; first | omega | assumption) | (refine LTn.mk ?_; omega) | (refine NFam.mk ?_; simp only [t3, t6, t7, t66, t67, t68, hi, hgy, hgy', cy, hly, cm, gm0, cz, hgz, hlz, cw, hlw, hgw2, enW, w1, w2, w3, vl_len, huf, hut, hufn, hutn, updO_same, notFam_cells]; omega)) [t3, t6, t7, t66, t67, t68, hi, hgy, hgy', cy, hly, cm, gm0, cz, hgz, hlz, cw, hlw, hgw2, enW, w1, w2, w3, vl_len, huf, hut, hufn, hutn, Nat.min_self, -List.length_flatMap]) (by simp -implicitDefEqProofs (disch := first | (refine NE.mk ?_; first | omega | assumption) | (refine LTn.mk ?_; omega) | (refine NFam.mk ?_; simp only [t3, t6, t7, t66, t67, t68, hi, hgy, hgy', cy, hly, cm, gm0, cz, hgz, hlz, cw, hlw, hgw2, enW, w1, w2, w3, vl_len, huf, hut, hufn, hutn, updO_same, notFam_cells]; omega)) [t3, t6, t7, t66, t67, t68, hi, hgy, hgy', cy, hly, cm, gm0, cz, hgz, hlz, cw, hlw, hgw2, enW, w1, w2, w3, vl_len, huf, hut, hufn, hutn, Nat.min_self, -List.length_flatMap]) (fl _ (by (try dsimp only [keepOnly_eq]); omega))
              · rename_i h3
                have h4 : a uf + x.mn - m[ut].t ≤ x.ms := by omega
                refine s3_48 ?_
                simp -implicitDefEqProofs (disch := first | (refine NE.mk ?_; first | omega | assumption) | (refine LTn.mk ?_; omega) | (refine NFam.mk ?_; simp only [t3, t6, t7, t66, t67, t68, hi, hgy, hgy', cy, hly, cm, gm0, cz, hgz, hlz, cw, hlw, hgw2, enW, w1, w2, w3, vl_len, huf, hut, hufn, hutn, h1, h2', h3, h4, updO_same, notFam_cells]; omega)) [t3, t6, t7, t66, t67, t68, hi, hgy, hgy', cy, hly, cm, gm0, cz, hgz, hlz, cw, hlw, hgw2, enW, w1, w2, w3, vl_len, huf, hut, hufn, hutn, h1, h2', h3, h4, Nat.min_self, -List.length_flatMap]
                exact fin _ (by simp -implicitDefEqProofs (disch := first | (refine NE.mk ?_; first | omega | assumption) | (refine LTn.mk ?_; omega) | (refine NFam.mk ?_; simp only [t3, t6, t7, t66, t67, t68, hi, hgy, hgy', cy, hly, cm, gm0, cz, hgz, hlz, cw, hlw, hgw2, enW, w1, w2, w3, vl_len, huf, hut, hufn, hutn, updO_same, notFam_cells]; omega)) [t3, t6, t7, t66, t67, t68, hi, hgy, hgy', cy, hly, cm, gm0, cz, hgz, hlz, cw, hlw, hgw2, enW, w1, w2, w3, vl_len, huf, hut, hufn, hutn, Nat.min_self, -List.length_flatMap]) (by simp -implicitDefEqProofs (disch := first | (refine NE.mk ?_; first | omega | assumption) | (refine LTn.mk ?_; omega) | (refine NFam.mk ?_; simp only [t3, t6, t7, t66, t67, t68, hi, hgy, hgy', cy, hly, cm, gm0, cz, hgz, hlz, cw, hlw, hgw2, enW, w1, w2, w3, vl_len, huf, hut, hufn, hutn, updO_same, notFam_cells]; omega)) [t3, t6, t7, t66, t67, t68, hi, hgy, hgy', cy, hly, cm, gm0, cz, hgz, hlz, cw, hlw, hgw2, enW, w1, w2, w3, vl_len, huf, hut, hufn, hutn, Nat.min_self, -List.length_flatMap]) (by simp -implicitDefEqProofs (disch := first | (refine NE.mk ?_; first | omega | assumption) | (refine LTn.mk ?_; omega) | (refine NFam.mk ?_; simp only [t3, t6, t7, t66, t67, t68, hi, hgy, hgy', cy, hly, cm, gm0, cz, hgz, hlz, cw, hlw, hgw2, enW, w1, w2, w3, vl_len, huf, hut, hufn, hutn, updO_same, notFam_cells]; omega)) [t3, t6, t7, t66, t67, t68, hi, hgy, hgy', cy, hly, cm, gm0, cz, hgz, hlz, cw, hlw, hgw2, enW, w1, w2, w3, vl_len, huf, hut, hufn, hutn, Nat.min_self, -List.length_flatMap]) (by simp -implicitDefEqProofs (disch := first | (refine NE.mk ?_; first | omega | assumption) | (refine LTn.mk ?_; omega) | (refine NFam.mk ?_; simp only [t3, t6, t7, t66, t67, t68, hi, hgy, hgy', cy, hly, cm, gm0, cz, hgz, hlz, cw, hlw, hgw2, enW, w1, w2, w3, vl_len, huf, hut, hufn, hutn, updO_same, notFam_cells]; omega)) [t3, t6, t7, t66, t67, t68, hi, hgy, hgy', cy, hly, cm, gm0, cz, hgz, hlz, cw, hlw, hgw2, enW, w1, w2, w3, vl_len, huf, hut, hufn, hutn, Nat.min_self, -List.length_flatMap]) (by simp -implicitDefEqProofs (disch := first | (refine NE.mk ?_; first | omega | assumption) | (refine LTn.mk ?_; omega) | (refine NFam.mk ?_; simp only [t3, t6, t7, t66, t67, t68, hi, hgy, hgy', cy, hly, cm, gm0, cz, hgz, hlz, cw, hlw, hgw2, enW, w1, w2, w3, vl_len, huf, hut, hufn, hutn, updO_same, notFam_cells]; omega)) [t3, t6, t7, t66, t67, t68, hi, hgy, hgy', cy, hly, cm, gm0, cz, hgz, hlz, cw, hlw, hgw2, enW, w1, w2, w3, vl_len, huf, hut, hufn, hutn, Nat.min_self, -List.length_flatMap]) (by simp -implicitDefEqProofs (disch := first | (refine NE.mk ?_; first | omega | assumption) | (refine LTn.mk ?_; omega) | (refine NFam.mk ?_; simp only [t3, t6, t7, t66, t67, t68, hi, hgy, hgy', cy, hly, cm, gm0, cz, hgz, hlz, cw, hlw, hgw2, enW, w1, w2, w3, vl_len, huf, hut, hufn, hutn, updO_same, notFam_cells]; omega)) [t3, t6, t7, t66, t67, t68, hi, hgy, hgy', cy, hly, cm, gm0, cz, hgz, hlz, cw, hlw, hgw2, enW, w1, w2, w3, vl_len, huf, hut, hufn, hutn, Nat.min_self, -List.length_flatMap]) (fl _ (by (try dsimp only [keepOnly_eq]); omega))
            · rename_i h2''
              exact absurd h2' h2''
          · rename_i h1
            have h1' : kp i = false := by simpa using h1
            rw [h1'] at K2
            have K3 := of_decide_eq_false K2.symm
            split
            · rename_i h3
              exact absurd (.inl h3) K3
            · rename_i h3
              have h4 : ¬ (a uf + x.mn - m[ut].t ≤ x.ms) := by omega
              refine s3_48 ?_
              simp -implicitDefEqProofs (disch := first | (refine NE.mk ?_; first | omega | assumption) | (refine LTn.mk ?_; omega) | (refine NFam.mk ?_; simp only [t3, t6, t7, t66, t67, t68, hi, hgy, hgy', cy, hly, cm, gm0, cz, hgz, hlz, cw, hlw, hgw2, enW, w1, w2, w3, vl_len, huf, hut, hufn, hutn, h1', h3, h4, updO_same, notFam_cells]; omega)) [t3, t6, t7, t66, t67, t68, hi, hgy, hgy', cy, hly, cm, gm0, cz, hgz, hlz, cw, hlw, hgw2, enW, w1, w2, w3, vl_len, huf, hut, hufn, hutn, h1', h3, h4, Nat.min_self, -List.length_flatMap]
              exact fin _ (by simp -implicitDefEqProofs (disch := first | (refine NE.mk ?_; first | omega | assumption) | (refine LTn.mk ?_; omega) | (refine NFam.mk ?_; simp only [t3, t6, t7, t66, t67, t68, hi, hgy, hgy', cy, hly, cm, gm0, cz, hgz, hlz, cw, hlw, hgw2, enW, w1, w2, w3, vl_len, huf, hut, hufn, hutn, updO_same, notFam_cells]; omega)) [t3, t6, t7, t66, t67, t68, hi, hgy, hgy', cy, hly, cm, gm0, cz, hgz, hlz, cw, hlw, hgw2, enW, w1, w2, w3, vl_len, huf, hut, hufn, hutn, Nat.min_self, -List.length_flatMap]) (by simp -implicitDefEqProofs (disch := first | (refine NE.mk ?_; first | omega | assumption) | (refine LTn.mk ?_; omega) | (refine NFam.mk ?_; simp only [t3, t6, t7, t66, t67, t68, hi, hgy, hgy', cy, hly, cm, gm0, cz, hgz, hlz, cw, hlw, hgw2, enW, w1, w2, w3, vl_len, huf, hut, hufn, hutn, updO_same, notFam_cells]; omega)) [t3, t6, t7, t66, t67, t68, hi, hgy, hgy', cy, hly, cm, gm0, cz, hgz, hlz, cw, hlw, hgw2, enW, w1, w2, w3, vl_len, huf, hut, hufn, hutn, Nat.min_self, -List.length_flatMap]) (by simp -implicitDefEqProofs (disch := first | (refine NE.mk ?_; first | omega | assumption) | (refine LTn.mk ?_; omega) | (refine NFam.mk ?_; simp only [t3, t6, t7, t66, t67, t68, hi, hgy, hgy', cy, hly, cm, gm0, cz, hgz, hlz, cw, hlw, hgw2, enW, w1, w2, w3, vl_len, huf, hut, hufn, hutn, updO_same, notFam_cells]; omega)) [t3, t6, t7, t66, t67, t68, hi, hgy, hgy', cy, hly, cm, gm0, cz, hgz, hlz, cw, hlw, hgw2, enW, w1, w2, w3, vl_len, huf, hut, hufn, hutn, Nat.min_self, -List.length_flatMap]) (by simp -implicitDefEqProofs (disch := first | (refine NE.mk ?_; first | omega | assumption) | (refine LTn.mk ?_; omega) | (refine NFam.mk ?_; simp only [t3, t6, t7, t66, t67, t68, hi, hgy, hgy', cy, hly, cm, gm0, cz, hgz, hlz, cw, hlw, hgw2, enW, w1, w2, w3, vl_len, huf, hut, hufn, hutn, updO_same, notFam_cells]; omega)) [t3, t6, t7, t66, t67, t68, hi, hgy, hgy', cy, hly, cm, gm0, cz, hgz, hlz, cw, hlw, hgw2, enW, w1, w2, w3, vl_len, huf, hut, hufn, hutn, Nat.min_self, -List.length_flatMap]) (by simp -implicitDefEqProofs (disch := first | (refine NE.mk ?_; first | omega | assumption) | (refine LTn.mk ?_; omega) | (refine NFam.mk ?_; simp only [t3, t6, t7, t66, t67, t68, hi, hgy, hgy', cy, hly, cm, gm0, cz, hgz, hlz, cw, hlw, hgw2, enW, w1, w2, w3, vl_len, huf, hut, hufn, hutn, updO_same, notFam_cells]; omega)) [t3, t6, t7, t66, t67, t68, hi, hgy, hgy', cy, hly, cm, gm0, cz, hgz, hlz, cw, hlw, hgw2, enW, w1, w2, w3, vl_len, huf, hut, hufn, hutn, Nat.min_self, -List.length_flatMap]) (by simp -implicitDefEqProofs (disch := first | (refine NE.mk ?_; first | omega | assumption) | (refine LTn.mk ?_; omega) | (refine NFam.mk ?_; simp only [t3, t6, t7, t66, t67, t68, hi, hgy, hgy', cy, hly, cm, gm0, cz, hgz, hlz, cw, hlw, hgw2, enW, w1, w2, w3, vl_len, huf, hut, hufn, hutn, updO_same, notFam_cells]; omega)) [t3, t6, t7, t66, t67, t68, hi, hgy, hgy', cy, hly, cm, gm0, cz, hgz, hlz, cw, hlw, hgw2, enW, w1, w2, w3, vl_len, huf, hut, hufn, hutn, Nat.min_self, -List.length_flatMap]) (fl _ (by (try dsimp only [keepOnly_eq]); omega))
        · rename_i hi
          refine hE 2 _ ?_
          (try simp -implicitDefEqProofs (disch := first | (refine NE.mk ?_; first | omega | assumption) | (refine LTn.mk ?_; omega) | (refine NFam.mk ?_; simp only [t3, t6, t7, t66, t67, t68, updO_same, notFam_cells]; omega)) [t3, t6, t7, t66, t67, t68, Nat.min_self, -List.length_flatMap])
          refine s3_52 ?_
          simp -implicitDefEqProofs (disch := first | (refine NE.mk ?_; first | omega | assumption) | (refine LTn.mk ?_; omega) | (refine NFam.mk ?_; simp only [t3, t6, t7, t66, t67, t68, updO_same, notFam_cells]; omega)) [↓h3_53, ↓h3_53_1, t3, t6, t7, t66, t67, t68, Nat.min_self, -List.length_flatMap]
          refine wF_mono (wF_out rfl (out14 _)) ?_
          rintro _ _ ⟨rfl, rfl⟩
          (try simp -implicitDefEqProofs (disch := first | (refine NE.mk ?_; first | omega | assumption) | (refine LTn.mk ?_; omega) | (refine NFam.mk ?_; simp only [t3, t6, t7, t66, t67, t68, updO_same, notFam_cells]; omega)) [↓h3_53, ↓h3_53_1, t3, t6, t7, t66, t67, t68, Nat.min_self, -List.length_flatMap])
          exact hQ _ _ _ (.inr rfl) rfl (by simp -implicitDefEqProofs (disch := first | (refine NE.mk ?_; first | omega | assumption) | (refine LTn.mk ?_; omega) | (refine NFam.mk ?_; simp only [t3, t6, t7, t66, t67, t68, updO_same, notFam_cells]; omega)) [t3, t6, t7, t66, t67, t68, Nat.min_self, -List.length_flatMap])
end Go.Proofs.Ythoicdnlcnppgaa.Fn
