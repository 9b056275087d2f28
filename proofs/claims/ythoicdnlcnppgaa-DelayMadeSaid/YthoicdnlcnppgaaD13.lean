/- Contracts: the reference's check. Conditions: none. -/
import Derived.Test.YthoicdnlcnppgaaD12
set_option linter.unusedVariables false
set_option linter.unusedSimpArgs false
namespace Go.Proofs.Ythoicdnlcnppgaa.Fn
open Go Go.Am
set_option maxRecDepth 100000
set_option maxHeartbeats 1000000
theorem k23 (xm xw xp : Cell) (m : List Mom) (w : List Wt) (p : List Pr) (h : AH) (vm : View h.o h.nx xm enM m) (vw : View h.o h.nx xw enW w) (vp : View h.o h.nx xp enPr p)
    (hm : m.length < 9223372036854775807) (hw : w.length < 9223372036854775807) (hp : p.length < 9223372036854775807) :
    wF fs out 23 [.v (.one xm), .v (.one xw), .v (.one xp)] h fun r h' => ∃ b, r = .v (.one (.bool b)) ∧ (b = true ↔ Valid m w p) ∧ h.le h' := by
  refine wF_fn fs23 rfl fun Q hQ => ?_
  have lenm := vm.lenV (fs := fs) (out := out)
  have lenw := vw.lenV (fs := fs) (out := out)
  have lenp := vp.lenV (fs := fs) (out := out)
  have bad : ∀ (t : Nat → T) (g : AH), ¬ Valid m w p → h.le g → t 6 = .v (.one (.bool false)) → Q .ret ⟨t, g⟩ := fun t g hv hl h6 =>
    hQ _ _ _ (.inr rfl) (by simp only [resc, resv, a23, h6]) ⟨false, rfl, by simp [hv], hl⟩
  rcases (Classical.em ((m.length : Int) ≤ 64)).symm with e0 | d0
  · have f0 := eq_false e0
    refine s23_0 ?_
    simp -implicitDefEqProofs (disch := constructor; omega) [↓h23_1, lenm, lenw, lenp, f0]
    refine s23_2 ?_
    simp -implicitDefEqProofs (disch := constructor; omega) [↓h23_3, lenm, lenw, lenp, f0]
    refine s23_4 ?_
    refine s23_5 ?_
    simp -implicitDefEqProofs (disch := constructor; omega) [↓h23_6, ↓w23_6_1, ↓h23_6_1g, ↓h23_6_2, ↓w23_6_3, ↓h23_6_3g, ↓h23_6_4, lenm, lenw, lenp, f0]
    refine s23_7 ?_
    simp -implicitDefEqProofs (disch := constructor; omega) [lenm, lenw, lenp, f0]
    refine s23_8 ?_
    simp -implicitDefEqProofs (disch := constructor; omega) [↓h23_9, lenm, lenw, lenp, f0]
    exact bad _ _ (fun V => by have := V.ml; have := V.wl; have := V.pl; omega) ⟨(by (try dsimp only [keepOnly_eq]); omega), fun i hi => rfl⟩ (by simp -implicitDefEqProofs (disch := constructor; omega) [lenm, lenw, lenp, f0])
  rcases (Classical.em ((w.length : Int) ≤ 200)).symm with e1 | d1
  · have f1 := eq_false e1
    refine s23_0 ?_
    simp -implicitDefEqProofs (disch := constructor; omega) [↓h23_1, lenm, lenw, lenp, d0, f1]
    refine s23_2 ?_
    simp -implicitDefEqProofs (disch := constructor; omega) [↓h23_3, lenm, lenw, lenp, d0, f1]
    refine s23_4 ?_
    refine s23_5 ?_
    simp -implicitDefEqProofs (disch := constructor; omega) [↓h23_6, ↓w23_6_1, ↓h23_6_1g, ↓h23_6_2, ↓w23_6_3, ↓h23_6_3g, ↓h23_6_4, lenm, lenw, lenp, d0, f1]
    refine s23_7 ?_
    simp -implicitDefEqProofs (disch := constructor; omega) [lenm, lenw, lenp, d0, f1]
    refine s23_8 ?_
    simp -implicitDefEqProofs (disch := constructor; omega) [↓h23_9, lenm, lenw, lenp, d0, f1]
    exact bad _ _ (fun V => by have := V.ml; have := V.wl; have := V.pl; omega) ⟨(by (try dsimp only [keepOnly_eq]); omega), fun i hi => rfl⟩ (by simp -implicitDefEqProofs (disch := constructor; omega) [lenm, lenw, lenp, d0, f1])
  by_cases e2 : 64 < (p.length : Int)
  · skip
    refine s23_0 ?_
    simp -implicitDefEqProofs (disch := constructor; omega) [↓h23_1, lenm, lenw, lenp, d0, d1, e2]
    refine s23_2 ?_
    simp -implicitDefEqProofs (disch := constructor; omega) [↓h23_3, lenm, lenw, lenp, d0, d1, e2]
    refine s23_4 ?_
    refine s23_5 ?_
    simp -implicitDefEqProofs (disch := constructor; omega) [↓h23_6, ↓w23_6_1, ↓h23_6_1g, ↓h23_6_2, ↓w23_6_3, ↓h23_6_3g, ↓h23_6_4, lenm, lenw, lenp, d0, d1, e2]
    refine s23_7 ?_
    simp -implicitDefEqProofs (disch := constructor; omega) [lenm, lenw, lenp, d0, d1, e2]
    refine s23_8 ?_
    simp -implicitDefEqProofs (disch := constructor; omega) [↓h23_9, lenm, lenw, lenp, d0, d1, e2]
    exact bad _ _ (fun V => by have := V.ml; have := V.wl; have := V.pl; omega) ⟨(by (try dsimp only [keepOnly_eq]); omega), fun i hi => rfl⟩ (by simp -implicitDefEqProofs (disch := constructor; omega) [lenm, lenw, lenp, d0, d1, e2])
  have d2 := eq_false e2
  refine s23_0 ?_
  simp -implicitDefEqProofs (disch := constructor; omega) [↓h23_1, lenm, lenw, lenp, d0, d1, d2]
  refine s23_2 ?_
  simp -implicitDefEqProofs (disch := constructor; omega) [↓h23_3, lenm, lenw, lenp, d0, d1, d2]
  refine s23_4 ?_
  refine s23_5 ?_
  simp -implicitDefEqProofs (disch := constructor; omega) [↓h23_6, ↓w23_6_1, ↓h23_6_1g, ↓h23_6_2, ↓w23_6_3, ↓h23_6_3g, ↓h23_6_4, lenm, lenw, lenp, d0, d1, d2]
  refine s23_7 ?_
  simp -implicitDefEqProofs (disch := constructor; omega) [lenm, lenw, lenp, d0, d1, d2]
  refine s23_10 ?_
  refine s23_11 ?_
  simp -implicitDefEqProofs (disch := constructor; omega) [↓h23_12, lenm, lenw, lenp, d0, d1, d2]
  refine s23_13 ?_
  refine s23_14 (fun k s => ∃ i : Nat, i + k = m.length ∧ s.t 1 = .v (.one (xw)) ∧ s.t 2 = .v (.one (xp)) ∧ s.t 7 = .v (.one (.int .i64 (m.length))) ∧ s.t 32 = .v (.one (xm)) ∧ s.t 33 = .v (.one (.int .i64 (m.length))) ∧ s.t 34 = .v (.one (.int .i64 (i))) ∧ h.le s.h ∧ ∀ x ∈ m.take i, withinS x.t = true) m.length ?_ ?_
  · exact ⟨0, by omega, by simp -implicitDefEqProofs (disch := constructor; omega) [lenm, lenw, lenp, d0, d1, d2], by simp -implicitDefEqProofs (disch := constructor; omega) [lenm, lenw, lenp, d0, d1, d2], by simp -implicitDefEqProofs (disch := constructor; omega) [lenm, lenw, lenp, d0, d1, d2], by simp -implicitDefEqProofs (disch := constructor; omega) [lenm, lenw, lenp, d0, d1, d2], by simp -implicitDefEqProofs (disch := constructor; omega) [lenm, lenw, lenp, d0, d1, d2], by simp -implicitDefEqProofs (disch := constructor; omega) [lenm, lenw, lenp, d0, d1, d2], ⟨(by (try dsimp only [keepOnly_eq]); omega), fun i hi => by simp -implicitDefEqProofs (disch := constructor; omega) [lenm, lenw, lenp, d0, d1, d2]⟩, by simp⟩
  · rintro k s Q2 ⟨i, hk, t1, t2, t7, t32, t33, t34, ⟨hn, ho⟩, hv⟩ hN hE hR
    refine s23_15 ?_
    simp -implicitDefEqProofs (disch := constructor; omega) [↓h23_16, t1, t2, t7, t32, t33, t34]
    refine s23_17 ?_
    simp -implicitDefEqProofs (disch := constructor; omega) [t1, t2, t7, t32, t33, t34]
    split
    · rename_i hi
      obtain ⟨jm, fm, rom, em, wm, csm, rfl, hjm, hcm, hlm, hgm1, hgm2, hgm3⟩ := vm.get enM_len hi
      have cm := (ho jm hjm).trans hcm
      obtain ⟨x, hxe⟩ : ∃ x, x = m[i] := ⟨_, rfl⟩
      rw [← hxe] at hgm1 hgm2 hgm3
      have hmem : x ∈ m := by rw [hxe]; exact List.getElem_mem hi
      have w1 := wrap64 (show -9223372036854775808 ≤ (i : Int) + 1 by omega) (by omega)
      rcases (Classical.em (0 ≤ x.t)).symm with e0 | d0
      · have f0 := eq_false e0
        refine s23_19 ?_
        refine s23_20 ?_
        refine s23_21 ?_
        simp -implicitDefEqProofs (disch := constructor; omega) [↓h23_22, t1, t2, t7, t32, t33, t34, hi, cm, hlm, hgm2, enM, w1, f0]
        refine s23_23 ?_
        simp -implicitDefEqProofs (disch := constructor; omega) [↓h23_24, ↓w23_24_1, ↓h23_24_1g, ↓h23_24_2, t1, t2, t7, t32, t33, t34, hi, cm, hlm, hgm2, enM, w1, f0]
        refine s23_25 ?_
        simp -implicitDefEqProofs (disch := constructor; omega) [t1, t2, t7, t32, t33, t34, hi, cm, hlm, hgm2, enM, w1, f0]
        refine s23_26 ?_
        simp -implicitDefEqProofs (disch := constructor; omega) [↓h23_27, t1, t2, t7, t32, t33, t34, hi, cm, hlm, hgm2, enM, w1, f0]
        refine hR _ ?_
        (try simp -implicitDefEqProofs (disch := constructor; omega) [t1, t2, t7, t32, t33, t34, hi, cm, hlm, hgm2, enM, w1, f0])
        exact bad _ _ (fun V => by have := within_iff.1 (V.mm x hmem); omega) ⟨(by (try dsimp only [keepOnly_eq]); omega), fun i hi => by simp -implicitDefEqProofs (disch := constructor; omega) [t1, t2, t7, t32, t33, t34, hi, cm, hlm, hgm2, enM, w1, f0]; exact ho i hi⟩ (by simp -implicitDefEqProofs (disch := constructor; omega) [t1, t2, t7, t32, t33, t34, hi, cm, hlm, hgm2, enM, w1, f0])
      by_cases e1 : 4194304 < x.t
      · skip
        refine s23_19 ?_
        refine s23_20 ?_
        refine s23_21 ?_
        simp -implicitDefEqProofs (disch := constructor; omega) [↓h23_22, t1, t2, t7, t32, t33, t34, hi, cm, hlm, hgm2, enM, w1, d0, e1]
        refine s23_23 ?_
        simp -implicitDefEqProofs (disch := constructor; omega) [↓h23_24, ↓w23_24_1, ↓h23_24_1g, ↓h23_24_2, t1, t2, t7, t32, t33, t34, hi, cm, hlm, hgm2, enM, w1, d0, e1]
        refine s23_25 ?_
        simp -implicitDefEqProofs (disch := constructor; omega) [t1, t2, t7, t32, t33, t34, hi, cm, hlm, hgm2, enM, w1, d0, e1]
        refine s23_26 ?_
        simp -implicitDefEqProofs (disch := constructor; omega) [↓h23_27, t1, t2, t7, t32, t33, t34, hi, cm, hlm, hgm2, enM, w1, d0, e1]
        refine hR _ ?_
        (try simp -implicitDefEqProofs (disch := constructor; omega) [t1, t2, t7, t32, t33, t34, hi, cm, hlm, hgm2, enM, w1, d0, e1])
        exact bad _ _ (fun V => by have := within_iff.1 (V.mm x hmem); omega) ⟨(by (try dsimp only [keepOnly_eq]); omega), fun i hi => by simp -implicitDefEqProofs (disch := constructor; omega) [t1, t2, t7, t32, t33, t34, hi, cm, hlm, hgm2, enM, w1, d0, e1]; exact ho i hi⟩ (by simp -implicitDefEqProofs (disch := constructor; omega) [t1, t2, t7, t32, t33, t34, hi, cm, hlm, hgm2, enM, w1, d0, e1])
      have d1 := eq_false e1
      refine s23_19 ?_
      refine s23_20 ?_
      refine s23_21 ?_
      simp -implicitDefEqProofs (disch := constructor; omega) [↓h23_22, t1, t2, t7, t32, t33, t34, hi, cm, hlm, hgm2, enM, w1, d0, d1]
      refine s23_23 ?_
      simp -implicitDefEqProofs (disch := constructor; omega) [↓h23_24, ↓w23_24_1, ↓h23_24_1g, ↓h23_24_2, t1, t2, t7, t32, t33, t34, hi, cm, hlm, hgm2, enM, w1, d0, d1]
      refine s23_25 ?_
      simp -implicitDefEqProofs (disch := constructor; omega) [t1, t2, t7, t32, t33, t34, hi, cm, hlm, hgm2, enM, w1, d0, d1]
      refine s23_28 ?_
      simp -implicitDefEqProofs (disch := constructor; omega) [↓h23_28, t1, t2, t7, t32, t33, t34, hi, cm, hlm, hgm2, enM, w1, d0, d1]
      refine hN (k - 1) _ (by omega) ?_
      dsimp only [keepOnly_eq]
      refine ⟨i + 1, by omega, by simp -implicitDefEqProofs (disch := constructor; omega) [t1, t2, t7, t32, t33, t34, hi, cm, hlm, hgm2, enM, w1, d0, d1], by simp -implicitDefEqProofs (disch := constructor; omega) [t1, t2, t7, t32, t33, t34, hi, cm, hlm, hgm2, enM, w1, d0, d1], by simp -implicitDefEqProofs (disch := constructor; omega) [t1, t2, t7, t32, t33, t34, hi, cm, hlm, hgm2, enM, w1, d0, d1], by simp -implicitDefEqProofs (disch := constructor; omega) [t1, t2, t7, t32, t33, t34, hi, cm, hlm, hgm2, enM, w1, d0, d1], by simp -implicitDefEqProofs (disch := constructor; omega) [t1, t2, t7, t32, t33, t34, hi, cm, hlm, hgm2, enM, w1, d0, d1], by simp -implicitDefEqProofs (disch := constructor; omega) [t1, t2, t7, t32, t33, t34, hi, cm, hlm, hgm2, enM, w1, d0, d1], ⟨(by (try dsimp only [keepOnly_eq]); omega), fun i hi => by simp -implicitDefEqProofs (disch := constructor; omega) [t1, t2, t7, t32, t33, t34, hi, cm, hlm, hgm2, enM, w1, d0, d1]; exact ho i hi⟩, fun y hy => ?_⟩
      rw [List.take_succ_eq_append_getElem hi] at hy
      rcases List.mem_append.1 hy with hy | hy
      · exact hv y hy
      · simp at hy; rw [hy, ← hxe]; exact within_iff.2 (by omega)
    · rename_i hi
      have hmm : ∀ x ∈ m, withinS x.t = true := by rw [List.take_of_length_le (by omega)] at hv; exact hv
      refine hE 0 _ ?_
      (try simp -implicitDefEqProofs (disch := constructor; omega) [t1, t2, t7, t32, t33, t34, lenw])
      refine s23_29 ?_
      refine s23_30 ?_
      simp -implicitDefEqProofs (disch := constructor; omega) [↓h23_31, t1, t2, t7, t32, t33, t34, lenw]
      refine s23_32 ?_
      refine s23_33 (fun k s => ∃ i : Nat, i + k = w.length ∧ s.t 1 = .v (.one (xw)) ∧ s.t 2 = .v (.one (xp)) ∧ s.t 7 = .v (.one (.int .i64 (m.length))) ∧ s.t 47 = .v (.one (xw)) ∧ s.t 48 = .v (.one (.int .i64 (w.length))) ∧ s.t 49 = .v (.one (.int .i64 (i))) ∧ h.le s.h ∧ ∀ x ∈ w.take i, okV m.length x) w.length ?_ ?_
      · exact ⟨0, by omega, by simp -implicitDefEqProofs (disch := constructor; omega) [t1, t2, t7, t32, t33, t34, lenw], by simp -implicitDefEqProofs (disch := constructor; omega) [t1, t2, t7, t32, t33, t34, lenw], by simp -implicitDefEqProofs (disch := constructor; omega) [t1, t2, t7, t32, t33, t34, lenw], by simp -implicitDefEqProofs (disch := constructor; omega) [t1, t2, t7, t32, t33, t34, lenw], by simp -implicitDefEqProofs (disch := constructor; omega) [t1, t2, t7, t32, t33, t34, lenw], by simp -implicitDefEqProofs (disch := constructor; omega) [t1, t2, t7, t32, t33, t34, lenw], ⟨(by (try dsimp only [keepOnly_eq]); omega), fun i hi => by simp -implicitDefEqProofs (disch := constructor; omega) [t1, t2, t7, t32, t33, t34, lenw]; exact ho i hi⟩, by simp⟩
      · clear t1 t2 t7 t32 t33 t34 hn ho hv hi hk
        rintro k s Q3 ⟨i, hk, t1, t2, t7, t47, t48, t49, ⟨hn, ho⟩, hv⟩ hN' hE' hR'
        refine s23_34 ?_
        simp -implicitDefEqProofs (disch := constructor; omega) [↓h23_35, t1, t2, t7, t47, t48, t49]
        refine s23_36 ?_
        simp -implicitDefEqProofs (disch := constructor; omega) [t1, t2, t7, t47, t48, t49]
        split
        · rename_i hi
          obtain ⟨jw, fw, row, ew, ww, csw, rfl, hjw, hcw, hlw, hgw1, hgw2, hgw3⟩ := vw.get enW_len hi
          have cw := (ho jw hjw).trans hcw
          obtain ⟨x, hxe⟩ : ∃ x, x = w[i] := ⟨_, rfl⟩
          rw [← hxe] at hgw1 hgw2 hgw3
          have hmem : x ∈ w := by rw [hxe]; exact List.getElem_mem hi
          have w1 := wrap64 (show -9223372036854775808 ≤ (i : Int) + 1 by omega) (by omega)
          rcases (Classical.em (0 ≤ x.f)).symm with e0 | d0
          · have f0 := eq_false e0
            refine s23_38 ?_
            refine s23_39 ?_
            refine s23_40 ?_
            simp -implicitDefEqProofs (disch := constructor; omega) [↓h23_41, t1, t2, t7, t47, t48, t49, hi, cw, hlw, hgw2, enW, w1, f0]
            refine s23_42 ?_
            simp -implicitDefEqProofs (disch := constructor; omega) [↓h23_43, ↓w23_43_1, ↓h23_43_1g, ↓h23_43_2, ↓w23_43_3, ↓h23_43_3g, ↓h23_43_4, ↓w23_43_5, ↓h23_43_5g, ↓h23_43_6, ↓w23_43_7, ↓h23_43_7g, ↓h23_43_8, ↓w23_43_9, ↓h23_43_9g, ↓h23_43_10, ↓w23_43_11, ↓h23_43_11g, ↓h23_43_12, ↓w23_43_13, ↓h23_43_13g, ↓h23_43_14, ↓w23_43_15, ↓h23_43_15g, ↓h23_43_16, t1, t2, t7, t47, t48, t49, hi, cw, hlw, hgw2, enW, w1, f0]
            refine s23_44 ?_
            simp -implicitDefEqProofs (disch := constructor; omega) [t1, t2, t7, t47, t48, t49, hi, cw, hlw, hgw2, enW, w1, f0]
            refine s23_45 ?_
            simp -implicitDefEqProofs (disch := constructor; omega) [↓h23_46, t1, t2, t7, t47, t48, t49, hi, cw, hlw, hgw2, enW, w1, f0]
            refine hR' _ ?_
            (try simp -implicitDefEqProofs (disch := constructor; omega) [t1, t2, t7, t47, t48, t49, hi, cw, hlw, hgw2, enW, w1, f0])
            refine bad _ _ (fun V => ?_) ⟨(by (try dsimp only [keepOnly_eq]); omega), fun i hi => by simp -implicitDefEqProofs (disch := constructor; omega) [t1, t2, t7, t47, t48, t49, hi, cw, hlw, hgw2, enW, w1, f0]; exact ho i hi⟩ (by simp -implicitDefEqProofs (disch := constructor; omega) [t1, t2, t7, t47, t48, t49, hi, cw, hlw, hgw2, enW, w1, f0])
            obtain ⟨⟨v1, v2, v3, v4⟩, v5, v6, v7⟩ := V.ww x hmem
            have v6' := within_iff.1 v6
            rcases v7 with v7 | v7
            · omega
            · have v7' := within_iff.1 v7; omega
          rcases (Classical.em (x.f < m.length)).symm with e1 | d1
          · have f1 := eq_false e1
            refine s23_38 ?_
            refine s23_39 ?_
            refine s23_40 ?_
            simp -implicitDefEqProofs (disch := constructor; omega) [↓h23_41, t1, t2, t7, t47, t48, t49, hi, cw, hlw, hgw2, enW, w1, d0, f1]
            refine s23_42 ?_
            simp -implicitDefEqProofs (disch := constructor; omega) [↓h23_43, ↓w23_43_1, ↓h23_43_1g, ↓h23_43_2, ↓w23_43_3, ↓h23_43_3g, ↓h23_43_4, ↓w23_43_5, ↓h23_43_5g, ↓h23_43_6, ↓w23_43_7, ↓h23_43_7g, ↓h23_43_8, ↓w23_43_9, ↓h23_43_9g, ↓h23_43_10, ↓w23_43_11, ↓h23_43_11g, ↓h23_43_12, ↓w23_43_13, ↓h23_43_13g, ↓h23_43_14, ↓w23_43_15, ↓h23_43_15g, ↓h23_43_16, t1, t2, t7, t47, t48, t49, hi, cw, hlw, hgw2, enW, w1, d0, f1]
            refine s23_44 ?_
            simp -implicitDefEqProofs (disch := constructor; omega) [t1, t2, t7, t47, t48, t49, hi, cw, hlw, hgw2, enW, w1, d0, f1]
            refine s23_45 ?_
            simp -implicitDefEqProofs (disch := constructor; omega) [↓h23_46, t1, t2, t7, t47, t48, t49, hi, cw, hlw, hgw2, enW, w1, d0, f1]
            refine hR' _ ?_
            (try simp -implicitDefEqProofs (disch := constructor; omega) [t1, t2, t7, t47, t48, t49, hi, cw, hlw, hgw2, enW, w1, d0, f1])
            refine bad _ _ (fun V => ?_) ⟨(by (try dsimp only [keepOnly_eq]); omega), fun i hi => by simp -implicitDefEqProofs (disch := constructor; omega) [t1, t2, t7, t47, t48, t49, hi, cw, hlw, hgw2, enW, w1, d0, f1]; exact ho i hi⟩ (by simp -implicitDefEqProofs (disch := constructor; omega) [t1, t2, t7, t47, t48, t49, hi, cw, hlw, hgw2, enW, w1, d0, f1])
            obtain ⟨⟨v1, v2, v3, v4⟩, v5, v6, v7⟩ := V.ww x hmem
            have v6' := within_iff.1 v6
            rcases v7 with v7 | v7
            · omega
            · have v7' := within_iff.1 v7; omega
          rcases (Classical.em (0 ≤ x.t)).symm with e2 | d2
          · have f2 := eq_false e2
            refine s23_38 ?_
            refine s23_39 ?_
            refine s23_40 ?_
            simp -implicitDefEqProofs (disch := constructor; omega) [↓h23_41, t1, t2, t7, t47, t48, t49, hi, cw, hlw, hgw2, enW, w1, d0, d1, f2]
            refine s23_42 ?_
            simp -implicitDefEqProofs (disch := constructor; omega) [↓h23_43, ↓w23_43_1, ↓h23_43_1g, ↓h23_43_2, ↓w23_43_3, ↓h23_43_3g, ↓h23_43_4, ↓w23_43_5, ↓h23_43_5g, ↓h23_43_6, ↓w23_43_7, ↓h23_43_7g, ↓h23_43_8, ↓w23_43_9, ↓h23_43_9g, ↓h23_43_10, ↓w23_43_11, ↓h23_43_11g, ↓h23_43_12, ↓w23_43_13, ↓h23_43_13g, ↓h23_43_14, ↓w23_43_15, ↓h23_43_15g, ↓h23_43_16, t1, t2, t7, t47, t48, t49, hi, cw, hlw, hgw2, enW, w1, d0, d1, f2]
            refine s23_44 ?_
            simp -implicitDefEqProofs (disch := constructor; omega) [t1, t2, t7, t47, t48, t49, hi, cw, hlw, hgw2, enW, w1, d0, d1, f2]
            refine s23_45 ?_
            simp -implicitDefEqProofs (disch := constructor; omega) [↓h23_46, t1, t2, t7, t47, t48, t49, hi, cw, hlw, hgw2, enW, w1, d0, d1, f2]
            refine hR' _ ?_
            (try simp -implicitDefEqProofs (disch := constructor; omega) [t1, t2, t7, t47, t48, t49, hi, cw, hlw, hgw2, enW, w1, d0, d1, f2])
            refine bad _ _ (fun V => ?_) ⟨(by (try dsimp only [keepOnly_eq]); omega), fun i hi => by simp -implicitDefEqProofs (disch := constructor; omega) [t1, t2, t7, t47, t48, t49, hi, cw, hlw, hgw2, enW, w1, d0, d1, f2]; exact ho i hi⟩ (by simp -implicitDefEqProofs (disch := constructor; omega) [t1, t2, t7, t47, t48, t49, hi, cw, hlw, hgw2, enW, w1, d0, d1, f2])
            obtain ⟨⟨v1, v2, v3, v4⟩, v5, v6, v7⟩ := V.ww x hmem
            have v6' := within_iff.1 v6
            rcases v7 with v7 | v7
            · omega
            · have v7' := within_iff.1 v7; omega
          rcases (Classical.em (x.t < m.length)).symm with e3 | d3
          · have f3 := eq_false e3
            refine s23_38 ?_
            refine s23_39 ?_
            refine s23_40 ?_
            simp -implicitDefEqProofs (disch := constructor; omega) [↓h23_41, t1, t2, t7, t47, t48, t49, hi, cw, hlw, hgw2, enW, w1, d0, d1, d2, f3]
            refine s23_42 ?_
            simp -implicitDefEqProofs (disch := constructor; omega) [↓h23_43, ↓w23_43_1, ↓h23_43_1g, ↓h23_43_2, ↓w23_43_3, ↓h23_43_3g, ↓h23_43_4, ↓w23_43_5, ↓h23_43_5g, ↓h23_43_6, ↓w23_43_7, ↓h23_43_7g, ↓h23_43_8, ↓w23_43_9, ↓h23_43_9g, ↓h23_43_10, ↓w23_43_11, ↓h23_43_11g, ↓h23_43_12, ↓w23_43_13, ↓h23_43_13g, ↓h23_43_14, ↓w23_43_15, ↓h23_43_15g, ↓h23_43_16, t1, t2, t7, t47, t48, t49, hi, cw, hlw, hgw2, enW, w1, d0, d1, d2, f3]
            refine s23_44 ?_
            simp -implicitDefEqProofs (disch := constructor; omega) [t1, t2, t7, t47, t48, t49, hi, cw, hlw, hgw2, enW, w1, d0, d1, d2, f3]
            refine s23_45 ?_
            simp -implicitDefEqProofs (disch := constructor; omega) [↓h23_46, t1, t2, t7, t47, t48, t49, hi, cw, hlw, hgw2, enW, w1, d0, d1, d2, f3]
            refine hR' _ ?_
            (try simp -implicitDefEqProofs (disch := constructor; omega) [t1, t2, t7, t47, t48, t49, hi, cw, hlw, hgw2, enW, w1, d0, d1, d2, f3])
            refine bad _ _ (fun V => ?_) ⟨(by (try dsimp only [keepOnly_eq]); omega), fun i hi => by simp -implicitDefEqProofs (disch := constructor; omega) [t1, t2, t7, t47, t48, t49, hi, cw, hlw, hgw2, enW, w1, d0, d1, d2, f3]; exact ho i hi⟩ (by simp -implicitDefEqProofs (disch := constructor; omega) [t1, t2, t7, t47, t48, t49, hi, cw, hlw, hgw2, enW, w1, d0, d1, d2, f3])
            obtain ⟨⟨v1, v2, v3, v4⟩, v5, v6, v7⟩ := V.ww x hmem
            have v6' := within_iff.1 v6
            rcases v7 with v7 | v7
            · omega
            · have v7' := within_iff.1 v7; omega
          by_cases e4 : x.f = x.t
          · skip
            refine s23_38 ?_
            refine s23_39 ?_
            refine s23_40 ?_
            simp -implicitDefEqProofs (disch := constructor; omega) [↓h23_41, t1, t2, t7, t47, t48, t49, hi, cw, hlw, hgw2, enW, w1, d0, d1, d2, d3, e4]
            refine s23_42 ?_
            simp -implicitDefEqProofs (disch := constructor; omega) [↓h23_43, ↓w23_43_1, ↓h23_43_1g, ↓h23_43_2, ↓w23_43_3, ↓h23_43_3g, ↓h23_43_4, ↓w23_43_5, ↓h23_43_5g, ↓h23_43_6, ↓w23_43_7, ↓h23_43_7g, ↓h23_43_8, ↓w23_43_9, ↓h23_43_9g, ↓h23_43_10, ↓w23_43_11, ↓h23_43_11g, ↓h23_43_12, ↓w23_43_13, ↓h23_43_13g, ↓h23_43_14, ↓w23_43_15, ↓h23_43_15g, ↓h23_43_16, t1, t2, t7, t47, t48, t49, hi, cw, hlw, hgw2, enW, w1, d0, d1, d2, d3, e4]
            refine s23_44 ?_
            simp -implicitDefEqProofs (disch := constructor; omega) [t1, t2, t7, t47, t48, t49, hi, cw, hlw, hgw2, enW, w1, d0, d1, d2, d3, e4]
            refine s23_45 ?_
            simp -implicitDefEqProofs (disch := constructor; omega) [↓h23_46, t1, t2, t7, t47, t48, t49, hi, cw, hlw, hgw2, enW, w1, d0, d1, d2, d3, e4]
            refine hR' _ ?_
            (try simp -implicitDefEqProofs (disch := constructor; omega) [t1, t2, t7, t47, t48, t49, hi, cw, hlw, hgw2, enW, w1, d0, d1, d2, d3, e4])
            refine bad _ _ (fun V => ?_) ⟨(by (try dsimp only [keepOnly_eq]); omega), fun i hi => by simp -implicitDefEqProofs (disch := constructor; omega) [t1, t2, t7, t47, t48, t49, hi, cw, hlw, hgw2, enW, w1, d0, d1, d2, d3, e4]; exact ho i hi⟩ (by simp -implicitDefEqProofs (disch := constructor; omega) [t1, t2, t7, t47, t48, t49, hi, cw, hlw, hgw2, enW, w1, d0, d1, d2, d3, e4])
            obtain ⟨⟨v1, v2, v3, v4⟩, v5, v6, v7⟩ := V.ww x hmem
            have v6' := within_iff.1 v6
            rcases v7 with v7 | v7
            · omega
            · have v7' := within_iff.1 v7; omega
          have d4 := eq_false e4
          rcases (Classical.em (0 ≤ x.mn)).symm with e5 | d5
          · have f5 := eq_false e5
            refine s23_38 ?_
            refine s23_39 ?_
            refine s23_40 ?_
            simp -implicitDefEqProofs (disch := constructor; omega) [↓h23_41, t1, t2, t7, t47, t48, t49, hi, cw, hlw, hgw2, enW, w1, d0, d1, d2, d3, d4, f5]
            refine s23_42 ?_
            simp -implicitDefEqProofs (disch := constructor; omega) [↓h23_43, ↓w23_43_1, ↓h23_43_1g, ↓h23_43_2, ↓w23_43_3, ↓h23_43_3g, ↓h23_43_4, ↓w23_43_5, ↓h23_43_5g, ↓h23_43_6, ↓w23_43_7, ↓h23_43_7g, ↓h23_43_8, ↓w23_43_9, ↓h23_43_9g, ↓h23_43_10, ↓w23_43_11, ↓h23_43_11g, ↓h23_43_12, ↓w23_43_13, ↓h23_43_13g, ↓h23_43_14, ↓w23_43_15, ↓h23_43_15g, ↓h23_43_16, t1, t2, t7, t47, t48, t49, hi, cw, hlw, hgw2, enW, w1, d0, d1, d2, d3, d4, f5]
            refine s23_44 ?_
            simp -implicitDefEqProofs (disch := constructor; omega) [t1, t2, t7, t47, t48, t49, hi, cw, hlw, hgw2, enW, w1, d0, d1, d2, d3, d4, f5]
            refine s23_45 ?_
            simp -implicitDefEqProofs (disch := constructor; omega) [↓h23_46, t1, t2, t7, t47, t48, t49, hi, cw, hlw, hgw2, enW, w1, d0, d1, d2, d3, d4, f5]
            refine hR' _ ?_
            (try simp -implicitDefEqProofs (disch := constructor; omega) [t1, t2, t7, t47, t48, t49, hi, cw, hlw, hgw2, enW, w1, d0, d1, d2, d3, d4, f5])
            refine bad _ _ (fun V => ?_) ⟨(by (try dsimp only [keepOnly_eq]); omega), fun i hi => by simp -implicitDefEqProofs (disch := constructor; omega) [t1, t2, t7, t47, t48, t49, hi, cw, hlw, hgw2, enW, w1, d0, d1, d2, d3, d4, f5]; exact ho i hi⟩ (by simp -implicitDefEqProofs (disch := constructor; omega) [t1, t2, t7, t47, t48, t49, hi, cw, hlw, hgw2, enW, w1, d0, d1, d2, d3, d4, f5])
            obtain ⟨⟨v1, v2, v3, v4⟩, v5, v6, v7⟩ := V.ww x hmem
            have v6' := within_iff.1 v6
            rcases v7 with v7 | v7
            · omega
            · have v7' := within_iff.1 v7; omega
          rcases (Classical.em (x.mn ≤ 4194304)).symm with e6 | d6
          · have f6 := eq_false e6
            refine s23_38 ?_
            refine s23_39 ?_
            refine s23_40 ?_
            simp -implicitDefEqProofs (disch := constructor; omega) [↓h23_41, t1, t2, t7, t47, t48, t49, hi, cw, hlw, hgw2, enW, w1, d0, d1, d2, d3, d4, d5, f6]
            refine s23_42 ?_
            simp -implicitDefEqProofs (disch := constructor; omega) [↓h23_43, ↓w23_43_1, ↓h23_43_1g, ↓h23_43_2, ↓w23_43_3, ↓h23_43_3g, ↓h23_43_4, ↓w23_43_5, ↓h23_43_5g, ↓h23_43_6, ↓w23_43_7, ↓h23_43_7g, ↓h23_43_8, ↓w23_43_9, ↓h23_43_9g, ↓h23_43_10, ↓w23_43_11, ↓h23_43_11g, ↓h23_43_12, ↓w23_43_13, ↓h23_43_13g, ↓h23_43_14, ↓w23_43_15, ↓h23_43_15g, ↓h23_43_16, t1, t2, t7, t47, t48, t49, hi, cw, hlw, hgw2, enW, w1, d0, d1, d2, d3, d4, d5, f6]
            refine s23_44 ?_
            simp -implicitDefEqProofs (disch := constructor; omega) [t1, t2, t7, t47, t48, t49, hi, cw, hlw, hgw2, enW, w1, d0, d1, d2, d3, d4, d5, f6]
            refine s23_45 ?_
            simp -implicitDefEqProofs (disch := constructor; omega) [↓h23_46, t1, t2, t7, t47, t48, t49, hi, cw, hlw, hgw2, enW, w1, d0, d1, d2, d3, d4, d5, f6]
            refine hR' _ ?_
            (try simp -implicitDefEqProofs (disch := constructor; omega) [t1, t2, t7, t47, t48, t49, hi, cw, hlw, hgw2, enW, w1, d0, d1, d2, d3, d4, d5, f6])
            refine bad _ _ (fun V => ?_) ⟨(by (try dsimp only [keepOnly_eq]); omega), fun i hi => by simp -implicitDefEqProofs (disch := constructor; omega) [t1, t2, t7, t47, t48, t49, hi, cw, hlw, hgw2, enW, w1, d0, d1, d2, d3, d4, d5, f6]; exact ho i hi⟩ (by simp -implicitDefEqProofs (disch := constructor; omega) [t1, t2, t7, t47, t48, t49, hi, cw, hlw, hgw2, enW, w1, d0, d1, d2, d3, d4, d5, f6])
            obtain ⟨⟨v1, v2, v3, v4⟩, v5, v6, v7⟩ := V.ww x hmem
            have v6' := within_iff.1 v6
            rcases v7 with v7 | v7
            · omega
            · have v7' := within_iff.1 v7; omega
          rcases (Classical.em (-1 ≤ x.ms)).symm with e7 | d7
          · have f7 := eq_false e7
            refine s23_38 ?_
            refine s23_39 ?_
            refine s23_40 ?_
            simp -implicitDefEqProofs (disch := constructor; omega) [↓h23_41, t1, t2, t7, t47, t48, t49, hi, cw, hlw, hgw2, enW, w1, d0, d1, d2, d3, d4, d5, d6, f7]
            refine s23_42 ?_
            simp -implicitDefEqProofs (disch := constructor; omega) [↓h23_43, ↓w23_43_1, ↓h23_43_1g, ↓h23_43_2, ↓w23_43_3, ↓h23_43_3g, ↓h23_43_4, ↓w23_43_5, ↓h23_43_5g, ↓h23_43_6, ↓w23_43_7, ↓h23_43_7g, ↓h23_43_8, ↓w23_43_9, ↓h23_43_9g, ↓h23_43_10, ↓w23_43_11, ↓h23_43_11g, ↓h23_43_12, ↓w23_43_13, ↓h23_43_13g, ↓h23_43_14, ↓w23_43_15, ↓h23_43_15g, ↓h23_43_16, t1, t2, t7, t47, t48, t49, hi, cw, hlw, hgw2, enW, w1, d0, d1, d2, d3, d4, d5, d6, f7]
            refine s23_44 ?_
            simp -implicitDefEqProofs (disch := constructor; omega) [t1, t2, t7, t47, t48, t49, hi, cw, hlw, hgw2, enW, w1, d0, d1, d2, d3, d4, d5, d6, f7]
            refine s23_45 ?_
            simp -implicitDefEqProofs (disch := constructor; omega) [↓h23_46, t1, t2, t7, t47, t48, t49, hi, cw, hlw, hgw2, enW, w1, d0, d1, d2, d3, d4, d5, d6, f7]
            refine hR' _ ?_
            (try simp -implicitDefEqProofs (disch := constructor; omega) [t1, t2, t7, t47, t48, t49, hi, cw, hlw, hgw2, enW, w1, d0, d1, d2, d3, d4, d5, d6, f7])
            refine bad _ _ (fun V => ?_) ⟨(by (try dsimp only [keepOnly_eq]); omega), fun i hi => by simp -implicitDefEqProofs (disch := constructor; omega) [t1, t2, t7, t47, t48, t49, hi, cw, hlw, hgw2, enW, w1, d0, d1, d2, d3, d4, d5, d6, f7]; exact ho i hi⟩ (by simp -implicitDefEqProofs (disch := constructor; omega) [t1, t2, t7, t47, t48, t49, hi, cw, hlw, hgw2, enW, w1, d0, d1, d2, d3, d4, d5, d6, f7])
            obtain ⟨⟨v1, v2, v3, v4⟩, v5, v6, v7⟩ := V.ww x hmem
            have v6' := within_iff.1 v6
            rcases v7 with v7 | v7
            · omega
            · have v7' := within_iff.1 v7; omega
          by_cases e8 : 4194304 < x.ms
          · skip
            refine s23_38 ?_
            refine s23_39 ?_
            refine s23_40 ?_
            simp -implicitDefEqProofs (disch := constructor; omega) [↓h23_41, t1, t2, t7, t47, t48, t49, hi, cw, hlw, hgw2, enW, w1, d0, d1, d2, d3, d4, d5, d6, d7, e8]
            refine s23_42 ?_
            simp -implicitDefEqProofs (disch := constructor; omega) [↓h23_43, ↓w23_43_1, ↓h23_43_1g, ↓h23_43_2, ↓w23_43_3, ↓h23_43_3g, ↓h23_43_4, ↓w23_43_5, ↓h23_43_5g, ↓h23_43_6, ↓w23_43_7, ↓h23_43_7g, ↓h23_43_8, ↓w23_43_9, ↓h23_43_9g, ↓h23_43_10, ↓w23_43_11, ↓h23_43_11g, ↓h23_43_12, ↓w23_43_13, ↓h23_43_13g, ↓h23_43_14, ↓w23_43_15, ↓h23_43_15g, ↓h23_43_16, t1, t2, t7, t47, t48, t49, hi, cw, hlw, hgw2, enW, w1, d0, d1, d2, d3, d4, d5, d6, d7, e8]
            refine s23_44 ?_
            simp -implicitDefEqProofs (disch := constructor; omega) [t1, t2, t7, t47, t48, t49, hi, cw, hlw, hgw2, enW, w1, d0, d1, d2, d3, d4, d5, d6, d7, e8]
            refine s23_45 ?_
            simp -implicitDefEqProofs (disch := constructor; omega) [↓h23_46, t1, t2, t7, t47, t48, t49, hi, cw, hlw, hgw2, enW, w1, d0, d1, d2, d3, d4, d5, d6, d7, e8]
            refine hR' _ ?_
            (try simp -implicitDefEqProofs (disch := constructor; omega) [t1, t2, t7, t47, t48, t49, hi, cw, hlw, hgw2, enW, w1, d0, d1, d2, d3, d4, d5, d6, d7, e8])
            refine bad _ _ (fun V => ?_) ⟨(by (try dsimp only [keepOnly_eq]); omega), fun i hi => by simp -implicitDefEqProofs (disch := constructor; omega) [t1, t2, t7, t47, t48, t49, hi, cw, hlw, hgw2, enW, w1, d0, d1, d2, d3, d4, d5, d6, d7, e8]; exact ho i hi⟩ (by simp -implicitDefEqProofs (disch := constructor; omega) [t1, t2, t7, t47, t48, t49, hi, cw, hlw, hgw2, enW, w1, d0, d1, d2, d3, d4, d5, d6, d7, e8])
            obtain ⟨⟨v1, v2, v3, v4⟩, v5, v6, v7⟩ := V.ww x hmem
            have v6' := within_iff.1 v6
            rcases v7 with v7 | v7
            · omega
            · have v7' := within_iff.1 v7; omega
          have d8 := eq_false e8
          refine s23_38 ?_
          refine s23_39 ?_
          refine s23_40 ?_
          simp -implicitDefEqProofs (disch := constructor; omega) [↓h23_41, t1, t2, t7, t47, t48, t49, hi, cw, hlw, hgw2, enW, w1, d0, d1, d2, d3, d4, d5, d6, d7, d8]
          refine s23_42 ?_
          simp -implicitDefEqProofs (disch := constructor; omega) [↓h23_43, ↓w23_43_1, ↓h23_43_1g, ↓h23_43_2, ↓w23_43_3, ↓h23_43_3g, ↓h23_43_4, ↓w23_43_5, ↓h23_43_5g, ↓h23_43_6, ↓w23_43_7, ↓h23_43_7g, ↓h23_43_8, ↓w23_43_9, ↓h23_43_9g, ↓h23_43_10, ↓w23_43_11, ↓h23_43_11g, ↓h23_43_12, ↓w23_43_13, ↓h23_43_13g, ↓h23_43_14, ↓w23_43_15, ↓h23_43_15g, ↓h23_43_16, t1, t2, t7, t47, t48, t49, hi, cw, hlw, hgw2, enW, w1, d0, d1, d2, d3, d4, d5, d6, d7, d8]
          refine s23_44 ?_
          simp -implicitDefEqProofs (disch := constructor; omega) [t1, t2, t7, t47, t48, t49, hi, cw, hlw, hgw2, enW, w1, d0, d1, d2, d3, d4, d5, d6, d7, d8]
          refine s23_47 ?_
          simp -implicitDefEqProofs (disch := constructor; omega) [↓h23_47, t1, t2, t7, t47, t48, t49, hi, cw, hlw, hgw2, enW, w1, d0, d1, d2, d3, d4, d5, d6, d7, d8]
          refine hN' (k - 1) _ (by omega) ?_
          dsimp only [keepOnly_eq]
          refine ⟨i + 1, by omega, by simp -implicitDefEqProofs (disch := constructor; omega) [t1, t2, t7, t47, t48, t49, hi, cw, hlw, hgw2, enW, w1, d0, d1, d2, d3, d4, d5, d6, d7, d8], by simp -implicitDefEqProofs (disch := constructor; omega) [t1, t2, t7, t47, t48, t49, hi, cw, hlw, hgw2, enW, w1, d0, d1, d2, d3, d4, d5, d6, d7, d8], by simp -implicitDefEqProofs (disch := constructor; omega) [t1, t2, t7, t47, t48, t49, hi, cw, hlw, hgw2, enW, w1, d0, d1, d2, d3, d4, d5, d6, d7, d8], by simp -implicitDefEqProofs (disch := constructor; omega) [t1, t2, t7, t47, t48, t49, hi, cw, hlw, hgw2, enW, w1, d0, d1, d2, d3, d4, d5, d6, d7, d8], by simp -implicitDefEqProofs (disch := constructor; omega) [t1, t2, t7, t47, t48, t49, hi, cw, hlw, hgw2, enW, w1, d0, d1, d2, d3, d4, d5, d6, d7, d8], by simp -implicitDefEqProofs (disch := constructor; omega) [t1, t2, t7, t47, t48, t49, hi, cw, hlw, hgw2, enW, w1, d0, d1, d2, d3, d4, d5, d6, d7, d8], ⟨(by (try dsimp only [keepOnly_eq]); omega), fun i hi => by simp -implicitDefEqProofs (disch := constructor; omega) [t1, t2, t7, t47, t48, t49, hi, cw, hlw, hgw2, enW, w1, d0, d1, d2, d3, d4, d5, d6, d7, d8]; exact ho i hi⟩, fun y hy => ?_⟩
          rw [List.take_succ_eq_append_getElem hi] at hy
          rcases List.mem_append.1 hy with hy | hy
          · exact hv y hy
          · simp at hy; rw [hy, ← hxe]
            refine ⟨⟨d0, d1, d2, d3⟩, e4, within_iff.2 ⟨d5, d6⟩, ?_⟩
            by_cases e : x.ms = -1
            · exact .inl e
            · exact .inr (within_iff.2 (by omega))
        · rename_i hi
          have hww : ∀ x ∈ w, okV m.length x := by rw [List.take_of_length_le (by omega)] at hv; exact hv
          refine hE' 2 _ ?_
          (try simp -implicitDefEqProofs (disch := constructor; omega) [t1, t2, t7, t47, t48, t49, lenp])
          refine s23_48 ?_
          refine s23_49 ?_
          simp -implicitDefEqProofs (disch := constructor; omega) [↓h23_50, t1, t2, t7, t47, t48, t49, lenp]
          refine s23_51 ?_
          refine s23_52 (fun k s => ∃ i : Nat, i + k = p.length ∧ s.t 1 = .v (.one (xw)) ∧ s.t 2 = .v (.one (xp)) ∧ s.t 7 = .v (.one (.int .i64 (m.length))) ∧ s.t 101 = .v (.one (xp)) ∧ s.t 102 = .v (.one (.int .i64 (p.length))) ∧ s.t 103 = .v (.one (.int .i64 (i))) ∧ h.le s.h ∧ (∀ x ∈ p.take i, okQ m.length x) ∧ ((p.take i).map Pr.m).Nodup) p.length ?_ ?_
          · exact ⟨0, by omega, by simp -implicitDefEqProofs (disch := constructor; omega) [t1, t2, t7, t47, t48, t49, lenp], by simp -implicitDefEqProofs (disch := constructor; omega) [t1, t2, t7, t47, t48, t49, lenp], by simp -implicitDefEqProofs (disch := constructor; omega) [t1, t2, t7, t47, t48, t49, lenp], by simp -implicitDefEqProofs (disch := constructor; omega) [t1, t2, t7, t47, t48, t49, lenp], by simp -implicitDefEqProofs (disch := constructor; omega) [t1, t2, t7, t47, t48, t49, lenp], by simp -implicitDefEqProofs (disch := constructor; omega) [t1, t2, t7, t47, t48, t49, lenp], ⟨(by (try dsimp only [keepOnly_eq]); omega), fun i hi => by simp -implicitDefEqProofs (disch := constructor; omega) [t1, t2, t7, t47, t48, t49, lenp]; exact ho i hi⟩, by simp, by simp⟩
          · clear t1 t2 t7 t47 t48 t49 hn ho hv hi hk
            rintro k s Q4 ⟨i, hk, t1, t2, t7, t101, t102, t103, ⟨hn, ho⟩, hv, hnd⟩ hN2 hE2 hR2
            refine s23_53 ?_
            simp -implicitDefEqProofs (disch := constructor; omega) [↓h23_54, t1, t2, t7, t101, t102, t103, lenw]
            refine s23_55 ?_
            simp -implicitDefEqProofs (disch := constructor; omega) [t1, t2, t7, t101, t102, t103, lenw]
            split
            · rename_i hi
              obtain ⟨jp, fp, rop, ep, wp, csp, rfl, hjp, hcp, hlp, hgp1, hgp2, hgp3⟩ := vp.get enPr_len hi
              have cp := (ho jp hjp).trans hcp
              obtain ⟨x, hxe⟩ : ∃ x, x = p[i] := ⟨_, rfl⟩
              rw [← hxe] at hgp1 hgp2 hgp3
              have hmem : x ∈ p := by rw [hxe]; exact List.getElem_mem hi
              have w1 := wrap64 (show -9223372036854775808 ≤ (i : Int) + 1 by omega) (by omega)
              rcases (Classical.em (0 ≤ x.m)).symm with e0 | d0
              · have f0 := eq_false e0
                refine s23_57 ?_
                refine s23_58 ?_
                refine s23_59 ?_
                simp -implicitDefEqProofs (disch := constructor; omega) [↓h23_60, t1, t2, t7, t101, t102, t103, hi, cp, hlp, hgp2, enPr, w1, f0]
                refine s23_61 ?_
                refine s23_62 ?_
                simp -implicitDefEqProofs (disch := constructor; omega) [↓h23_63, ↓w23_63_1, ↓h23_63_1g, ↓h23_63_2, ↓w23_63_3, ↓h23_63_3g, ↓h23_63_4, ↓w23_63_5, ↓h23_63_5g, ↓h23_63_6, t1, t2, t7, t101, t102, t103, hi, cp, hlp, hgp2, enPr, w1, f0]
                refine s23_64 ?_
                simp -implicitDefEqProofs (disch := constructor; omega) [t1, t2, t7, t101, t102, t103, hi, cp, hlp, hgp2, enPr, w1, f0]
                refine s23_65 ?_
                simp -implicitDefEqProofs (disch := constructor; omega) [↓h23_66, t1, t2, t7, t101, t102, t103, hi, cp, hlp, hgp2, enPr, w1, f0]
                refine hR2 _ ?_
                (try simp -implicitDefEqProofs (disch := constructor; omega) [t1, t2, t7, t101, t102, t103, hi, cp, hlp, hgp2, enPr, w1, f0])
                refine bad _ _ (fun V => ?_) ⟨(by (try dsimp only [keepOnly_eq]); omega), fun i hi => by simp -implicitDefEqProofs (disch := constructor; omega) [t1, t2, t7, t101, t102, t103, hi, cp, hlp, hgp2, enPr, w1, f0]; exact ho i hi⟩ (by simp -implicitDefEqProofs (disch := constructor; omega) [t1, t2, t7, t101, t102, t103, hi, cp, hlp, hgp2, enPr, w1, f0])
                obtain ⟨v1, v2, v3⟩ := V.pp x hmem
                have v3' := within_iff.1 v3
                omega
              rcases (Classical.em (x.m < m.length)).symm with e1 | d1
              · have f1 := eq_false e1
                refine s23_57 ?_
                refine s23_58 ?_
                refine s23_59 ?_
                simp -implicitDefEqProofs (disch := constructor; omega) [↓h23_60, t1, t2, t7, t101, t102, t103, hi, cp, hlp, hgp2, enPr, w1, d0, f1]
                refine s23_61 ?_
                refine s23_62 ?_
                simp -implicitDefEqProofs (disch := constructor; omega) [↓h23_63, ↓w23_63_1, ↓h23_63_1g, ↓h23_63_2, ↓w23_63_3, ↓h23_63_3g, ↓h23_63_4, ↓w23_63_5, ↓h23_63_5g, ↓h23_63_6, t1, t2, t7, t101, t102, t103, hi, cp, hlp, hgp2, enPr, w1, d0, f1]
                refine s23_64 ?_
                simp -implicitDefEqProofs (disch := constructor; omega) [t1, t2, t7, t101, t102, t103, hi, cp, hlp, hgp2, enPr, w1, d0, f1]
                refine s23_65 ?_
                simp -implicitDefEqProofs (disch := constructor; omega) [↓h23_66, t1, t2, t7, t101, t102, t103, hi, cp, hlp, hgp2, enPr, w1, d0, f1]
                refine hR2 _ ?_
                (try simp -implicitDefEqProofs (disch := constructor; omega) [t1, t2, t7, t101, t102, t103, hi, cp, hlp, hgp2, enPr, w1, d0, f1])
                refine bad _ _ (fun V => ?_) ⟨(by (try dsimp only [keepOnly_eq]); omega), fun i hi => by simp -implicitDefEqProofs (disch := constructor; omega) [t1, t2, t7, t101, t102, t103, hi, cp, hlp, hgp2, enPr, w1, d0, f1]; exact ho i hi⟩ (by simp -implicitDefEqProofs (disch := constructor; omega) [t1, t2, t7, t101, t102, t103, hi, cp, hlp, hgp2, enPr, w1, d0, f1])
                obtain ⟨v1, v2, v3⟩ := V.pp x hmem
                have v3' := within_iff.1 v3
                omega
              rcases (Classical.em (0 ≤ x.s)).symm with e2 | d2
              · have f2 := eq_false e2
                refine s23_57 ?_
                refine s23_58 ?_
                refine s23_59 ?_
                simp -implicitDefEqProofs (disch := constructor; omega) [↓h23_60, t1, t2, t7, t101, t102, t103, hi, cp, hlp, hgp2, enPr, w1, d0, d1, f2]
                refine s23_61 ?_
                refine s23_62 ?_
                simp -implicitDefEqProofs (disch := constructor; omega) [↓h23_63, ↓w23_63_1, ↓h23_63_1g, ↓h23_63_2, ↓w23_63_3, ↓h23_63_3g, ↓h23_63_4, ↓w23_63_5, ↓h23_63_5g, ↓h23_63_6, t1, t2, t7, t101, t102, t103, hi, cp, hlp, hgp2, enPr, w1, d0, d1, f2]
                refine s23_64 ?_
                simp -implicitDefEqProofs (disch := constructor; omega) [t1, t2, t7, t101, t102, t103, hi, cp, hlp, hgp2, enPr, w1, d0, d1, f2]
                refine s23_65 ?_
                simp -implicitDefEqProofs (disch := constructor; omega) [↓h23_66, t1, t2, t7, t101, t102, t103, hi, cp, hlp, hgp2, enPr, w1, d0, d1, f2]
                refine hR2 _ ?_
                (try simp -implicitDefEqProofs (disch := constructor; omega) [t1, t2, t7, t101, t102, t103, hi, cp, hlp, hgp2, enPr, w1, d0, d1, f2])
                refine bad _ _ (fun V => ?_) ⟨(by (try dsimp only [keepOnly_eq]); omega), fun i hi => by simp -implicitDefEqProofs (disch := constructor; omega) [t1, t2, t7, t101, t102, t103, hi, cp, hlp, hgp2, enPr, w1, d0, d1, f2]; exact ho i hi⟩ (by simp -implicitDefEqProofs (disch := constructor; omega) [t1, t2, t7, t101, t102, t103, hi, cp, hlp, hgp2, enPr, w1, d0, d1, f2])
                obtain ⟨v1, v2, v3⟩ := V.pp x hmem
                have v3' := within_iff.1 v3
                omega
              by_cases e3 : 4194304 < x.s
              · skip
                refine s23_57 ?_
                refine s23_58 ?_
                refine s23_59 ?_
                simp -implicitDefEqProofs (disch := constructor; omega) [↓h23_60, t1, t2, t7, t101, t102, t103, hi, cp, hlp, hgp2, enPr, w1, d0, d1, d2, e3]
                refine s23_61 ?_
                refine s23_62 ?_
                simp -implicitDefEqProofs (disch := constructor; omega) [↓h23_63, ↓w23_63_1, ↓h23_63_1g, ↓h23_63_2, ↓w23_63_3, ↓h23_63_3g, ↓h23_63_4, ↓w23_63_5, ↓h23_63_5g, ↓h23_63_6, t1, t2, t7, t101, t102, t103, hi, cp, hlp, hgp2, enPr, w1, d0, d1, d2, e3]
                refine s23_64 ?_
                simp -implicitDefEqProofs (disch := constructor; omega) [t1, t2, t7, t101, t102, t103, hi, cp, hlp, hgp2, enPr, w1, d0, d1, d2, e3]
                refine s23_65 ?_
                simp -implicitDefEqProofs (disch := constructor; omega) [↓h23_66, t1, t2, t7, t101, t102, t103, hi, cp, hlp, hgp2, enPr, w1, d0, d1, d2, e3]
                refine hR2 _ ?_
                (try simp -implicitDefEqProofs (disch := constructor; omega) [t1, t2, t7, t101, t102, t103, hi, cp, hlp, hgp2, enPr, w1, d0, d1, d2, e3])
                refine bad _ _ (fun V => ?_) ⟨(by (try dsimp only [keepOnly_eq]); omega), fun i hi => by simp -implicitDefEqProofs (disch := constructor; omega) [t1, t2, t7, t101, t102, t103, hi, cp, hlp, hgp2, enPr, w1, d0, d1, d2, e3]; exact ho i hi⟩ (by simp -implicitDefEqProofs (disch := constructor; omega) [t1, t2, t7, t101, t102, t103, hi, cp, hlp, hgp2, enPr, w1, d0, d1, d2, e3])
                obtain ⟨v1, v2, v3⟩ := V.pp x hmem
                have v3' := within_iff.1 v3
                omega
              have d3 := eq_false e3
              have hile : i ≤ p.length := by omega
              refine s23_57 ?_
              refine s23_58 ?_
              refine s23_59 ?_
              simp -implicitDefEqProofs (disch := constructor; omega) [↓h23_60, t1, t2, t7, t101, t102, t103, hi, cp, hlp, hgp2, enPr, w1, d0, d1, d2, d3, hile]
              refine s23_61 ?_
              refine s23_62 ?_
              simp -implicitDefEqProofs (disch := constructor; omega) [↓h23_63, ↓w23_63_1, ↓h23_63_1g, ↓h23_63_2, ↓w23_63_3, ↓h23_63_3g, ↓h23_63_4, ↓w23_63_5, ↓h23_63_5g, ↓h23_63_6, t1, t2, t7, t101, t102, t103, hi, cp, hlp, hgp2, enPr, w1, d0, d1, d2, d3, hile]
              refine s23_64 ?_
              simp -implicitDefEqProofs (disch := constructor; omega) [t1, t2, t7, t101, t102, t103, hi, cp, hlp, hgp2, enPr, w1, d0, d1, d2, d3, hile]
              refine s23_67 ?_
              simp -implicitDefEqProofs (disch := constructor; omega) [↓h23_68, t1, t2, t7, t101, t102, t103, hi, cp, hlp, hgp2, enPr, w1, d0, d1, d2, d3, hile]
              refine s23_69 ?_
              have v2 : View h.o h.nx (.slice jp 0 i) enPr (p.take i) := by
                obtain ⟨j', hj', v2⟩ := vp.take (k := i) (by omega) (by simp)
                cases hj'; exact v2
              have hil : (p.take i).length = i := by simp; omega
              obtain ⟨q, hq⟩ : ∃ q, q = s.h.nx + 1 + 3 := ⟨_, rfl⟩
              rw [← hq]
              refine s23_70 (fun z s => ∃ k : Nat, k + z = i ∧ s.t 1 = .v (.one (xw)) ∧ s.t 2 = .v (.one (.slice jp 0 p.length)) ∧ s.t 7 = .v (.one (.int .i64 (m.length))) ∧ s.t 13 = .v (.one (.ptr q 0)) ∧ s.t 101 = .v (.one (.slice jp 0 p.length)) ∧ s.t 102 = .v (.one (.int .i64 (p.length))) ∧ s.t 103 = .v (.one (.int .i64 (i))) ∧ s.t 129 = .v (.one (.slice jp 0 i)) ∧ s.t 130 = .v (.one (.int .i64 (i))) ∧ s.t 131 = .v (.one (.int .i64 (k))) ∧ h.le s.h ∧ q < s.h.nx ∧ s.h.o q = some (.cells q false 39 0 [.int .i64 x.m, .int .i64 x.s]) ∧ ∀ y ∈ (p.take i).take k, y.m ≠ x.m) i ?_ ?_
              · refine ⟨0, by omega, by simp -implicitDefEqProofs (disch := constructor; omega) [t1, t2, t7, t101, t102, t103, hi, cp, hlp, hgp2, enPr, w1, d0, d1, d2, d3, hile], by simp -implicitDefEqProofs (disch := constructor; omega) [t1, t2, t7, t101, t102, t103, hi, cp, hlp, hgp2, enPr, w1, d0, d1, d2, d3, hile], by simp -implicitDefEqProofs (disch := constructor; omega) [t1, t2, t7, t101, t102, t103, hi, cp, hlp, hgp2, enPr, w1, d0, d1, d2, d3, hile], by simp -implicitDefEqProofs (disch := constructor; omega) [t1, t2, t7, t101, t102, t103, hi, cp, hlp, hgp2, enPr, w1, d0, d1, d2, d3, hile], by simp -implicitDefEqProofs (disch := constructor; omega) [t1, t2, t7, t101, t102, t103, hi, cp, hlp, hgp2, enPr, w1, d0, d1, d2, d3, hile], by simp -implicitDefEqProofs (disch := constructor; omega) [t1, t2, t7, t101, t102, t103, hi, cp, hlp, hgp2, enPr, w1, d0, d1, d2, d3, hile], by simp -implicitDefEqProofs (disch := constructor; omega) [t1, t2, t7, t101, t102, t103, hi, cp, hlp, hgp2, enPr, w1, d0, d1, d2, d3, hile], by simp -implicitDefEqProofs (disch := constructor; omega) [t1, t2, t7, t101, t102, t103, hi, cp, hlp, hgp2, enPr, w1, d0, d1, d2, d3, hile], by simp -implicitDefEqProofs (disch := constructor; omega) [t1, t2, t7, t101, t102, t103, hi, cp, hlp, hgp2, enPr, w1, d0, d1, d2, d3, hile], by simp -implicitDefEqProofs (disch := constructor; omega) [t1, t2, t7, t101, t102, t103, hi, cp, hlp, hgp2, enPr, w1, d0, d1, d2, d3, hile], ⟨(by (try dsimp only [keepOnly_eq]); omega), fun i hi => by simp -implicitDefEqProofs (disch := constructor; omega) [t1, t2, t7, t101, t102, t103, hi, cp, hlp, hgp2, enPr, w1, d0, d1, d2, d3, hile]; exact ho i hi⟩, (by (try dsimp only [keepOnly_eq]); omega), by simp -implicitDefEqProofs (disch := constructor; omega) [t1, t2, t7, t101, t102, t103, hi, cp, hlp, hgp2, enPr, w1, d0, d1, d2, d3, hile], by simp⟩
              · have hqn : h.nx ≤ q := by omega
                clear t1 t2 t7 t101 t102 t103 hn ho hq cp
                rintro z s Q5 ⟨k2, hz, t1, t2, t7, t13, t101, t102, t103, t129, t130, t131, ⟨hn, ho⟩, hqs, oq, hne⟩ hN3 hE3 hR3
                have cp := (ho jp hjp).trans hcp
                refine s23_71 ?_
                simp -implicitDefEqProofs (disch := constructor; omega) [↓h23_72, t1, t2, t7, t13, t101, t102, t103, t129, t130, t131]
                refine s23_73 ?_
                simp -implicitDefEqProofs (disch := constructor; omega) [t1, t2, t7, t13, t101, t102, t103, t129, t130, t131]
                split
                · rename_i hk2
                  obtain ⟨jp', fp', rop', ep', wp', csp', hje, hjp', hcp', hlp', hgp1', hgp2', hgp3'⟩ := v2.get enPr_len (i := k2) (by omega)
                  rw [hil] at hje
                  cases hje
                  cases hcp.symm.trans hcp'
                  obtain ⟨y, hye⟩ : ∃ y, y = (p.take i)[k2] := ⟨_, rfl⟩
                  rw [← hye] at hgp1' hgp2' hgp3'
                  have hym : y ∈ p.take i := by rw [hye]; exact List.getElem_mem _
                  have w2 := wrap64 (show -9223372036854775808 ≤ (k2 : Int) + 1 by omega) (by omega)
                  by_cases hyx : y.m = x.m
                  · skip
                    refine s23_75 ?_
                    refine s23_76 ?_
                    refine s23_77 ?_
                    simp -implicitDefEqProofs (disch := constructor; omega) [↓h23_78, t1, t2, t7, t13, t101, t102, t103, t129, t130, t131, hk2, cp, hlp', hgp2', enPr, w2, hyx, oq]
                    refine s23_79 ?_
                    simp -implicitDefEqProofs (disch := constructor; omega) [↓h23_80, t1, t2, t7, t13, t101, t102, t103, t129, t130, t131, hk2, cp, hlp', hgp2', enPr, w2, hyx, oq]
                    refine s23_81 ?_
                    simp -implicitDefEqProofs (disch := constructor; omega) [t1, t2, t7, t13, t101, t102, t103, t129, t130, t131, hk2, cp, hlp', hgp2', enPr, w2, hyx, oq]
                    refine s23_82 ?_
                    simp -implicitDefEqProofs (disch := constructor; omega) [↓h23_83, t1, t2, t7, t13, t101, t102, t103, t129, t130, t131, hk2, cp, hlp', hgp2', enPr, w2, hyx, oq]
                    refine hR3 _ ?_
                    (try simp -implicitDefEqProofs (disch := constructor; omega) [t1, t2, t7, t13, t101, t102, t103, t129, t130, t131, hk2, cp, hlp', hgp2', enPr, w2, hyx, oq])
                    refine hR2 _ ?_
                    (try simp -implicitDefEqProofs (disch := constructor; omega) [t1, t2, t7, t13, t101, t102, t103, t129, t130, t131, hk2, cp, hlp', hgp2', enPr, w2, hyx, oq])
                    refine bad _ _ (fun V => ?_) ⟨(by (try dsimp only [keepOnly_eq]); omega), fun i hi => by simp -implicitDefEqProofs (disch := constructor; omega) [t1, t2, t7, t13, t101, t102, t103, t129, t130, t131, hk2, cp, hlp', hgp2', enPr, w2, hyx, oq]; exact ho i hi⟩ (by simp -implicitDefEqProofs (disch := constructor; omega) [t1, t2, t7, t13, t101, t102, t103, t129, t130, t131, hk2, cp, hlp', hgp2', enPr, w2, hyx, oq])
                    have hnd2 := V.pd
                    have hnd3 : ((p.take (i + 1)).map Pr.m).Nodup := by rw [List.map_take]; exact hnd2.sublist (List.take_sublist _ _)
                    rw [List.take_succ_eq_append_getElem hi, List.map_append, ← hxe] at hnd3
                    exact (List.nodup_append.1 hnd3).2.2 y.m (List.mem_map_of_mem hym) x.m (by simp) hyx
                  · have hyx' := eq_false hyx
                    refine s23_75 ?_
                    refine s23_76 ?_
                    refine s23_77 ?_
                    simp -implicitDefEqProofs (disch := constructor; omega) [↓h23_78, t1, t2, t7, t13, t101, t102, t103, t129, t130, t131, hk2, cp, hlp', hgp2', enPr, w2, hyx', oq]
                    refine s23_79 ?_
                    simp -implicitDefEqProofs (disch := constructor; omega) [↓h23_80, t1, t2, t7, t13, t101, t102, t103, t129, t130, t131, hk2, cp, hlp', hgp2', enPr, w2, hyx', oq]
                    refine s23_81 ?_
                    simp -implicitDefEqProofs (disch := constructor; omega) [t1, t2, t7, t13, t101, t102, t103, t129, t130, t131, hk2, cp, hlp', hgp2', enPr, w2, hyx', oq]
                    refine s23_84 ?_
                    simp -implicitDefEqProofs (disch := constructor; omega) [↓h23_84, t1, t2, t7, t13, t101, t102, t103, t129, t130, t131, hk2, cp, hlp', hgp2', enPr, w2, hyx', oq]
                    refine hN3 (z - 1) _ (by omega) ?_
                    dsimp only [keepOnly_eq]
                    refine ⟨k2 + 1, by omega, by simp -implicitDefEqProofs (disch := constructor; omega) [t1, t2, t7, t13, t101, t102, t103, t129, t130, t131, hk2, cp, hlp', hgp2', enPr, w2, hyx', oq], by simp -implicitDefEqProofs (disch := constructor; omega) [t1, t2, t7, t13, t101, t102, t103, t129, t130, t131, hk2, cp, hlp', hgp2', enPr, w2, hyx', oq], by simp -implicitDefEqProofs (disch := constructor; omega) [t1, t2, t7, t13, t101, t102, t103, t129, t130, t131, hk2, cp, hlp', hgp2', enPr, w2, hyx', oq], by simp -implicitDefEqProofs (disch := constructor; omega) [t1, t2, t7, t13, t101, t102, t103, t129, t130, t131, hk2, cp, hlp', hgp2', enPr, w2, hyx', oq], by simp -implicitDefEqProofs (disch := constructor; omega) [t1, t2, t7, t13, t101, t102, t103, t129, t130, t131, hk2, cp, hlp', hgp2', enPr, w2, hyx', oq], by simp -implicitDefEqProofs (disch := constructor; omega) [t1, t2, t7, t13, t101, t102, t103, t129, t130, t131, hk2, cp, hlp', hgp2', enPr, w2, hyx', oq], by simp -implicitDefEqProofs (disch := constructor; omega) [t1, t2, t7, t13, t101, t102, t103, t129, t130, t131, hk2, cp, hlp', hgp2', enPr, w2, hyx', oq], by simp -implicitDefEqProofs (disch := constructor; omega) [t1, t2, t7, t13, t101, t102, t103, t129, t130, t131, hk2, cp, hlp', hgp2', enPr, w2, hyx', oq], by simp -implicitDefEqProofs (disch := constructor; omega) [t1, t2, t7, t13, t101, t102, t103, t129, t130, t131, hk2, cp, hlp', hgp2', enPr, w2, hyx', oq], by simp -implicitDefEqProofs (disch := constructor; omega) [t1, t2, t7, t13, t101, t102, t103, t129, t130, t131, hk2, cp, hlp', hgp2', enPr, w2, hyx', oq], ⟨(by (try dsimp only [keepOnly_eq]); omega), fun i hi => by simp -implicitDefEqProofs (disch := constructor; omega) [t1, t2, t7, t13, t101, t102, t103, t129, t130, t131, hk2, cp, hlp', hgp2', enPr, w2, hyx', oq]; exact ho i hi⟩, (by (try dsimp only [keepOnly_eq]); omega), by simp -implicitDefEqProofs (disch := constructor; omega) [t1, t2, t7, t13, t101, t102, t103, t129, t130, t131, hk2, cp, hlp', hgp2', enPr, w2, hyx', oq, oq], fun y' hy' => ?_⟩
                    rw [List.take_succ_eq_append_getElem (by omega)] at hy'
                    rcases List.mem_append.1 hy' with hy' | hy'
                    · exact hne y' hy'
                    · simp only [List.mem_singleton] at hy'; rw [hy', ← hye]; exact hyx
                · rename_i hk2
                  rw [List.take_of_length_le (by omega)] at hne
                  refine hE3 6 _ ?_
                  (try simp -implicitDefEqProofs (disch := constructor; omega) [t1, t2, t7, t13, t101, t102, t103, t129, t130, t131, w1])
                  refine s23_85 ?_
                  simp -implicitDefEqProofs (disch := constructor; omega) [↓h23_85, t1, t2, t7, t13, t101, t102, t103, t129, t130, t131, w1]
                  refine hN2 (k - 1) _ (by omega) ?_
                  dsimp only [keepOnly_eq]
                  refine ⟨i + 1, by omega, by simp -implicitDefEqProofs (disch := constructor; omega) [t1, t2, t7, t13, t101, t102, t103, t129, t130, t131, w1], by simp -implicitDefEqProofs (disch := constructor; omega) [t1, t2, t7, t13, t101, t102, t103, t129, t130, t131, w1], by simp -implicitDefEqProofs (disch := constructor; omega) [t1, t2, t7, t13, t101, t102, t103, t129, t130, t131, w1], by simp -implicitDefEqProofs (disch := constructor; omega) [t1, t2, t7, t13, t101, t102, t103, t129, t130, t131, w1], by simp -implicitDefEqProofs (disch := constructor; omega) [t1, t2, t7, t13, t101, t102, t103, t129, t130, t131, w1], by simp -implicitDefEqProofs (disch := constructor; omega) [t1, t2, t7, t13, t101, t102, t103, t129, t130, t131, w1], ⟨(by (try dsimp only [keepOnly_eq]); omega), ho⟩, fun y hy => ?_, ?_⟩
                  · rw [List.take_succ_eq_append_getElem hi] at hy
                    rcases List.mem_append.1 hy with hy | hy
                    · exact hv y hy
                    · simp only [List.mem_singleton] at hy; rw [hy, ← hxe]
                      exact ⟨d0, d1, within_iff.2 (by omega)⟩
                  · rw [List.take_succ_eq_append_getElem hi, List.map_append, ← hxe]
                    refine List.nodup_append.2 ⟨hnd, by simp, fun a ha b hb e => ?_⟩
                    simp at hb; subst hb; subst e
                    obtain ⟨y, hy, hyx⟩ := List.mem_map.1 ha
                    exact hne y hy hyx
            · rename_i hi
              rw [List.take_of_length_le (by omega)] at hv hnd
              refine hE2 4 _ ?_
              (try simp -implicitDefEqProofs (disch := constructor; omega) [t1, t2, t7, t101, t102, t103, lenw])
              refine s23_86 ?_
              simp -implicitDefEqProofs (disch := constructor; omega) [↓h23_87, ↓h23_87_1, t1, t2, t7, t101, t102, t103, lenw]
              refine wF_mono (k29 m.length xw w _ (vw.keep (by (try dsimp only [keepOnly_eq]); omega) fun i hi => (by simp -implicitDefEqProofs (disch := constructor; omega) [t1, t2, t7, t101, t102, t103, lenw]; exact ho i hi)) hw (by omega) (fun x hx => (hww x hx).1)) ?_
              rintro _ h1 ⟨y, b, r, rfl, S, hb, hvy, hn1, ho1⟩
              (try dsimp only at hn1 ho1)
              (try simp -implicitDefEqProofs (disch := constructor; omega) [↓h23_87, ↓h23_87_1, t1, t2, t7, t101, t102, t103, lenw])
              refine s23_88 ?_
              simp -implicitDefEqProofs (disch := constructor; omega) [↓h23_89, t1, t2, t7, t101, t102, t103, lenw]
              refine hQ _ _ _ (.inr rfl) (by simp only [resc, resv, a23]; simp -implicitDefEqProofs (disch := constructor; omega) [t1, t2, t7, t101, t102, t103, lenw]) ⟨b, rfl, hb.trans ⟨fun hr => ⟨by omega, by omega, by omega, hmm, hww, hv, hnd, r, S, hr⟩, fun V => ?_⟩, (by (try dsimp only [keepOnly_eq]); omega), fun i hi => ?_⟩
              · obtain ⟨r', S', hr'⟩ := V.s
                rw [S.len_eq S', hr']
              · (try dsimp only)
                rw [ho1 i (by omega)]
                exact ho i hi
end Go.Proofs.Ythoicdnlcnppgaa.Fn
