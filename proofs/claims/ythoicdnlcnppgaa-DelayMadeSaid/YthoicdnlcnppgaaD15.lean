/- Contracts: Lateness, and the reference's. Conditions: none. -/
import Derived.Test.YthoicdnlcnppgaaD14
set_option linter.unusedVariables false
set_option linter.unusedSimpArgs false
namespace Go.Proofs.Ythoicdnlcnppgaa.Fn
open Go Go.Am
set_option maxRecDepth 100000
set_option maxHeartbeats 1000000
def latF (m : List Mom) (l : List Int) (v : Int) : Int := IntKind.i64.wrap (l.getD v.toNat 0 - (momS m v).t)
/-- The results of Lateness. -/
def LatR (m : List Mom) (l : List Int) (r : T) (h' : AH) : Prop :=
  (l.length ≠ m.length ∧ r = .tup [.one .nils, .one (.int .i64 1)]) ∨ ∃ y, l.length = m.length ∧ r = .tup [.one y, .one (.int .i64 0)] ∧ View h'.o h'.nx y enI (vl m.length (latF m l))
theorem latF_get {m : List Mom} {l : List Int} {i : Nat} (h1 : i < m.length) (h2 : i < l.length) : latF m l i = IntKind.i64.wrap (l[i] - m[i].t) := by
  unfold latF; rw [momS_get h1]; simp [h2]
theorem gZ_congr {n : Nat} {f g : Int → Int} (h : ∀ v : Nat, v < n → f v = g v) : gZ n f = gZ n g := by
  unfold gZ
  exact List.map_congr_left fun v hv => by rw [h v (by simpa using hv)]
theorem k17 (xm xl : Cell) (m : List Mom) (l : List Int) (h : AH) (vm : View h.o h.nx xm enM m) (v : View h.o h.nx xl enI l) (hm : m.length * 16 ≤ 140737488355328) :
    wF fs out 17 [.v (.one xm), .v (.one xl)] h fun r h' => LatR m l r h' ∧ h.le h' := by
  refine wF_fn fs17 rfl fun Q hQ => ?_
  have lenm := vm.lenV (fs := fs) (out := out)
  have lenl := v.lenV (fs := fs) (out := out)
  by_cases hl : l.length = m.length
  · have hl' : ¬ (l.length : Int) ≠ m.length := by omega
    have hb1 : (m.length : Int) * 8 ≤ 140737488355328 := by omega
    have hb2 : (m.length : Int) ≤ 9223372036854775807 := by omega
    have hb3 : m.length * 8 ≤ 140737488355328 := by omega
    have hb4 : m.length ≤ 9223372036854775807 := by omega
    refine s17_0 ?_
    simp -implicitDefEqProofs (disch := constructor; omega) [↓h17_1, lenm, lenl, hl, hb1, hb2, hb3, hb4, gZ_zero]
    refine s17_2 ?_
    refine s17_3 ?_
    simp -implicitDefEqProofs (disch := constructor; omega) [↓h17_4, lenm, lenl, hl, hb1, hb2, hb3, hb4, gZ_zero]
    refine s17_5 ?_
    simp -implicitDefEqProofs (disch := constructor; omega) [lenm, lenl, hl, hb1, hb2, hb3, hb4, gZ_zero]
    refine s17_8 ?_
    simp -implicitDefEqProofs (disch := constructor; omega) [↓h17_9, lenm, lenl, hl, hb1, hb2, hb3, hb4, gZ_zero]
    refine s17_10 ?_
    refine s17_11 ?_
    simp -implicitDefEqProofs (disch := constructor; omega) [↓h17_12, lenm, lenl, hl, hb1, hb2, hb3, hb4, gZ_zero]
    refine s17_13 ?_
    obtain ⟨q, hq⟩ : ∃ q, q = h.nx + 2 + 5 + 2 := ⟨_, rfl⟩
    rw [← hq]
    refine s17_14 (fun k s => ∃ (i : Nat) (g : Int → Int), i + k = m.length ∧ s.t 0 = .v (.one (xm)) ∧ s.t 6 = .v (.one (.slice q 0 m.length)) ∧ s.t 17 = .v (.one (xl)) ∧ s.t 18 = .v (.one (.int .i64 (m.length))) ∧ s.t 19 = .v (.one (.int .i64 (i))) ∧ (∀ v : Nat, v < i → g v = latF m l v) ∧ s.h.o q = some (.cells q false 3 1 (gZ m.length g)) ∧ q < s.h.nx ∧ ∀ v, v < h.nx → s.h.o v = h.o v) m.length ?_ ?_
    · exact ⟨0, fun _ => 0, by omega, by simp -implicitDefEqProofs (disch := constructor; omega) [lenm, lenl, hl, hb1, hb2, hb3, hb4, gZ_zero], by simp -implicitDefEqProofs (disch := constructor; omega) [lenm, lenl, hl, hb1, hb2, hb3, hb4, gZ_zero], by simp -implicitDefEqProofs (disch := constructor; omega) [lenm, lenl, hl, hb1, hb2, hb3, hb4, gZ_zero], by simp -implicitDefEqProofs (disch := constructor; omega) [lenm, lenl, hl, hb1, hb2, hb3, hb4, gZ_zero], by simp -implicitDefEqProofs (disch := constructor; omega) [lenm, lenl, hl, hb1, hb2, hb3, hb4, gZ_zero], fun v h => by omega, by simp -implicitDefEqProofs (disch := constructor; omega) [lenm, lenl, hl, hb1, hb2, hb3, hb4, gZ_zero], (by (try dsimp only [keepOnly_eq]); omega), fun i hi => by simp -implicitDefEqProofs (disch := constructor; omega) [lenm, lenl, hl, hb1, hb2, hb3, hb4, gZ_zero]⟩
    · have hqn : h.nx ≤ q := by omega
      clear hq
      rintro k s Q2 ⟨i, g, hk, t0, t6, t17, t18, t19, hg, oq, hn, ho⟩ hN hE hR
      refine s17_15 ?_
      simp -implicitDefEqProofs (disch := constructor; omega) [↓h17_16, t0, t6, t17, t18, t19]
      refine s17_17 ?_
      simp -implicitDefEqProofs (disch := constructor; omega) [t0, t6, t17, t18, t19]
      split
      · rename_i hi
        obtain ⟨jm, fm, rom, em, wm, csm, rfl, hjm, hcm, hlm, hgm1, hgm2, hgm3⟩ := vm.get enM_len hi
        obtain ⟨jy, fy, roy, ey, wy, csy, rfl, hjy, hcy, hly, hgy⟩ := v.get1 (g := (Cell.int .i64 ·)) (fun _ => rfl) (i := i) (by omega)
        have gm0 : csm[i * 2]? = some (.int .i64 m[i].t) := hgm3 0 (by omega)
        have cm := (ho jm hjm).trans hcm
        have cy := (ho jy hjy).trans hcy
        have hi2 : i < l.length := by omega
        have w1 := wrap64 (show -9223372036854775808 ≤ (i : Int) + 1 by omega) (by omega)
        have gs := gZ_set (f := g) hi (latF m l i)
        have le := (latF_get hi hi2).symm
        refine s17_19 ?_
        refine s17_20 ?_
        refine s17_21 ?_
        simp -implicitDefEqProofs (disch := constructor; omega) [↓h17_22, t0, t6, t17, t18, t19, hi, hl, cm, gm0, hlm, cy, hgy, hly, w1, le, gs, oq, gZ_len]
        refine s17_23 ?_
        simp -implicitDefEqProofs (disch := constructor; omega) [↓h17_23, ↓h17_23_1, t0, t6, t17, t18, t19, hi, hl, cm, gm0, hlm, cy, hgy, hly, w1, le, gs, oq, gZ_len]
        refine s17_24 ?_
        simp -implicitDefEqProofs (disch := constructor; omega) [↓h17_24, t0, t6, t17, t18, t19, hi, hl, cm, gm0, hlm, cy, hgy, hly, w1, le, gs, oq, gZ_len]
        refine hN (k - 1) _ (by omega) ?_
        dsimp only [keepOnly_eq]
        refine ⟨i + 1, updZ g i (latF m l i), by omega, by simp -implicitDefEqProofs (disch := constructor; omega) [t0, t6, t17, t18, t19, hi, hl, cm, gm0, hlm, cy, hgy, hly, w1, le, gs, oq, gZ_len], by simp -implicitDefEqProofs (disch := constructor; omega) [t0, t6, t17, t18, t19, hi, hl, cm, gm0, hlm, cy, hgy, hly, w1, le, gs, oq, gZ_len], by simp -implicitDefEqProofs (disch := constructor; omega) [t0, t6, t17, t18, t19, hi, hl, cm, gm0, hlm, cy, hgy, hly, w1, le, gs, oq, gZ_len], by simp -implicitDefEqProofs (disch := constructor; omega) [t0, t6, t17, t18, t19, hi, hl, cm, gm0, hlm, cy, hgy, hly, w1, le, gs, oq, gZ_len], by simp -implicitDefEqProofs (disch := constructor; omega) [t0, t6, t17, t18, t19, hi, hl, cm, gm0, hlm, cy, hgy, hly, w1, le, gs, oq, gZ_len], fun v hv => ?_, by simp -implicitDefEqProofs (disch := constructor; omega) [t0, t6, t17, t18, t19, hi, hl, cm, gm0, hlm, cy, hgy, hly, w1, le, gs, oq, gZ_len], (by (try dsimp only [keepOnly_eq]); omega), fun i hi => ?_⟩
        · unfold updZ
          by_cases e : v = i
          · subst e; simp
          · rw [if_neg (by omega)]; exact hg v (by omega)
        · exact (updK (f := q) (q := q) (by omega) (.inl (by omega))).trans (ho i hi)
      · rename_i hi
        have e := gZ_congr (n := m.length) (f := g) (g := latF m l) fun v hv => hg v (by omega)
        rw [e] at oq
        refine hE 0 _ ?_
        (try simp -implicitDefEqProofs (disch := constructor; omega) [t0, t6, t17, t18, t19])
        refine s17_25 ?_
        simp -implicitDefEqProofs (disch := constructor; omega) [↓h17_26, t0, t6, t17, t18, t19]
        refine hQ _ _ _ (.inr rfl) (by simp only [resc, resv, List.mapM_cons, List.mapM_nil, a17]; simp -implicitDefEqProofs (disch := constructor; omega) [t0, t6, t17, t18, t19]; rfl) ⟨.inr ⟨.slice q 0 m.length, hl, rfl, gZ_view (Eq.trans (b := s.h.o q) (by simp -implicitDefEqProofs (disch := constructor; omega) [t0, t6, t17, t18, t19]) oq) (by (try dsimp only [keepOnly_eq]); omega)⟩, (by (try dsimp only [keepOnly_eq]); omega), ho⟩
  · have hl' := eq_false (show ¬ (l.length : Int) = m.length by omega)
    refine s17_0 ?_
    simp -implicitDefEqProofs (disch := constructor; omega) [↓h17_1, lenm, lenl, hl']
    refine s17_2 ?_
    refine s17_3 ?_
    simp -implicitDefEqProofs (disch := constructor; omega) [↓h17_4, lenm, lenl, hl']
    refine s17_5 ?_
    simp -implicitDefEqProofs (disch := constructor; omega) [lenm, lenl, hl']
    refine s17_6 ?_
    simp -implicitDefEqProofs (disch := constructor; omega) [↓h17_7, lenm, lenl, hl']
    exact hQ _ _ _ (.inr rfl) (by simp only [resc, resv, List.mapM_cons, List.mapM_nil, a17]; simp -implicitDefEqProofs (disch := constructor; omega) [lenm, lenl, hl']; rfl) ⟨.inl ⟨hl, rfl⟩, (by (try dsimp only [keepOnly_eq]); omega), fun _ _ => rfl⟩
theorem k18 (xm xl : Cell) (m : List Mom) (l : List Int) (h : AH) (vm : View h.o h.nx xm enM m) (v : View h.o h.nx xl enI l) (hm : m.length * 16 ≤ 140737488355328) :
    wF fs out 18 [.v (.one xm), .v (.one xl)] h fun r h' => LatR m l r h' ∧ h.le h' := by
  refine wF_fn fs18 rfl fun Q hQ => ?_
  have lenm := vm.lenV (fs := fs) (out := out)
  have lenl := v.lenV (fs := fs) (out := out)
  by_cases hl : l.length = m.length
  · skip
    refine s18_0 ?_
    simp -implicitDefEqProofs (disch := constructor; omega) [↓h18_1, lenm, lenl, hl]
    refine s18_2 ?_
    refine s18_3 ?_
    simp -implicitDefEqProofs (disch := constructor; omega) [↓h18_4, lenm, lenl, hl]
    refine s18_5 ?_
    simp -implicitDefEqProofs (disch := constructor; omega) [lenm, lenl, hl]
    refine s18_8 ?_
    simp -implicitDefEqProofs (disch := constructor; omega) [↓h18_9, lenm, lenl, hl]
    refine s18_10 ?_
    refine s18_11 ?_
    simp -implicitDefEqProofs (disch := constructor; omega) [↓h18_12, lenm, lenl, hl]
    refine s18_13 ?_
    refine s18_14 (fun k s => ∃ (i : Nat) (y : Cell) (f : Nat), i + k = m.length ∧ s.t 0 = .v (.one (xm)) ∧ s.t 1 = .v (.one (xl)) ∧ s.t 6 = .v (.one (y)) ∧ s.t 14 = .v (.one (.int .i64 (m.length))) ∧ s.t 15 = .v (.one (.int .i64 (i))) ∧ Own s.h.o h.nx s.h.nx y 3 1 enI (vl i (latF m l)) f ∧ h.nx ≤ s.h.nx ∧ ∀ v, v < h.nx → s.h.o v = h.o v) m.length ?_ ?_
    · exact ⟨0, .nils, 0, by omega, by simp -implicitDefEqProofs (disch := constructor; omega) [lenm, lenl, hl], by simp -implicitDefEqProofs (disch := constructor; omega) [lenm, lenl, hl], by simp -implicitDefEqProofs (disch := constructor; omega) [lenm, lenl, hl], by simp -implicitDefEqProofs (disch := constructor; omega) [lenm, lenl, hl], by simp -implicitDefEqProofs (disch := constructor; omega) [lenm, lenl, hl], Own.nil, (by (try dsimp only [keepOnly_eq]); omega), fun i hi => rfl⟩
    · rintro k s Q2 ⟨i, y, f, hk, t0, t1, t6, t14, t15, O, hn, ho⟩ hN hE hR
      refine s18_15 ?_
      simp -implicitDefEqProofs (disch := constructor; omega) [↓h18_16, t0, t1, t6, t14, t15]
      refine s18_17 ?_
      simp -implicitDefEqProofs (disch := constructor; omega) [t0, t1, t6, t14, t15]
      split
      · rename_i hi
        obtain ⟨jm, fm, rom, em, wm, csm, rfl, hjm, hcm, hlm, hgm1, hgm2, hgm3⟩ := vm.get enM_len hi
        obtain ⟨jy, fy, roy, ey, wy, csy, rfl, hjy, hcy, hly, hgy⟩ := v.get1 (g := (Cell.int .i64 ·)) (fun _ => rfl) (i := i) (by omega)
        have gm0 : csm[i * 2]? = some (.int .i64 m[i].t) := hgm3 0 (by omega)
        have cm := (ho jm hjm).trans hcm
        have cy := (ho jy hjy).trans hcy
        have hi2 : i < l.length := by omega
        have w1 := wrap64 (show -9223372036854775808 ≤ (i : Int) + 1 by omega) (by omega)
        have le := (latF_get hi hi2).symm
        have e1 : vl (i + 1) (latF m l) = vl i (latF m l) ++ [latF m l i] := by unfold vl; rw [List.range_succ, List.map_append]; rfl
        refine s18_19 ?_
        refine s18_20 ?_
        refine s18_21 ?_
        simp -implicitDefEqProofs (disch := constructor; omega) [↓h18_22, t0, t1, t6, t14, t15, hi, hl, cm, gm0, hlm, cy, hgy, hly, w1, le]
        refine s18_23 ?_
        simp -implicitDefEqProofs (disch := constructor; omega) [↓h18_23, ↓h18_23_1, ↓h18_23_2, t0, t1, t6, t14, t15, hi, hl, cm, gm0, hlm, cy, hgy, hly, w1, le]
        refine app_own (f := f) (lo := h.nx) (n := s.h.nx) (x := y) (l := vl i (latF m l)) (l2 := [latF m l i]) (enc := enI) ?_ ?_ ?_ (src_one (f := s.h.nx + 1 + 2 + 11) (ro := false) (e := 3) (s := 1) (w := 1) ?_ rfl) enI_len enI_solid (show 0 < 1 by omega) ⟨?_, ?_⟩ ?_
        · (try dsimp only)
          omega
        · (try dsimp only)
          omega
        · exact O.keep' (Nat.le_refl _) fun i hi => by simp -implicitDefEqProofs (disch := constructor; omega) [t0, t1, t6, t14, t15, hi, hl, cm, gm0, hlm, cy, hgy, hly, w1, le]
        · (try simp -implicitDefEqProofs (disch := constructor; omega) [t0, t1, t6, t14, t15, hi, hl, cm, gm0, hlm, cy, hgy, hly, w1, le, enI])
        · rw [vl_len]; simp; omega
        · rw [vl_len]; simp; omega
        rintro x' f' o' O' hf' ho'
        (try dsimp only at ho' O')
        rw [← e1] at O'
        (try simp -implicitDefEqProofs (disch := constructor; omega) [↓h18_23, ↓h18_23_1, ↓h18_23_2, t0, t1, t6, t14, t15, hi, hl, cm, gm0, hlm, cy, hgy, hly, w1, le])
        refine s18_24 ?_
        simp -implicitDefEqProofs (disch := constructor; omega) [↓h18_24, t0, t1, t6, t14, t15, hi, hl, cm, gm0, hlm, cy, hgy, hly, w1, le]
        refine hN (k - 1) _ (by omega) ?_
        dsimp only [keepOnly_eq]
        refine ⟨i + 1, x', f', by omega, by simp -implicitDefEqProofs (disch := constructor; omega) [t0, t1, t6, t14, t15, hi, hl, cm, gm0, hlm, cy, hgy, hly, w1, le], by simp -implicitDefEqProofs (disch := constructor; omega) [t0, t1, t6, t14, t15, hi, hl, cm, gm0, hlm, cy, hgy, hly, w1, le], by simp -implicitDefEqProofs (disch := constructor; omega) [t0, t1, t6, t14, t15, hi, hl, cm, gm0, hlm, cy, hgy, hly, w1, le], by simp -implicitDefEqProofs (disch := constructor; omega) [t0, t1, t6, t14, t15, hi, hl, cm, gm0, hlm, cy, hgy, hly, w1, le], by simp -implicitDefEqProofs (disch := constructor; omega) [t0, t1, t6, t14, t15, hi, hl, cm, gm0, hlm, cy, hgy, hly, w1, le], O'.keep' (by (try dsimp only [keepOnly_eq]); omega) fun _ _ => rfl, (by (try dsimp only [keepOnly_eq]); omega), ?_⟩
        intro v hv
        (try dsimp only)
        rw [ho' v (by omega) (.inl (by omega))]
        (try simp -implicitDefEqProofs (disch := constructor; omega) [t0, t1, t6, t14, t15, hi, hl, cm, gm0, hlm, cy, hgy, hly, w1, le])
        exact ho v hv
      · rename_i hi
        have hi3 : i = m.length := by omega
        subst hi3
        refine hE 0 _ ?_
        (try simp -implicitDefEqProofs (disch := constructor; omega) [t0, t1, t6, t14, t15])
        refine s18_25 ?_
        simp -implicitDefEqProofs (disch := constructor; omega) [↓h18_26, t0, t1, t6, t14, t15]
        exact hQ _ _ _ (.inr rfl) (by simp only [resc, resv, List.mapM_cons, List.mapM_nil, a18]; simp -implicitDefEqProofs (disch := constructor; omega) [t0, t1, t6, t14, t15]; rfl) ⟨.inr ⟨y, hl, rfl, O.view.keep (by (try dsimp only [keepOnly_eq]); omega) fun _ _ => rfl⟩, (by (try dsimp only [keepOnly_eq]); omega), ho⟩
  · have hl' := eq_false (show ¬ (l.length : Int) = m.length by omega)
    refine s18_0 ?_
    simp -implicitDefEqProofs (disch := constructor; omega) [↓h18_1, lenm, lenl, hl']
    refine s18_2 ?_
    refine s18_3 ?_
    simp -implicitDefEqProofs (disch := constructor; omega) [↓h18_4, lenm, lenl, hl']
    refine s18_5 ?_
    simp -implicitDefEqProofs (disch := constructor; omega) [lenm, lenl, hl']
    refine s18_6 ?_
    simp -implicitDefEqProofs (disch := constructor; omega) [↓h18_7, lenm, lenl, hl']
    exact hQ _ _ _ (.inr rfl) (by simp only [resc, resv, List.mapM_cons, List.mapM_nil, a18]; simp -implicitDefEqProofs (disch := constructor; omega) [lenm, lenl, hl']; rfl) ⟨.inl ⟨hl, rfl⟩, (by (try dsimp only [keepOnly_eq]); omega), fun _ _ => rfl⟩
end Go.Proofs.Ythoicdnlcnppgaa.Fn
