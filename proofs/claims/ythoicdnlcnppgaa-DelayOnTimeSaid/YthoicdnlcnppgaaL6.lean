/- Contract: the law DelayOnTime. Conditions: none. -/
import Derived.Test.YthoicdnlcnppgaaD11
import Derived.Test.YthoicdnlcnppgaaFl6
set_option linter.unusedVariables false
set_option linter.unusedSimpArgs false
namespace Go.Proofs.Ythoicdnlcnppgaa.Fn
open Go Go.Am
set_option maxRecDepth 100000
set_option maxHeartbeats 1000000
theorem momS_set {M : List Mom} {i : Nat} {y : Mom} (hi : i < M.length) {v : Int} (h0 : 0 ≤ v) : momS (M.set i y) v = if v = i then y else momS M v := by
  unfold momS
  rw [List.getD, List.getD, List.getElem?_set]
  by_cases e : v = i
  · subst e; simp [hi]
  · rw [if_neg e, if_neg (by omega)]
structure OI (w : List Wt) (M : List Mom) (i : Int) : Prop where
  on : ∀ x ∈ w, x.t < i → (momS M x.f).t + x.mn ≤ (momS M x.t).t
  bd : ∀ v : Int, 0 ≤ v → v < M.length → 0 ≤ (momS M v).t ∧ (momS M v).t < 150 + 40 * v
structure II (w : List Wt) (M : List Mom) (i : Int) (k : Nat) : Prop where
  on : ∀ x ∈ w, x.t < i → (momS M x.f).t + x.mn ≤ (momS M x.t).t
  o2 : ∀ x ∈ w.take k, x.t = i → (momS M x.f).t + x.mn ≤ (momS M x.t).t
  bd : ∀ v : Int, 0 ≤ v → v < M.length → 0 ≤ (momS M v).t ∧ (momS M v).t < 150 + 40 * v
theorem II.skip {w : List Wt} {M : List Mom} {i : Int} {k : Nat} (I : II w M i k) (hk : k < w.length) (h : w[k].t ≠ i) : II w M i (k + 1) := by
  refine ⟨I.on, fun x hx hxt => ?_, I.bd⟩
  rw [List.take_succ_eq_append_getElem hk] at hx
  rcases List.mem_append.1 hx with hx | hx
  · exact I.o2 x hx hxt
  · simp at hx; subst hx; exact absurd hxt h
theorem II.step {w : List Wt} {M : List Mom} {i k : Nat} {x : Wt} (I : II w M i k) (hk : k < w.length) (hi : i < M.length) (hx : x = w[k]) (h : x.t = i) (hw : ∀ x ∈ w, okW M.length x) :
    II w (M.set i ⟨if (momS M x.f).t + x.mn > (momS M i).t then (momS M x.f).t + x.mn else (momS M i).t, (momS M i).hold⟩) i (k + 1) := by
  have hm : x ∈ w := by rw [hx]; exact List.getElem_mem hk
  have hx0 := hw x hm
  unfold okW at hx0
  have ne : ∀ y ∈ w, y.t ≤ i → ¬ y.f = i := fun y hy ht e => by have := hw y hy; unfold okW at this; omega
  have f0 : ∀ y ∈ w, 0 ≤ y.f ∧ 0 ≤ y.t := fun y hy => by have := hw y hy; unfold okW at this; omega
  refine ⟨fun y hy ht => ?_, fun y hy ht => ?_, fun v h0 hv => ?_⟩
  · rw [momS_set hi (f0 y hy).1, momS_set hi (f0 y hy).2, if_neg (ne y hy (by omega)), if_neg (by omega)]
    exact I.on y hy ht
  · have hy' : y ∈ w := List.mem_of_mem_take hy
    rw [momS_set hi (f0 y hy').1, momS_set hi (f0 y hy').2, if_neg (ne y hy' (by omega)), if_pos ht]
    rw [List.take_succ_eq_append_getElem hk] at hy
    rcases List.mem_append.1 hy with hy | hy
    · have := I.o2 y hy ht
      rw [ht] at this
      (try dsimp only); split <;> omega
    · simp at hy; rw [← hx] at hy; subst hy
      (try dsimp only); split <;> omega
  · simp only [List.length_set] at hv
    rw [momS_set hi h0]
    split
    · have h1 := I.bd x.f hx0.1 (by omega)
      have h2 := I.bd i (by omega) (by omega)
      (try dsimp only); split <;> omega
    · exact I.bd v h0 hv
/-- A schedule that satisfies all waits. -/
theorem onTime {w : List Wt} {M : List Mom} {b a : Int → Int} {kp : Int → Bool} (P : PropQ M w [] b a kp) (V : Valid M w []) (hw : ∀ x ∈ w, okW M.length x) (on : ∀ x ∈ w, (momS M x.f).t + x.mn ≤ (momS M x.t).t) :
    ∀ v : Nat, v < M.length → a v ≤ (momS M v).t := by
  intro v
  induction v using Nat.strongRecOn with
  | ind v ih =>
    intro hv
    obtain ⟨h1, _⟩ := P.sec V hv
    rcases (foldB_spec M a v w).eq with ⟨e, _⟩ | ⟨x, hx, hk, e⟩
    · rw [h1, e]; simp [priS]
    · have h2 := hw x hx
      unfold okW at h2
      have h3 := ih x.f.toNat (by have := hk.1; omega) (by have := hk.1; omega)
      rw [show ((x.f.toNat : Nat) : Int) = x.f by omega] at h3
      have h4 := on x hx
      rw [hk.1] at h4
      rw [h1, e]
      simp only [priS, List.filter_nil, List.map_nil, List.sum_nil]
      omega
theorem k6 (x : Cell) (l : List Int) (h : AH) (v : View h.o h.nx x enI l) (hlen : l.length < 9223372036854775807) :
    wF fl6 out 6 [.v (.one x)] h fun r h' => r = .v (.one (.bool true)) := by
  refine wF_fn fs6 rfl fun Q hQ => ?_
  refine s6_0 ?_
  simp -implicitDefEqProofs (disch := first | (refine NE.mk ?_; first | omega | assumption) | (refine LTn.mk ?_; omega) | (refine NFam.mk ?_; simp only [updO_same, notFam_cells]; omega)) [↓h6_1, Nat.min_self, -List.length_flatMap]
  refine s6_2 ?_
  simp -implicitDefEqProofs (disch := first | (refine NE.mk ?_; first | omega | assumption) | (refine LTn.mk ?_; omega) | (refine NFam.mk ?_; simp only [updO_same, notFam_cells]; omega)) [↓h6_3, ↓h6_3_1, Nat.min_self, -List.length_flatMap]
  refine wF_mono (lift6 (k12 x l _ (v.keep (by (try dsimp only [keepOnly_eq]); omega) fun i hi => rfl) hlen)) ?_
  rintro _ h1 ⟨xm, m0, fm, xw, w, fw, xp, p, fp, j, rfl, D, M0, hm0, hle1⟩
  obtain ⟨lo, D0⟩ : ∃ lo, Del h1 lo j xm m0 fm xw w fw xp p fp := ⟨_, D⟩
  clear D
  have lenm := D0.m.view.lenV (fs := fl6) (out := out)
  (try simp -implicitDefEqProofs (disch := first | (refine NE.mk ?_; first | omega | assumption) | (refine LTn.mk ?_; omega) | (refine NFam.mk ?_; simp only [updO_same, notFam_cells]; omega)) [↓h6_3, ↓h6_3_1, lenm, Nat.min_self, -List.length_flatMap])
  refine s6_4 ?_
  refine s6_5 ?_
  simp -implicitDefEqProofs (disch := first | (refine NE.mk ?_; first | omega | assumption) | (refine LTn.mk ?_; omega) | (refine NFam.mk ?_; simp only [updO_same, notFam_cells]; omega)) [↓h6_6, lenm, Nat.min_self, -List.length_flatMap]
  refine s6_7 ?_
  have V0 := M0.valid
  have hml := V0.ml
  have hwl := V0.wl
  refine s6_8 (fun k s => ∃ (i : Nat) (m : List Mom), i + k = m0.length ∧ s.t 3 = .v (.one (xm)) ∧ s.t 4 = .v (.one (xw)) ∧ s.t 22 = .v (.one (.int .i64 (m0.length))) ∧ s.t 23 = .v (.one (.int .i64 (i))) ∧ m.length = m0.length ∧ Del s.h lo j xm m fm xw w fw xp p fp ∧ OI w m i) m0.length ?_ ?_
  · refine ⟨0, m0, by omega, by simp -implicitDefEqProofs (disch := first | (refine NE.mk ?_; first | omega | assumption) | (refine LTn.mk ?_; omega) | (refine NFam.mk ?_; simp only [updO_same, notFam_cells]; omega)) [lenm, Nat.min_self, -List.length_flatMap], by simp -implicitDefEqProofs (disch := first | (refine NE.mk ?_; first | omega | assumption) | (refine LTn.mk ?_; omega) | (refine NFam.mk ?_; simp only [updO_same, notFam_cells]; omega)) [lenm, Nat.min_self, -List.length_flatMap], by simp -implicitDefEqProofs (disch := first | (refine NE.mk ?_; first | omega | assumption) | (refine LTn.mk ?_; omega) | (refine NFam.mk ?_; simp only [updO_same, notFam_cells]; omega)) [lenm, Nat.min_self, -List.length_flatMap], by simp -implicitDefEqProofs (disch := first | (refine NE.mk ?_; first | omega | assumption) | (refine LTn.mk ?_; omega) | (refine NFam.mk ?_; simp only [updO_same, notFam_cells]; omega)) [lenm, Nat.min_self, -List.length_flatMap], rfl, D0.keep (by (try dsimp only [keepOnly_eq]); omega) fun i hi => (by simp -implicitDefEqProofs (disch := first | (refine NE.mk ?_; first | omega | assumption) | (refine LTn.mk ?_; omega) | (refine NFam.mk ?_; simp only [updO_same, notFam_cells]; omega)) [lenm, Nat.min_self, -List.length_flatMap]), fun x hx h0 => ?_, fun v h0 hv => ?_⟩
    · have := M0.w x hx; unfold okW at this; omega
    · obtain ⟨u, rfl⟩ : ∃ u : Nat, v = u := ⟨v.toNat, by omega⟩
      rw [momS_get (by omega)]
      have := M0.m _ (List.getElem_mem (show u < m0.length by omega))
      unfold okM at this; omega
  · clear D0 lenm
    rintro k s Q2 ⟨i, m, hk, t3, t4, t22, t23, hmn, D, I⟩ hN hE hR
    have lenw := D.w.view.lenV (fs := fl6) (out := out)
    refine s6_9 ?_
    simp -implicitDefEqProofs (disch := first | (refine NE.mk ?_; first | omega | assumption) | (refine LTn.mk ?_; omega) | (refine NFam.mk ?_; simp only [updO_same, notFam_cells]; omega)) [↓h6_10, t3, t4, t22, t23, lenw, Nat.min_self, -List.length_flatMap]
    refine s6_11 ?_
    simp -implicitDefEqProofs (disch := first | (refine NE.mk ?_; first | omega | assumption) | (refine LTn.mk ?_; omega) | (refine NFam.mk ?_; simp only [updO_same, notFam_cells]; omega)) [t3, t4, t22, t23, lenw, Nat.min_self, -List.length_flatMap]
    split
    · rename_i hi
      have w1 := wrap64 (show -9223372036854775808 ≤ (i : Int) + 1 by omega) (by omega)
      refine s6_13 ?_
      refine s6_14 ?_
      refine s6_15 ?_
      simp -implicitDefEqProofs (disch := first | (refine NE.mk ?_; first | omega | assumption) | (refine LTn.mk ?_; omega) | (refine NFam.mk ?_; simp only [updO_same, notFam_cells]; omega)) [↓h6_16, t3, t4, t22, t23, lenw, Nat.min_self, -List.length_flatMap]
      refine s6_17 ?_
      simp -implicitDefEqProofs (disch := first | (refine NE.mk ?_; first | omega | assumption) | (refine LTn.mk ?_; omega) | (refine NFam.mk ?_; simp only [updO_same, notFam_cells]; omega)) [↓h6_18, t3, t4, t22, t23, lenw, Nat.min_self, -List.length_flatMap]
      refine s6_19 ?_
      refine s6_20 (fun z s => ∃ (k : Nat) (m : List Mom), k + z = w.length ∧ s.t 3 = .v (.one (xm)) ∧ s.t 4 = .v (.one (xw)) ∧ s.t 6 = .v (.one (.int .i64 (i))) ∧ s.t 22 = .v (.one (.int .i64 (m0.length))) ∧ s.t 23 = .v (.one (.int .i64 (i))) ∧ s.t 26 = .v (.one (xw)) ∧ s.t 27 = .v (.one (.int .i64 (w.length))) ∧ s.t 28 = .v (.one (.int .i64 (k))) ∧ m.length = m0.length ∧ Del s.h lo j xm m fm xw w fw xp p fp ∧ II w m i k) w.length ?_ ?_
      · exact ⟨0, m, by omega, by simp -implicitDefEqProofs (disch := first | (refine NE.mk ?_; first | omega | assumption) | (refine LTn.mk ?_; omega) | (refine NFam.mk ?_; simp only [updO_same, notFam_cells]; omega)) [t3, t4, t22, t23, lenw, Nat.min_self, -List.length_flatMap], by simp -implicitDefEqProofs (disch := first | (refine NE.mk ?_; first | omega | assumption) | (refine LTn.mk ?_; omega) | (refine NFam.mk ?_; simp only [updO_same, notFam_cells]; omega)) [t3, t4, t22, t23, lenw, Nat.min_self, -List.length_flatMap], by simp -implicitDefEqProofs (disch := first | (refine NE.mk ?_; first | omega | assumption) | (refine LTn.mk ?_; omega) | (refine NFam.mk ?_; simp only [updO_same, notFam_cells]; omega)) [t3, t4, t22, t23, lenw, Nat.min_self, -List.length_flatMap], by simp -implicitDefEqProofs (disch := first | (refine NE.mk ?_; first | omega | assumption) | (refine LTn.mk ?_; omega) | (refine NFam.mk ?_; simp only [updO_same, notFam_cells]; omega)) [t3, t4, t22, t23, lenw, Nat.min_self, -List.length_flatMap], by simp -implicitDefEqProofs (disch := first | (refine NE.mk ?_; first | omega | assumption) | (refine LTn.mk ?_; omega) | (refine NFam.mk ?_; simp only [updO_same, notFam_cells]; omega)) [t3, t4, t22, t23, lenw, Nat.min_self, -List.length_flatMap], by simp -implicitDefEqProofs (disch := first | (refine NE.mk ?_; first | omega | assumption) | (refine LTn.mk ?_; omega) | (refine NFam.mk ?_; simp only [updO_same, notFam_cells]; omega)) [t3, t4, t22, t23, lenw, Nat.min_self, -List.length_flatMap], by simp -implicitDefEqProofs (disch := first | (refine NE.mk ?_; first | omega | assumption) | (refine LTn.mk ?_; omega) | (refine NFam.mk ?_; simp only [updO_same, notFam_cells]; omega)) [t3, t4, t22, t23, lenw, Nat.min_self, -List.length_flatMap], by simp -implicitDefEqProofs (disch := first | (refine NE.mk ?_; first | omega | assumption) | (refine LTn.mk ?_; omega) | (refine NFam.mk ?_; simp only [updO_same, notFam_cells]; omega)) [t3, t4, t22, t23, lenw, Nat.min_self, -List.length_flatMap], hmn, D.keep (by (try dsimp only [keepOnly_eq]); omega) fun i hi => (by simp -implicitDefEqProofs (disch := first | (refine NE.mk ?_; first | omega | assumption) | (refine LTn.mk ?_; omega) | (refine NFam.mk ?_; simp only [updO_same, notFam_cells]; omega)) [t3, t4, t22, t23, lenw, Nat.min_self, -List.length_flatMap]), I.on, by simp, I.bd⟩
      · clear D I lenw hmn t3 t4 t22 t23 m
        rintro z s Q3 ⟨k2, m, hz, t3, t4, t6, t22, t23, t26, t27, t28, hmn, D, I⟩ hN' hE' hR'
        refine s6_21 ?_
        simp -implicitDefEqProofs (disch := first | (refine NE.mk ?_; first | omega | assumption) | (refine LTn.mk ?_; omega) | (refine NFam.mk ?_; simp only [updO_same, notFam_cells]; omega)) [↓h6_22, t3, t4, t6, t22, t23, t26, t27, t28, Nat.min_self, -List.length_flatMap]
        refine s6_23 ?_
        simp -implicitDefEqProofs (disch := first | (refine NE.mk ?_; first | omega | assumption) | (refine LTn.mk ?_; omega) | (refine NFam.mk ?_; simp only [updO_same, notFam_cells]; omega)) [t3, t4, t6, t22, t23, t26, t27, t28, Nat.min_self, -List.length_flatMap]
        split
        · rename_i hk2
          obtain ⟨jw, fw', row, ew, ww, csw, rfl, hjw, hcw, hlw, hgw1, hgw2, hgw3⟩ := D.w.view.get enW_len hk2
          obtain ⟨x, hxe⟩ : ∃ x, x = w[k2] := ⟨_, rfl⟩
          rw [← hxe] at hgw1 hgw2 hgw3
          have hmem : x ∈ w := by rw [hxe]; exact List.getElem_mem hk2
          have hxo := M0.w x hmem
          unfold okW at hxo
          have w2 := wrap64 (show -9223372036854775808 ≤ (k2 : Int) + 1 by omega) (by omega)
          refine s6_25 ?_
          refine s6_26 ?_
          refine s6_27 ?_
          simp -implicitDefEqProofs (disch := first | (refine NE.mk ?_; first | omega | assumption) | (refine LTn.mk ?_; omega) | (refine NFam.mk ?_; simp only [hk2, hcw, updO_same, notFam_cells]; omega)) [↓h6_28, t3, t4, t6, t22, t23, t26, t27, t28, hk2, hcw, hlw, hgw2, enW, w2, Nat.min_self, -List.length_flatMap]
          refine s6_29 ?_
          simp -implicitDefEqProofs (disch := first | (refine NE.mk ?_; first | omega | assumption) | (refine LTn.mk ?_; omega) | (refine NFam.mk ?_; simp only [hk2, hcw, updO_same, notFam_cells]; omega)) [↓h6_30, t3, t4, t6, t22, t23, t26, t27, t28, hk2, hcw, hlw, hgw2, enW, w2, Nat.min_self, -List.length_flatMap]
          refine s6_31 ?_
          simp -implicitDefEqProofs (disch := first | (refine NE.mk ?_; first | omega | assumption) | (refine LTn.mk ?_; omega) | (refine NFam.mk ?_; simp only [hk2, hcw, updO_same, notFam_cells]; omega)) [t3, t4, t6, t22, t23, t26, t27, t28, hk2, hcw, hlw, hgw2, enW, w2, Nat.min_self, -List.length_flatMap]
          by_cases hxi : x.t = i
          · obtain ⟨uf, huf⟩ : ∃ n : Nat, x.f = n := ⟨x.f.toNat, by omega⟩
            have hufn : uf < m.length := by omega
            have hi' : i < m.length := by omega
            have hufn0 : uf < m0.length := by omega
            rcases D.m with ⟨rfl, hm0⟩ | ⟨q, rfl, ho, hq1, hq2, hq3⟩
            · rw [hm0] at hi'; simp at hi'
            have b1 := I.bd uf (by omega) (by omega)
            have b2 := I.bd i (by omega) (by omega)
            have I2 := I.step hk2 hi' hxe hxi (by rw [hmn]; exact M0.w)
            rw [huf, momS_get hufn, momS_get hi'] at I2
            rw [momS_get hufn] at b1
            rw [momS_get hi'] at b2
            have w3 := wrap64 (show -9223372036854775808 ≤ m[uf].t + x.mn by omega) (by omega)
            have hl2 := rows_len enM_len m
            have l1 : i * 2 < (m.flatMap enM).length := by omega
            have l2 : uf * 2 < (m.flatMap enM).length := by omega
            have g1 : (m.flatMap enM)[i * 2]? = some (.int .i64 m[i].t) := rows_get1 enM_len m hi' (by omega : 0 < 2)
            have g2 : (m.flatMap enM)[uf * 2]? = some (.int .i64 m[uf].t) := rows_get1 enM_len m hufn (by omega : 0 < 2)
            have gs : ∀ c, (m.flatMap enM).set (i * 2) (.int .i64 c) = (m.set i ⟨c, m[i].hold⟩).flatMap enM := fun c => rows_set1 enM_len m hi' (by omega : 0 < 2) rfl
            (try simp -implicitDefEqProofs (disch := first | (refine NE.mk ?_; first | omega | assumption) | (refine LTn.mk ?_; omega) | (refine NFam.mk ?_; simp only [hk2, hcw, hxi, huf, hufn0, ho, l1, l2, g1, g2, gs, hmn, updO_same, notFam_cells]; omega)) [t3, t4, t6, t22, t23, t26, t27, t28, hk2, hcw, hlw, hgw2, enW, w2, hxi, huf, hi, hufn0, ho, w3, l1, l2, g1, g2, gs, hmn, Nat.min_self, -List.length_flatMap])
            refine s6_32 ?_
            simp -implicitDefEqProofs (disch := first | (refine NE.mk ?_; first | omega | assumption) | (refine LTn.mk ?_; omega) | (refine NFam.mk ?_; simp only [hk2, hcw, hxi, huf, hufn0, ho, l1, l2, g1, g2, gs, hmn, updO_same, notFam_cells]; omega)) [↓h6_32, ↓h6_32_1, t3, t4, t6, t22, t23, t26, t27, t28, hk2, hcw, hlw, hgw2, enW, w2, hxi, huf, hi, hufn0, ho, w3, l1, l2, g1, g2, gs, hmn, Nat.min_self, -List.length_flatMap]
            refine s6_33 ?_
            simp -implicitDefEqProofs (disch := first | (refine NE.mk ?_; first | omega | assumption) | (refine LTn.mk ?_; omega) | (refine NFam.mk ?_; simp only [hk2, hcw, hxi, huf, hufn0, ho, l1, l2, g1, g2, gs, hmn, updO_same, notFam_cells]; omega)) [↓h6_33, t3, t4, t6, t22, t23, t26, t27, t28, hk2, hcw, hlw, hgw2, enW, w2, hxi, huf, hi, hufn0, ho, w3, l1, l2, g1, g2, gs, hmn, Nat.min_self, -List.length_flatMap]
            refine hN' (z - 1) _ (by omega) ?_
            dsimp only [keepOnly_eq]
            refine ⟨k2 + 1, _, by omega, by simp -implicitDefEqProofs (disch := first | (refine NE.mk ?_; first | omega | assumption) | (refine LTn.mk ?_; omega) | (refine NFam.mk ?_; simp only [hk2, hcw, hxi, huf, hufn0, ho, l1, l2, g1, g2, gs, hmn, updO_same, notFam_cells]; omega)) [t3, t4, t6, t22, t23, t26, t27, t28, hk2, hcw, hlw, hgw2, enW, w2, hxi, huf, hi, hufn0, ho, w3, l1, l2, g1, g2, gs, hmn, Nat.min_self, -List.length_flatMap], by simp -implicitDefEqProofs (disch := first | (refine NE.mk ?_; first | omega | assumption) | (refine LTn.mk ?_; omega) | (refine NFam.mk ?_; simp only [hk2, hcw, hxi, huf, hufn0, ho, l1, l2, g1, g2, gs, hmn, updO_same, notFam_cells]; omega)) [t3, t4, t6, t22, t23, t26, t27, t28, hk2, hcw, hlw, hgw2, enW, w2, hxi, huf, hi, hufn0, ho, w3, l1, l2, g1, g2, gs, hmn, Nat.min_self, -List.length_flatMap], by simp -implicitDefEqProofs (disch := first | (refine NE.mk ?_; first | omega | assumption) | (refine LTn.mk ?_; omega) | (refine NFam.mk ?_; simp only [hk2, hcw, hxi, huf, hufn0, ho, l1, l2, g1, g2, gs, hmn, updO_same, notFam_cells]; omega)) [t3, t4, t6, t22, t23, t26, t27, t28, hk2, hcw, hlw, hgw2, enW, w2, hxi, huf, hi, hufn0, ho, w3, l1, l2, g1, g2, gs, hmn, Nat.min_self, -List.length_flatMap], by simp -implicitDefEqProofs (disch := first | (refine NE.mk ?_; first | omega | assumption) | (refine LTn.mk ?_; omega) | (refine NFam.mk ?_; simp only [hk2, hcw, hxi, huf, hufn0, ho, l1, l2, g1, g2, gs, hmn, updO_same, notFam_cells]; omega)) [t3, t4, t6, t22, t23, t26, t27, t28, hk2, hcw, hlw, hgw2, enW, w2, hxi, huf, hi, hufn0, ho, w3, l1, l2, g1, g2, gs, hmn, Nat.min_self, -List.length_flatMap], by simp -implicitDefEqProofs (disch := first | (refine NE.mk ?_; first | omega | assumption) | (refine LTn.mk ?_; omega) | (refine NFam.mk ?_; simp only [hk2, hcw, hxi, huf, hufn0, ho, l1, l2, g1, g2, gs, hmn, updO_same, notFam_cells]; omega)) [t3, t4, t6, t22, t23, t26, t27, t28, hk2, hcw, hlw, hgw2, enW, w2, hxi, huf, hi, hufn0, ho, w3, l1, l2, g1, g2, gs, hmn, Nat.min_self, -List.length_flatMap], by simp -implicitDefEqProofs (disch := first | (refine NE.mk ?_; first | omega | assumption) | (refine LTn.mk ?_; omega) | (refine NFam.mk ?_; simp only [hk2, hcw, hxi, huf, hufn0, ho, l1, l2, g1, g2, gs, hmn, updO_same, notFam_cells]; omega)) [t3, t4, t6, t22, t23, t26, t27, t28, hk2, hcw, hlw, hgw2, enW, w2, hxi, huf, hi, hufn0, ho, w3, l1, l2, g1, g2, gs, hmn, Nat.min_self, -List.length_flatMap], by simp -implicitDefEqProofs (disch := first | (refine NE.mk ?_; first | omega | assumption) | (refine LTn.mk ?_; omega) | (refine NFam.mk ?_; simp only [hk2, hcw, hxi, huf, hufn0, ho, l1, l2, g1, g2, gs, hmn, updO_same, notFam_cells]; omega)) [t3, t4, t6, t22, t23, t26, t27, t28, hk2, hcw, hlw, hgw2, enW, w2, hxi, huf, hi, hufn0, ho, w3, l1, l2, g1, g2, gs, hmn, Nat.min_self, -List.length_flatMap], by simp -implicitDefEqProofs (disch := first | (refine NE.mk ?_; first | omega | assumption) | (refine LTn.mk ?_; omega) | (refine NFam.mk ?_; simp only [hk2, hcw, hxi, huf, hufn0, ho, l1, l2, g1, g2, gs, hmn, updO_same, notFam_cells]; omega)) [t3, t4, t6, t22, t23, t26, t27, t28, hk2, hcw, hlw, hgw2, enW, w2, hxi, huf, hi, hufn0, ho, w3, l1, l2, g1, g2, gs, hmn, Nat.min_self, -List.length_flatMap], by simp [hmn], ?_, I2⟩
            have D1 : Del ⟨upd s.h.o (s.h.nx + 1 + 2) (some (.cells (s.h.nx + 1 + 2) false 35 0 [.int .i64 uf, .int .i64 i, .int .i64 x.mn, .int .i64 x.ms])), s.h.nx + 1 + 4⟩ lo j (.slice q 0 m.length) m fm (.slice jw 0 w.length) w fw xp p fp := D.keep (by (try dsimp only [keepOnly_eq]); omega) fun v hv => (by simp -implicitDefEqProofs (disch := first | (refine NE.mk ?_; first | omega | assumption) | (refine LTn.mk ?_; omega) | (refine NFam.mk ?_; simp only [hk2, hcw, hxi, huf, hufn0, ho, l1, l2, g1, g2, gs, hmn, updO_same, notFam_cells]; omega)) [t3, t4, t6, t22, t23, t26, t27, t28, hk2, hcw, hlw, hgw2, enW, w2, hxi, huf, hi, hufn0, ho, w3, l1, l2, g1, g2, gs, hmn, Nat.min_self, -List.length_flatMap])
            exact D1.storeM rfl (Eq.trans (b := s.h.o q) (by simp -implicitDefEqProofs (disch := first | (refine NE.mk ?_; first | omega | assumption) | (refine LTn.mk ?_; omega) | (refine NFam.mk ?_; simp only [hk2, hcw, hxi, huf, hufn0, ho, l1, l2, g1, g2, gs, hmn, updO_same, notFam_cells]; omega)) [t3, t4, t6, t22, t23, t26, t27, t28, hk2, hcw, hlw, hgw2, enW, w2, hxi, huf, hi, hufn0, ho, w3, l1, l2, g1, g2, gs, hmn, Nat.min_self, -List.length_flatMap]) ho) (by simp) (by (try dsimp only [keepOnly_eq]); omega)
          · have hxi' := eq_false hxi
            (try simp -implicitDefEqProofs (disch := first | (refine NE.mk ?_; first | omega | assumption) | (refine LTn.mk ?_; omega) | (refine NFam.mk ?_; simp only [hk2, hcw, hxi', updO_same, notFam_cells]; omega)) [t3, t4, t6, t22, t23, t26, t27, t28, hk2, hcw, hlw, hgw2, enW, w2, hxi', Nat.min_self, -List.length_flatMap])
            refine s6_33 ?_
            simp -implicitDefEqProofs (disch := first | (refine NE.mk ?_; first | omega | assumption) | (refine LTn.mk ?_; omega) | (refine NFam.mk ?_; simp only [hk2, hcw, hxi', updO_same, notFam_cells]; omega)) [↓h6_33, t3, t4, t6, t22, t23, t26, t27, t28, hk2, hcw, hlw, hgw2, enW, w2, hxi', Nat.min_self, -List.length_flatMap]
            refine hN' (z - 1) _ (by omega) ?_
            dsimp only [keepOnly_eq]
            exact ⟨k2 + 1, m, by omega, by simp -implicitDefEqProofs (disch := first | (refine NE.mk ?_; first | omega | assumption) | (refine LTn.mk ?_; omega) | (refine NFam.mk ?_; simp only [hk2, hcw, hxi', updO_same, notFam_cells]; omega)) [t3, t4, t6, t22, t23, t26, t27, t28, hk2, hcw, hlw, hgw2, enW, w2, hxi', Nat.min_self, -List.length_flatMap], by simp -implicitDefEqProofs (disch := first | (refine NE.mk ?_; first | omega | assumption) | (refine LTn.mk ?_; omega) | (refine NFam.mk ?_; simp only [hk2, hcw, hxi', updO_same, notFam_cells]; omega)) [t3, t4, t6, t22, t23, t26, t27, t28, hk2, hcw, hlw, hgw2, enW, w2, hxi', Nat.min_self, -List.length_flatMap], by simp -implicitDefEqProofs (disch := first | (refine NE.mk ?_; first | omega | assumption) | (refine LTn.mk ?_; omega) | (refine NFam.mk ?_; simp only [hk2, hcw, hxi', updO_same, notFam_cells]; omega)) [t3, t4, t6, t22, t23, t26, t27, t28, hk2, hcw, hlw, hgw2, enW, w2, hxi', Nat.min_self, -List.length_flatMap], by simp -implicitDefEqProofs (disch := first | (refine NE.mk ?_; first | omega | assumption) | (refine LTn.mk ?_; omega) | (refine NFam.mk ?_; simp only [hk2, hcw, hxi', updO_same, notFam_cells]; omega)) [t3, t4, t6, t22, t23, t26, t27, t28, hk2, hcw, hlw, hgw2, enW, w2, hxi', Nat.min_self, -List.length_flatMap], by simp -implicitDefEqProofs (disch := first | (refine NE.mk ?_; first | omega | assumption) | (refine LTn.mk ?_; omega) | (refine NFam.mk ?_; simp only [hk2, hcw, hxi', updO_same, notFam_cells]; omega)) [t3, t4, t6, t22, t23, t26, t27, t28, hk2, hcw, hlw, hgw2, enW, w2, hxi', Nat.min_self, -List.length_flatMap], by simp -implicitDefEqProofs (disch := first | (refine NE.mk ?_; first | omega | assumption) | (refine LTn.mk ?_; omega) | (refine NFam.mk ?_; simp only [hk2, hcw, hxi', updO_same, notFam_cells]; omega)) [t3, t4, t6, t22, t23, t26, t27, t28, hk2, hcw, hlw, hgw2, enW, w2, hxi', Nat.min_self, -List.length_flatMap], by simp -implicitDefEqProofs (disch := first | (refine NE.mk ?_; first | omega | assumption) | (refine LTn.mk ?_; omega) | (refine NFam.mk ?_; simp only [hk2, hcw, hxi', updO_same, notFam_cells]; omega)) [t3, t4, t6, t22, t23, t26, t27, t28, hk2, hcw, hlw, hgw2, enW, w2, hxi', Nat.min_self, -List.length_flatMap], by simp -implicitDefEqProofs (disch := first | (refine NE.mk ?_; first | omega | assumption) | (refine LTn.mk ?_; omega) | (refine NFam.mk ?_; simp only [hk2, hcw, hxi', updO_same, notFam_cells]; omega)) [t3, t4, t6, t22, t23, t26, t27, t28, hk2, hcw, hlw, hgw2, enW, w2, hxi', Nat.min_self, -List.length_flatMap], hmn, D.keep (by (try dsimp only [keepOnly_eq]); omega) fun i hi => (by simp -implicitDefEqProofs (disch := first | (refine NE.mk ?_; first | omega | assumption) | (refine LTn.mk ?_; omega) | (refine NFam.mk ?_; simp only [hk2, hcw, hxi', updO_same, notFam_cells]; omega)) [t3, t4, t6, t22, t23, t26, t27, t28, hk2, hcw, hlw, hgw2, enW, w2, hxi', Nat.min_self, -List.length_flatMap]), I.skip hk2 (by rw [← hxe]; exact hxi)⟩
        · rename_i hk2
          have hkw : k2 = w.length := by omega
          subst hkw
          have o2 := I.o2
          rw [List.take_length] at o2
          refine hE' 2 _ ?_
          (try simp -implicitDefEqProofs (disch := first | (refine NE.mk ?_; first | omega | assumption) | (refine LTn.mk ?_; omega) | (refine NFam.mk ?_; simp only [updO_same, notFam_cells]; omega)) [t3, t4, t6, t22, t23, t26, t27, t28, Nat.min_self, -List.length_flatMap])
          refine s6_34 ?_
          simp -implicitDefEqProofs (disch := first | (refine NE.mk ?_; first | omega | assumption) | (refine LTn.mk ?_; omega) | (refine NFam.mk ?_; simp only [updO_same, notFam_cells]; omega)) [↓h6_34, t3, t4, t6, t22, t23, t26, t27, t28, w1, Nat.min_self, -List.length_flatMap]
          refine hN (k - 1) _ (by omega) ?_
          dsimp only [keepOnly_eq]
          refine ⟨i + 1, m, by omega, by simp -implicitDefEqProofs (disch := first | (refine NE.mk ?_; first | omega | assumption) | (refine LTn.mk ?_; omega) | (refine NFam.mk ?_; simp only [updO_same, notFam_cells]; omega)) [t3, t4, t6, t22, t23, t26, t27, t28, Nat.min_self, -List.length_flatMap], by simp -implicitDefEqProofs (disch := first | (refine NE.mk ?_; first | omega | assumption) | (refine LTn.mk ?_; omega) | (refine NFam.mk ?_; simp only [updO_same, notFam_cells]; omega)) [t3, t4, t6, t22, t23, t26, t27, t28, Nat.min_self, -List.length_flatMap], by simp -implicitDefEqProofs (disch := first | (refine NE.mk ?_; first | omega | assumption) | (refine LTn.mk ?_; omega) | (refine NFam.mk ?_; simp only [updO_same, notFam_cells]; omega)) [t3, t4, t6, t22, t23, t26, t27, t28, Nat.min_self, -List.length_flatMap], by simp -implicitDefEqProofs (disch := first | (refine NE.mk ?_; first | omega | assumption) | (refine LTn.mk ?_; omega) | (refine NFam.mk ?_; simp only [updO_same, notFam_cells]; omega)) [t3, t4, t6, t22, t23, t26, t27, t28, Nat.min_self, -List.length_flatMap], hmn, D.keep (by (try dsimp only [keepOnly_eq]); omega) fun i hi => rfl, fun x hx h => ?_, I.bd⟩
          by_cases e : x.t = i
          · exact o2 x hx e
          · exact I.on x hx (by omega)
    · rename_i hi
      have hmi : i = m0.length := by omega
      have V : Valid m w [] := by
        refine ⟨by omega, hwl, by simp, fun x hx => ?_, by rw [hmn]; exact V0.ww, by simp, by simp, by rw [hmn]; exact V0.s⟩
        obtain ⟨v, hv, rfl⟩ := List.mem_iff_getElem.1 hx
        have := I.bd v (by omega) (by omega)
        rw [momS_get hv] at this
        have := M0.n6
        exact within_iff.2 (by omega)
      have on : ∀ x ∈ w, (momS m x.f).t + x.mn ≤ (momS m x.t).t := fun x hx => I.on x hx (by have := M0.w x hx; unfold okW at this; omega)
      refine hE 0 _ ?_
      (try simp -implicitDefEqProofs (disch := first | (refine NE.mk ?_; first | omega | assumption) | (refine LTn.mk ?_; omega) | (refine NFam.mk ?_; simp only [updO_same, notFam_cells]; omega)) [t3, t4, t22, t23, lenw, Nat.min_self, -List.length_flatMap])
      refine s6_35 ?_
      simp -implicitDefEqProofs (disch := first | (refine NE.mk ?_; first | omega | assumption) | (refine LTn.mk ?_; omega) | (refine NFam.mk ?_; simp only [updO_same, notFam_cells]; omega)) [↓h6_36, ↓h6_36_1, t3, t4, t22, t23, lenw, Nat.min_self, -List.length_flatMap]
      refine wF_mono (lift6 (k13 xm xw .nils m w [] _ (D.m.view.keep (by (try dsimp only [keepOnly_eq]); omega) fun i hi => rfl) (D.w.view.keep (by (try dsimp only [keepOnly_eq]); omega) fun i hi => rfl) (.inl ⟨rfl, rfl⟩) (by omega) (by omega) (by simp))) ?_
      rintro _ h2 ⟨⟨hV, _⟩ | ⟨y, z, b, a, kp, _, P, rfl, vy, vz⟩, hn2, ho2⟩
      · exact absurd V hV
      (try dsimp only at hn2 ho2)
      have vm := D.m.view.keep (n' := h2.nx) (o' := h2.o) (by omega) (fun i hi => ho2 i (by omega))
      have vw := D.w.view.keep (n' := h2.nx) (o' := h2.o) (by omega) (fun i hi => ho2 i (by omega))
      have lenm := vm.lenV (fs := fl6) (out := out)
      have lenw := vw.lenV (fs := fl6) (out := out)
      have leny := vy.lenV (fs := fl6) (out := out)
      have lenz := vz.lenV (fs := fl6) (out := out)
      rw [vl_len] at leny lenz
      have hot := onTime P V (by rw [hmn]; exact M0.w) on
      have hkp : ∀ k, k < w.length → kp k = true := fun k hk => by
        rw [P.ek k hk]
        have hxo := M0.w _ (List.getElem_mem hk)
        unfold okW at hxo
        have h3 := hot w[k].f.toNat (by omega)
        rw [show ((w[k].f.toNat : Nat) : Int) = w[k].f by omega] at h3
        have h4 := on _ (List.getElem_mem hk)
        unfold kpS
        simp only [decide_eq_true_eq]
        omega
      clear D hn2 ho2 I hk
      (try simp -implicitDefEqProofs (disch := first | (refine NE.mk ?_; first | omega | assumption) | (refine LTn.mk ?_; omega) | (refine NFam.mk ?_; simp only [updO_same, notFam_cells]; omega)) [↓h6_36, ↓h6_36_1, t3, t4, t22, t23, lenm, lenw, leny, lenz, Nat.min_self, -List.length_flatMap])
      refine s6_37 ?_
      refine s6_38 ?_
      simp -implicitDefEqProofs (disch := first | (refine NE.mk ?_; first | omega | assumption) | (refine LTn.mk ?_; omega) | (refine NFam.mk ?_; simp only [updO_same, notFam_cells]; omega)) [↓h6_39, ↓w6_39_1, ↓h6_39_1g, ↓h6_39_2, ↓w6_39_3, ↓h6_39_3g, ↓h6_39_4, t3, t4, t22, t23, lenm, lenw, leny, lenz, Nat.min_self, -List.length_flatMap]
      refine s6_40 ?_
      (try simp -implicitDefEqProofs (disch := first | (refine NE.mk ?_; first | omega | assumption) | (refine LTn.mk ?_; omega) | (refine NFam.mk ?_; simp only [updO_same, notFam_cells]; omega)) [t3, t4, t22, t23, lenm, lenw, leny, lenz, Nat.min_self, -List.length_flatMap])
      refine s6_43 ?_
      refine s6_44 ?_
      simp -implicitDefEqProofs (disch := first | (refine NE.mk ?_; first | omega | assumption) | (refine LTn.mk ?_; omega) | (refine NFam.mk ?_; simp only [updO_same, notFam_cells]; omega)) [↓h6_45, t3, t4, t22, t23, lenm, lenw, leny, lenz, Nat.min_self, -List.length_flatMap]
      refine s6_46 ?_
      refine s6_47 (fun k s => ∃ i : Nat, i + k = m.length ∧ s.t 3 = .v (.one (xm)) ∧ s.t 9 = .v (.one (y)) ∧ s.t 10 = .v (.one (z)) ∧ s.t 81 = .v (.one (.int .i64 (m.length))) ∧ s.t 82 = .v (.one (.int .i64 (i))) ∧ h2.le s.h) m.length ?_ ?_
      · exact ⟨0, by omega, by simp -implicitDefEqProofs (disch := first | (refine NE.mk ?_; first | omega | assumption) | (refine LTn.mk ?_; omega) | (refine NFam.mk ?_; simp only [updO_same, notFam_cells]; omega)) [t3, t4, t22, t23, lenm, lenw, leny, lenz, Nat.min_self, -List.length_flatMap], by simp -implicitDefEqProofs (disch := first | (refine NE.mk ?_; first | omega | assumption) | (refine LTn.mk ?_; omega) | (refine NFam.mk ?_; simp only [updO_same, notFam_cells]; omega)) [t3, t4, t22, t23, lenm, lenw, leny, lenz, Nat.min_self, -List.length_flatMap], by simp -implicitDefEqProofs (disch := first | (refine NE.mk ?_; first | omega | assumption) | (refine LTn.mk ?_; omega) | (refine NFam.mk ?_; simp only [updO_same, notFam_cells]; omega)) [t3, t4, t22, t23, lenm, lenw, leny, lenz, Nat.min_self, -List.length_flatMap], by simp -implicitDefEqProofs (disch := first | (refine NE.mk ?_; first | omega | assumption) | (refine LTn.mk ?_; omega) | (refine NFam.mk ?_; simp only [updO_same, notFam_cells]; omega)) [t3, t4, t22, t23, lenm, lenw, leny, lenz, Nat.min_self, -List.length_flatMap], by simp -implicitDefEqProofs (disch := first | (refine NE.mk ?_; first | omega | assumption) | (refine LTn.mk ?_; omega) | (refine NFam.mk ?_; simp only [updO_same, notFam_cells]; omega)) [t3, t4, t22, t23, lenm, lenw, leny, lenz, Nat.min_self, -List.length_flatMap], (by (try dsimp only [keepOnly_eq]); omega), fun i hi => by simp -implicitDefEqProofs (disch := first | (refine NE.mk ?_; first | omega | assumption) | (refine LTn.mk ?_; omega) | (refine NFam.mk ?_; simp only [updO_same, notFam_cells]; omega)) [t3, t4, t22, t23, lenm, lenw, leny, lenz, Nat.min_self, -List.length_flatMap]⟩
      · clear t3 t4 t22 t23 hi hmi
        rintro k s Q2 ⟨i, hk, t3, t9, t10, t81, t82, hn, ho⟩ hN hE hR
        refine s6_48 ?_
        simp -implicitDefEqProofs (disch := first | (refine NE.mk ?_; first | omega | assumption) | (refine LTn.mk ?_; omega) | (refine NFam.mk ?_; simp only [updO_same, notFam_cells]; omega)) [↓h6_49, t3, t9, t10, t81, t82, lenz, Nat.min_self, -List.length_flatMap]
        refine s6_50 ?_
        simp -implicitDefEqProofs (disch := first | (refine NE.mk ?_; first | omega | assumption) | (refine LTn.mk ?_; omega) | (refine NFam.mk ?_; simp only [updO_same, notFam_cells]; omega)) [t3, t9, t10, t81, t82, lenz, Nat.min_self, -List.length_flatMap]
        split
        · rename_i hi
          obtain ⟨jm, fm, rom, em, wm, csm, rfl, hjm, hcm, hlm, hgm1, hgm2, hgm3⟩ := vm.get enM_len hi
          obtain ⟨jy, fy, roy, ey, wy, csy, rfl, hjy, hcy, hly, hgy⟩ := vy.get1 (g := (Cell.int .i64 ·)) (fun _ => rfl) (i := i) (by rw [vl_len]; exact hi)
          rw [vl_get] at hgy
          have gm0 : csm[i * 2]? = some (.int .i64 m[i].t) := hgm3 0 (by omega)
          have gm1 : csm[i * 2 + 1]? = some (.bool m[i].hold) := hgm3 1 (by omega)
          have cm := (ho jm hjm).trans hcm
          have cy := (ho jy hjy).trans hcy
          have w1 := wrap64 (show -9223372036854775808 ≤ (i : Int) + 1 by omega) (by omega)
          have h1 := hot i hi
          rw [momS_get hi] at h1
          have h1' : ¬ m[i].t < a i := by omega
          have h2 : m[i].hold = true → a i = m[i].t := fun hh => by
            obtain ⟨hs1, hs2⟩ := P.sec V hi
            have hF := foldB_spec m a i w
            rw [FB_mom hi] at hF
            have := hF.hd hh
            omega
          cases hh : m[i].hold with
          | true =>
            have h3 := h2 hh
            have h4 : ¬ m[i].t < m[i].t := by omega
            refine s6_52 ?_
            refine s6_53 ?_
            refine s6_54 ?_
            simp -implicitDefEqProofs (disch := first | (refine NE.mk ?_; first | omega | assumption) | (refine LTn.mk ?_; omega) | (refine NFam.mk ?_; simp only [cy, cm, gm0, gm1, h3, h4, hh, vl_len, updO_same, notFam_cells]; omega)) [↓h6_55, t3, t9, t10, t81, t82, lenz, hi, hgy, cy, hly, cm, gm0, gm1, w1, h3, h4, hh, vl_len, Nat.min_self, -List.length_flatMap]
            refine s6_56 ?_
            simp -implicitDefEqProofs (disch := first | (refine NE.mk ?_; first | omega | assumption) | (refine LTn.mk ?_; omega) | (refine NFam.mk ?_; simp only [cy, cm, gm0, gm1, h3, h4, hh, vl_len, updO_same, notFam_cells]; omega)) [↓h6_57, ↓h6_57_1, ↓w6_57_2, ↓h6_57_2g, ↓w6_57_3, ↓h6_57_3g, ↓w6_57_4, ↓h6_57_4g, ↓h6_57_5, t3, t9, t10, t81, t82, lenz, hi, hgy, cy, hly, cm, gm0, gm1, w1, h3, h4, hh, vl_len, Nat.min_self, -List.length_flatMap]
            refine s6_58 ?_
            simp -implicitDefEqProofs (disch := first | (refine NE.mk ?_; first | omega | assumption) | (refine LTn.mk ?_; omega) | (refine NFam.mk ?_; simp only [cy, cm, gm0, gm1, h3, h4, hh, vl_len, updO_same, notFam_cells]; omega)) [t3, t9, t10, t81, t82, lenz, hi, hgy, cy, hly, cm, gm0, gm1, w1, h3, h4, hh, vl_len, Nat.min_self, -List.length_flatMap]
            refine s6_61 ?_
            simp -implicitDefEqProofs (disch := first | (refine NE.mk ?_; first | omega | assumption) | (refine LTn.mk ?_; omega) | (refine NFam.mk ?_; simp only [cy, cm, gm0, gm1, h3, h4, hh, vl_len, updO_same, notFam_cells]; omega)) [↓h6_61, t3, t9, t10, t81, t82, lenz, hi, hgy, cy, hly, cm, gm0, gm1, w1, h3, h4, hh, vl_len, Nat.min_self, -List.length_flatMap]
            refine hN (k - 1) _ (by omega) ?_
            dsimp only [keepOnly_eq]
            exact ⟨i + 1, by omega, by simp -implicitDefEqProofs (disch := first | (refine NE.mk ?_; first | omega | assumption) | (refine LTn.mk ?_; omega) | (refine NFam.mk ?_; simp only [cy, cm, gm0, gm1, h3, h4, hh, vl_len, updO_same, notFam_cells]; omega)) [t3, t9, t10, t81, t82, lenz, hi, hgy, cy, hly, cm, gm0, gm1, w1, h3, h4, hh, vl_len, Nat.min_self, -List.length_flatMap], by simp -implicitDefEqProofs (disch := first | (refine NE.mk ?_; first | omega | assumption) | (refine LTn.mk ?_; omega) | (refine NFam.mk ?_; simp only [cy, cm, gm0, gm1, h3, h4, hh, vl_len, updO_same, notFam_cells]; omega)) [t3, t9, t10, t81, t82, lenz, hi, hgy, cy, hly, cm, gm0, gm1, w1, h3, h4, hh, vl_len, Nat.min_self, -List.length_flatMap], by simp -implicitDefEqProofs (disch := first | (refine NE.mk ?_; first | omega | assumption) | (refine LTn.mk ?_; omega) | (refine NFam.mk ?_; simp only [cy, cm, gm0, gm1, h3, h4, hh, vl_len, updO_same, notFam_cells]; omega)) [t3, t9, t10, t81, t82, lenz, hi, hgy, cy, hly, cm, gm0, gm1, w1, h3, h4, hh, vl_len, Nat.min_self, -List.length_flatMap], by simp -implicitDefEqProofs (disch := first | (refine NE.mk ?_; first | omega | assumption) | (refine LTn.mk ?_; omega) | (refine NFam.mk ?_; simp only [cy, cm, gm0, gm1, h3, h4, hh, vl_len, updO_same, notFam_cells]; omega)) [t3, t9, t10, t81, t82, lenz, hi, hgy, cy, hly, cm, gm0, gm1, w1, h3, h4, hh, vl_len, Nat.min_self, -List.length_flatMap], by simp -implicitDefEqProofs (disch := first | (refine NE.mk ?_; first | omega | assumption) | (refine LTn.mk ?_; omega) | (refine NFam.mk ?_; simp only [cy, cm, gm0, gm1, h3, h4, hh, vl_len, updO_same, notFam_cells]; omega)) [t3, t9, t10, t81, t82, lenz, hi, hgy, cy, hly, cm, gm0, gm1, w1, h3, h4, hh, vl_len, Nat.min_self, -List.length_flatMap], (by (try dsimp only [keepOnly_eq]); omega), ho⟩
          | false =>
            refine s6_52 ?_
            refine s6_53 ?_
            refine s6_54 ?_
            simp -implicitDefEqProofs (disch := first | (refine NE.mk ?_; first | omega | assumption) | (refine LTn.mk ?_; omega) | (refine NFam.mk ?_; simp only [cy, cm, gm0, gm1, h1', hh, vl_len, updO_same, notFam_cells]; omega)) [↓h6_55, t3, t9, t10, t81, t82, lenz, hi, hgy, cy, hly, cm, gm0, gm1, w1, h1', hh, vl_len, Nat.min_self, -List.length_flatMap]
            refine s6_56 ?_
            simp -implicitDefEqProofs (disch := first | (refine NE.mk ?_; first | omega | assumption) | (refine LTn.mk ?_; omega) | (refine NFam.mk ?_; simp only [cy, cm, gm0, gm1, h1', hh, vl_len, updO_same, notFam_cells]; omega)) [↓h6_57, ↓h6_57_1, ↓w6_57_2, ↓h6_57_2g, ↓w6_57_3, ↓h6_57_3g, ↓w6_57_4, ↓h6_57_4g, ↓h6_57_5, t3, t9, t10, t81, t82, lenz, hi, hgy, cy, hly, cm, gm0, gm1, w1, h1', hh, vl_len, Nat.min_self, -List.length_flatMap]
            refine s6_58 ?_
            simp -implicitDefEqProofs (disch := first | (refine NE.mk ?_; first | omega | assumption) | (refine LTn.mk ?_; omega) | (refine NFam.mk ?_; simp only [cy, cm, gm0, gm1, h1', hh, vl_len, updO_same, notFam_cells]; omega)) [t3, t9, t10, t81, t82, lenz, hi, hgy, cy, hly, cm, gm0, gm1, w1, h1', hh, vl_len, Nat.min_self, -List.length_flatMap]
            refine s6_61 ?_
            simp -implicitDefEqProofs (disch := first | (refine NE.mk ?_; first | omega | assumption) | (refine LTn.mk ?_; omega) | (refine NFam.mk ?_; simp only [cy, cm, gm0, gm1, h1', hh, vl_len, updO_same, notFam_cells]; omega)) [↓h6_61, t3, t9, t10, t81, t82, lenz, hi, hgy, cy, hly, cm, gm0, gm1, w1, h1', hh, vl_len, Nat.min_self, -List.length_flatMap]
            refine hN (k - 1) _ (by omega) ?_
            dsimp only [keepOnly_eq]
            exact ⟨i + 1, by omega, by simp -implicitDefEqProofs (disch := first | (refine NE.mk ?_; first | omega | assumption) | (refine LTn.mk ?_; omega) | (refine NFam.mk ?_; simp only [cy, cm, gm0, gm1, h1', hh, vl_len, updO_same, notFam_cells]; omega)) [t3, t9, t10, t81, t82, lenz, hi, hgy, cy, hly, cm, gm0, gm1, w1, h1', hh, vl_len, Nat.min_self, -List.length_flatMap], by simp -implicitDefEqProofs (disch := first | (refine NE.mk ?_; first | omega | assumption) | (refine LTn.mk ?_; omega) | (refine NFam.mk ?_; simp only [cy, cm, gm0, gm1, h1', hh, vl_len, updO_same, notFam_cells]; omega)) [t3, t9, t10, t81, t82, lenz, hi, hgy, cy, hly, cm, gm0, gm1, w1, h1', hh, vl_len, Nat.min_self, -List.length_flatMap], by simp -implicitDefEqProofs (disch := first | (refine NE.mk ?_; first | omega | assumption) | (refine LTn.mk ?_; omega) | (refine NFam.mk ?_; simp only [cy, cm, gm0, gm1, h1', hh, vl_len, updO_same, notFam_cells]; omega)) [t3, t9, t10, t81, t82, lenz, hi, hgy, cy, hly, cm, gm0, gm1, w1, h1', hh, vl_len, Nat.min_self, -List.length_flatMap], by simp -implicitDefEqProofs (disch := first | (refine NE.mk ?_; first | omega | assumption) | (refine LTn.mk ?_; omega) | (refine NFam.mk ?_; simp only [cy, cm, gm0, gm1, h1', hh, vl_len, updO_same, notFam_cells]; omega)) [t3, t9, t10, t81, t82, lenz, hi, hgy, cy, hly, cm, gm0, gm1, w1, h1', hh, vl_len, Nat.min_self, -List.length_flatMap], by simp -implicitDefEqProofs (disch := first | (refine NE.mk ?_; first | omega | assumption) | (refine LTn.mk ?_; omega) | (refine NFam.mk ?_; simp only [cy, cm, gm0, gm1, h1', hh, vl_len, updO_same, notFam_cells]; omega)) [t3, t9, t10, t81, t82, lenz, hi, hgy, cy, hly, cm, gm0, gm1, w1, h1', hh, vl_len, Nat.min_self, -List.length_flatMap], (by (try dsimp only [keepOnly_eq]); omega), ho⟩
        · rename_i hi
          refine hE 4 _ ?_
          (try simp -implicitDefEqProofs (disch := first | (refine NE.mk ?_; first | omega | assumption) | (refine LTn.mk ?_; omega) | (refine NFam.mk ?_; simp only [updO_same, notFam_cells]; omega)) [t3, t9, t10, t81, t82, lenz, Nat.min_self, -List.length_flatMap])
          refine s6_62 ?_
          refine s6_63 ?_
          simp -implicitDefEqProofs (disch := first | (refine NE.mk ?_; first | omega | assumption) | (refine LTn.mk ?_; omega) | (refine NFam.mk ?_; simp only [updO_same, notFam_cells]; omega)) [↓h6_64, t3, t9, t10, t81, t82, lenz, Nat.min_self, -List.length_flatMap]
          refine s6_65 ?_
          refine s6_66 (fun k s => ∃ i : Nat, i + k = w.length ∧ s.t 115 = .v (.one (z)) ∧ s.t 116 = .v (.one (.int .i64 (w.length))) ∧ s.t 117 = .v (.one (.int .i64 (i))) ∧ h2.le s.h) w.length ?_ ?_
          · exact ⟨0, by omega, by simp -implicitDefEqProofs (disch := first | (refine NE.mk ?_; first | omega | assumption) | (refine LTn.mk ?_; omega) | (refine NFam.mk ?_; simp only [updO_same, notFam_cells]; omega)) [t3, t9, t10, t81, t82, lenz, Nat.min_self, -List.length_flatMap], by simp -implicitDefEqProofs (disch := first | (refine NE.mk ?_; first | omega | assumption) | (refine LTn.mk ?_; omega) | (refine NFam.mk ?_; simp only [updO_same, notFam_cells]; omega)) [t3, t9, t10, t81, t82, lenz, Nat.min_self, -List.length_flatMap], by simp -implicitDefEqProofs (disch := first | (refine NE.mk ?_; first | omega | assumption) | (refine LTn.mk ?_; omega) | (refine NFam.mk ?_; simp only [updO_same, notFam_cells]; omega)) [t3, t9, t10, t81, t82, lenz, Nat.min_self, -List.length_flatMap], (by (try dsimp only [keepOnly_eq]); omega), fun i hi => by simp -implicitDefEqProofs (disch := first | (refine NE.mk ?_; first | omega | assumption) | (refine LTn.mk ?_; omega) | (refine NFam.mk ?_; simp only [updO_same, notFam_cells]; omega)) [t3, t9, t10, t81, t82, lenz, Nat.min_self, -List.length_flatMap]; exact ho i hi⟩
          · clear t3 t9 t10 t81 t82 hi hk ho hn
            rintro k s Q2 ⟨i, hk, t115, t116, t117, hn, ho⟩ hN hE hR
            refine s6_67 ?_
            simp -implicitDefEqProofs (disch := first | (refine NE.mk ?_; first | omega | assumption) | (refine LTn.mk ?_; omega) | (refine NFam.mk ?_; simp only [updO_same, notFam_cells]; omega)) [↓h6_68, t115, t116, t117, Nat.min_self, -List.length_flatMap]
            refine s6_69 ?_
            simp -implicitDefEqProofs (disch := first | (refine NE.mk ?_; first | omega | assumption) | (refine LTn.mk ?_; omega) | (refine NFam.mk ?_; simp only [updO_same, notFam_cells]; omega)) [t115, t116, t117, Nat.min_self, -List.length_flatMap]
            split
            · rename_i hi
              obtain ⟨jz, fz, roz, ez, wz, csz, rfl, hjz, hcz, hlz, hgz⟩ := vz.get1 (g := (Cell.bool ·)) (fun _ => rfl) (i := i) (by rw [vl_len]; exact hi)
              rw [vl_get, hkp i hi] at hgz
              have cz := (ho jz hjz).trans hcz
              have w1 := wrap64 (show -9223372036854775808 ≤ (i : Int) + 1 by omega) (by omega)
              refine s6_71 ?_
              refine s6_72 ?_
              refine s6_73 ?_
              simp -implicitDefEqProofs (disch := first | (refine NE.mk ?_; first | omega | assumption) | (refine LTn.mk ?_; omega) | (refine NFam.mk ?_; simp only [cz, vl_len, updO_same, notFam_cells]; omega)) [↓h6_74, t115, t116, t117, hi, hgz, cz, hlz, w1, vl_len, Nat.min_self, -List.length_flatMap]
              refine s6_75 ?_
              simp -implicitDefEqProofs (disch := first | (refine NE.mk ?_; first | omega | assumption) | (refine LTn.mk ?_; omega) | (refine NFam.mk ?_; simp only [cz, vl_len, updO_same, notFam_cells]; omega)) [↓h6_76, t115, t116, t117, hi, hgz, cz, hlz, w1, vl_len, Nat.min_self, -List.length_flatMap]
              refine s6_77 ?_
              simp -implicitDefEqProofs (disch := first | (refine NE.mk ?_; first | omega | assumption) | (refine LTn.mk ?_; omega) | (refine NFam.mk ?_; simp only [cz, vl_len, updO_same, notFam_cells]; omega)) [t115, t116, t117, hi, hgz, cz, hlz, w1, vl_len, Nat.min_self, -List.length_flatMap]
              refine s6_80 ?_
              simp -implicitDefEqProofs (disch := first | (refine NE.mk ?_; first | omega | assumption) | (refine LTn.mk ?_; omega) | (refine NFam.mk ?_; simp only [cz, vl_len, updO_same, notFam_cells]; omega)) [↓h6_80, t115, t116, t117, hi, hgz, cz, hlz, w1, vl_len, Nat.min_self, -List.length_flatMap]
              refine hN (k - 1) _ (by omega) ?_
              dsimp only [keepOnly_eq]
              exact ⟨i + 1, by omega, by simp -implicitDefEqProofs (disch := first | (refine NE.mk ?_; first | omega | assumption) | (refine LTn.mk ?_; omega) | (refine NFam.mk ?_; simp only [cz, vl_len, updO_same, notFam_cells]; omega)) [t115, t116, t117, hi, hgz, cz, hlz, w1, vl_len, Nat.min_self, -List.length_flatMap], by simp -implicitDefEqProofs (disch := first | (refine NE.mk ?_; first | omega | assumption) | (refine LTn.mk ?_; omega) | (refine NFam.mk ?_; simp only [cz, vl_len, updO_same, notFam_cells]; omega)) [t115, t116, t117, hi, hgz, cz, hlz, w1, vl_len, Nat.min_self, -List.length_flatMap], by simp -implicitDefEqProofs (disch := first | (refine NE.mk ?_; first | omega | assumption) | (refine LTn.mk ?_; omega) | (refine NFam.mk ?_; simp only [cz, vl_len, updO_same, notFam_cells]; omega)) [t115, t116, t117, hi, hgz, cz, hlz, w1, vl_len, Nat.min_self, -List.length_flatMap], (by (try dsimp only [keepOnly_eq]); omega), ho⟩
            · rename_i hi
              refine hE 6 _ ?_
              (try simp -implicitDefEqProofs (disch := first | (refine NE.mk ?_; first | omega | assumption) | (refine LTn.mk ?_; omega) | (refine NFam.mk ?_; simp only [updO_same, notFam_cells]; omega)) [t115, t116, t117, Nat.min_self, -List.length_flatMap])
              refine s6_81 ?_
              simp -implicitDefEqProofs (disch := first | (refine NE.mk ?_; first | omega | assumption) | (refine LTn.mk ?_; omega) | (refine NFam.mk ?_; simp only [updO_same, notFam_cells]; omega)) [↓h6_82, ↓h6_82_1, t115, t116, t117, Nat.min_self, -List.length_flatMap]
              refine wF_mono (wF_out rfl (out14 _)) ?_
              rintro _ _ ⟨rfl, rfl⟩
              (try simp -implicitDefEqProofs (disch := first | (refine NE.mk ?_; first | omega | assumption) | (refine LTn.mk ?_; omega) | (refine NFam.mk ?_; simp only [updO_same, notFam_cells]; omega)) [↓h6_82, ↓h6_82_1, t115, t116, t117, Nat.min_self, -List.length_flatMap])
              exact hQ _ _ _ (.inr rfl) rfl (by simp -implicitDefEqProofs (disch := first | (refine NE.mk ?_; first | omega | assumption) | (refine LTn.mk ?_; omega) | (refine NFam.mk ?_; simp only [updO_same, notFam_cells]; omega)) [t115, t116, t117, Nat.min_self, -List.length_flatMap])
end Go.Proofs.Ythoicdnlcnppgaa.Fn
