/- Contracts: the reference's Cause. Conditions: none. -/
import Derived.Test.YthoicdnlcnppgaaD16
set_option linter.unusedVariables false
set_option linter.unusedSimpArgs false
namespace Go.Proofs.Ythoicdnlcnppgaa.Fn
open Go Go.Am
set_option maxRecDepth 100000
set_option maxHeartbeats 1000000
/-- The least explanation from j on. -/
def ByQ (P : Nat → Prop) (j : Nat) (by' : Int) : Prop := (by' = -1 ∧ ∀ k', j ≤ k' → ¬ P k') ∨ ∃ kb : Nat, by' = kb ∧ P kb ∧ ∀ k', j ≤ k' → k' < kb → ¬ P k'
theorem ByQ.skip {P : Nat → Prop} {j : Nat} {by' : Int} (B : ByQ P (j + 1) by') (h : ¬ P j) : ByQ P j by' := by
  rcases B with ⟨e, h1⟩ | ⟨kb, e, h1, h2⟩
  · refine .inl ⟨e, fun k' hk hp => ?_⟩
    by_cases e2 : k' = j
    · subst e2; exact h hp
    · exact h1 k' (by omega) hp
  · refine .inr ⟨kb, e, h1, fun k' hk hk2 hp => ?_⟩
    by_cases e2 : k' = j
    · subst e2; exact h hp
    · exact h2 k' (by omega) hk2 hp
theorem k21 (xm xw xp : Cell) (m : List Mom) (w : List Wt) (p : List Pr) (i0 : Int) (h : AH) (vm : View h.o h.nx xm enM m) (vw : View h.o h.nx xw enW w) (vp : View h.o h.nx xp enPr p)
    (hm : m.length < 9223372036854775807) (hw : w.length < 9223372036854775807) (hp : p.length < 9223372036854775807) :
    wF fs out 21 [.v (.one xm), .v (.one xw), .v (.one xp), .v (.one (.int .i64 i0))] h fun r h' => CauseR m w p i0 r h' ∧ h.le h' := by
  refine wF_fn fs21 rfl fun Q hQ => ?_
  refine s21_0 ?_
  simp -implicitDefEqProofs (disch := constructor; omega) [↓h21_1]
  refine s21_2 ?_
  simp -implicitDefEqProofs (disch := constructor; omega) [↓h21_3, ↓h21_3_1]
  refine wF_mono (k16 xm xw xp m w p _ (vm.keep (by (try dsimp only [keepOnly_eq]); omega) fun i hi => by simp -implicitDefEqProofs (disch := constructor; omega)) (vw.keep (by (try dsimp only [keepOnly_eq]); omega) fun i hi => by simp -implicitDefEqProofs (disch := constructor; omega)) (vp.keep (by (try dsimp only [keepOnly_eq]); omega) fun i hi => by simp -implicitDefEqProofs (disch := constructor; omega)) hm hw hp) ?_
  rintro _ h2 ⟨⟨hV, rfl⟩ | ⟨y, z, b, a, kp, V, P, rfl, vy, vz⟩, hn2, ho2⟩
  · (try dsimp only at hn2 ho2)
    (try simp -implicitDefEqProofs (disch := constructor; omega) [↓h21_3, ↓h21_3_1])
    refine s21_4 ?_
    refine s21_5 ?_
    simp -implicitDefEqProofs (disch := constructor; omega) [↓h21_6]
    refine s21_7 ?_
    simp -implicitDefEqProofs (disch := constructor; omega)
    refine s21_8 ?_
    simp -implicitDefEqProofs (disch := constructor; omega) [↓h21_9]
    exact hQ _ _ _ (.inr rfl) (by simp only [resc, resv, List.mapM_cons, List.mapM_nil, a21]; simp -implicitDefEqProofs (disch := constructor; omega); rfl) ⟨.inl ⟨hV, rfl⟩, (by (try dsimp only [keepOnly_eq]); omega), fun i hi => ho2 i (by omega)⟩
  · (try dsimp only at hn2 ho2)
    have low : ∀ i, i < h.nx → h2.o i = h.o i := fun i hi => ho2 i (by omega)
    have vm2 := vm.keep (n' := h2.nx) (by omega) low
    have vw2 := vw.keep (n' := h2.nx) (by omega) low
    have vp2 := vp.keep (n' := h2.nx) (by omega) low
    have lenm := vm2.lenV (fs := fs) (out := out)
    have lenw := vw2.lenV (fs := fs) (out := out)
    have hml := V.ml
    have hwl := V.wl
    rcases (Classical.em (0 ≤ i0)).symm with e0 | d0
    · have f0 := eq_false e0
      (try simp -implicitDefEqProofs (disch := constructor; omega) [↓h21_3, ↓h21_3_1, lenm, f0])
      refine s21_4 ?_
      refine s21_5 ?_
      simp -implicitDefEqProofs (disch := constructor; omega) [↓h21_6, lenm, f0]
      refine s21_7 ?_
      simp -implicitDefEqProofs (disch := constructor; omega) [lenm, f0]
      refine s21_10 ?_
      refine s21_11 ?_
      simp -implicitDefEqProofs (disch := constructor; omega) [↓h21_12, ↓w21_12_1, ↓h21_12_1g, ↓h21_12_2, lenm, f0]
      refine s21_13 ?_
      simp -implicitDefEqProofs (disch := constructor; omega) [lenm, f0]
      refine s21_14 ?_
      simp -implicitDefEqProofs (disch := constructor; omega) [↓h21_15, lenm, f0]
      exact hQ _ _ _ (.inr rfl) (by simp only [resc, resv, List.mapM_cons, List.mapM_nil, a21]; simp -implicitDefEqProofs (disch := constructor; omega) [lenm, f0]; rfl) ⟨.inr (.inl ⟨V, by omega, rfl⟩), (by (try dsimp only [keepOnly_eq]); omega), fun i hi => low i hi⟩
    by_cases e1 : (m.length : Int) ≤ i0
    · skip
      (try simp -implicitDefEqProofs (disch := constructor; omega) [↓h21_3, ↓h21_3_1, lenm, d0, e1])
      refine s21_4 ?_
      refine s21_5 ?_
      simp -implicitDefEqProofs (disch := constructor; omega) [↓h21_6, lenm, d0, e1]
      refine s21_7 ?_
      simp -implicitDefEqProofs (disch := constructor; omega) [lenm, d0, e1]
      refine s21_10 ?_
      refine s21_11 ?_
      simp -implicitDefEqProofs (disch := constructor; omega) [↓h21_12, ↓w21_12_1, ↓h21_12_1g, ↓h21_12_2, lenm, d0, e1]
      refine s21_13 ?_
      simp -implicitDefEqProofs (disch := constructor; omega) [lenm, d0, e1]
      refine s21_14 ?_
      simp -implicitDefEqProofs (disch := constructor; omega) [↓h21_15, lenm, d0, e1]
      exact hQ _ _ _ (.inr rfl) (by simp only [resc, resv, List.mapM_cons, List.mapM_nil, a21]; simp -implicitDefEqProofs (disch := constructor; omega) [lenm, d0, e1]; rfl) ⟨.inr (.inl ⟨V, by omega, rfl⟩), (by (try dsimp only [keepOnly_eq]); omega), fun i hi => low i hi⟩
    have d1 := eq_false e1
    (try simp -implicitDefEqProofs (disch := constructor; omega) [↓h21_3, ↓h21_3_1, lenm, lenw, d0, d1])
    refine s21_4 ?_
    refine s21_5 ?_
    simp -implicitDefEqProofs (disch := constructor; omega) [↓h21_6, lenm, lenw, d0, d1]
    refine s21_7 ?_
    simp -implicitDefEqProofs (disch := constructor; omega) [lenm, lenw, d0, d1]
    refine s21_10 ?_
    refine s21_11 ?_
    simp -implicitDefEqProofs (disch := constructor; omega) [↓h21_12, ↓w21_12_1, ↓h21_12_1g, ↓h21_12_2, lenm, lenw, d0, d1]
    refine s21_13 ?_
    simp -implicitDefEqProofs (disch := constructor; omega) [lenm, lenw, d0, d1]
    refine s21_16 ?_
    simp -implicitDefEqProofs (disch := constructor; omega) [↓h21_17, lenm, lenw, d0, d1]
    refine s21_18 ?_
    obtain ⟨r, S, hr⟩ := V.s
    obtain ⟨idx0, hx0, hx1⟩ := List.mem_iff_getElem.1 (S.all hr i0 (by omega) (by omega))
    obtain ⟨lo, hlo⟩ : ∃ q, q = h2.nx := ⟨_, rfl⟩
    have hlow : h.nx ≤ lo := by omega
    rw [← hlo] at vm2 vw2 vp2 vy vz
    clear lenm ho2
    refine s21_19 (fun k s => ∃ (i : Int) (pre : List Int) (yo : Cell) (f : Nat), (∃ hi : k < r.length, r[k] = i) ∧ pre.length + k ≤ idx0 ∧ (s.t 0 = .v (.one (xm)) ∧ s.t 1 = .v (.one (xw)) ∧ s.t 2 = .v (.one (xp)) ∧ s.t 3 = .v (.one (.int .i64 (i))) ∧ s.t 10 = .v (.one (y)) ∧ s.t 11 = .v (.one (z)) ∧ s.t 13 = .v (.one (yo))) ∧
      (∀ l, Ch m w b a kp i l → Ch m w b a kp i0 (pre ++ l)) ∧ Own s.h.o lo s.h.nx yo 3 1 enI pre f ∧ f < s.h.nx ∧ lo ≤ s.h.nx ∧ ∀ v, v < lo → s.h.o v = h2.o v) idx0 ?_ ?_
    · skip
      exact ⟨i0, [], .nils, 0, ⟨hx0, hx1⟩, by simp, (by simp -implicitDefEqProofs (disch := constructor; omega)), fun l hl => hl, Own.nil, (by (try dsimp only [keepOnly_eq]); omega), (by (try dsimp only [keepOnly_eq]); omega), fun v hv => rfl⟩
    · rintro k s Q2 ⟨i, pre, yo, f, ⟨hi1, hi2⟩, hpl, tA, hC, O, hfn, hn, ho⟩ hN hE hR
      have hrg := S.rg _ (List.getElem_mem hi1)
      rw [hi2] at hrg
      obtain ⟨u, hu⟩ : ∃ u : Nat, i = u := ⟨i.toNat, by omega⟩
      subst hu
      have hun : u < m.length := by omega
      obtain ⟨jm, fm, rom, em, wm, csm, rfl, hjm, hcm, hlm, hgm1, hgm2, hgm3⟩ := vm2.get enM_len hun
      have gm0 : csm[u * 2]? = some (.int .i64 m[u].t) := hgm3 0 (by omega)
      have gm1 : csm[u * 2 + 1]? = some (.bool m[u].hold) := hgm3 1 (by omega)
      have hms : momS m u = m[u] := momS_get hun
      obtain ⟨jy, fy, roy, ey, wy, csy, rfl, hjy, hcy, hly, hgy⟩ := vy.get1 (g := (Cell.int .i64 ·)) (fun _ => rfl) (i := u) (by rw [vl_len]; exact hun)
      rw [vl_get] at hgy
      have cy := (ho jy hjy).trans hcy
      have hea := P.ea u (by omega) (by omega)
      have pri := priS_ok V.pp V.pd u
      have bdu := P.bd u
      have w1 := wrap64 (show -9223372036854775808 ≤ a u - priS p u by omega) (by omega)
      have hbe : a u - priS p u = b u := by omega
      refine s21_20 ?_
      refine s21_21 ?_
      simp -implicitDefEqProofs (disch := constructor; omega) [↓h21_22, tA, hun, cy, hgy, hly, vl_len]
      refine s21_22 ?_
      (try simp -implicitDefEqProofs (disch := constructor; omega) [↓h21_22, tA, hun, cy, hgy, hly, vl_len])
      refine wF_mono (k30 u xp p _ (vp2.keep (by (try dsimp only [keepOnly_eq]); omega) fun v hv => ho v hv) (by have := V.pl; omega)) ?_
      rintro _ h3 ⟨rfl, hn3, ho3⟩
      (try dsimp only at hn3 ho3)
      rw [primS_eq p V.pd]
      have cy3 := (ho3 jy (by omega)).trans cy
      have w1b := w1
      rw [hbe] at w1b
      have wl := wrap64 (show -9223372036854775808 ≤ (w.length : Int) - 1 by omega) (by omega)
      (try simp -implicitDefEqProofs (disch := constructor; omega) [tA, hun, cy3, hgy, hly, vl_len, w1, w1b, hbe, lenw, wl])
      refine ⟨hold_load (j := jy) (o := u) (f := fy) (ro := roy) (e := ey) (w := wy) (cs := csy) (c := .int .i64 (a u)) (by simp -implicitDefEqProofs (disch := constructor; omega) [tA, hun, cy3, hgy, hly, vl_len, w1, w1b, hbe, lenw, wl]) (by simp -implicitDefEqProofs (disch := constructor; omega) [tA, hun, cy3, hgy, hly, vl_len, w1, w1b, hbe, lenw, wl]) (by simp -implicitDefEqProofs (disch := constructor; omega) [tA, hun, cy3, hgy, hly, vl_len, w1, w1b, hbe, lenw, wl]) (by first | exact hgy | (simp -implicitDefEqProofs (disch := constructor; omega) [tA, hun, cy3, hgy, hly, vl_len, w1, w1b, hbe, lenw, wl])), ?_⟩
      (try simp -implicitDefEqProofs (disch := constructor; omega) [↓h21_22h1, tA, hun, cy3, hgy, hly, vl_len, w1, w1b, hbe, lenw, wl])
      refine s21_23 ?_
      simp -implicitDefEqProofs (disch := constructor; omega) [↓h21_24, tA, hun, cy3, hgy, hly, vl_len, w1, w1b, hbe, lenw, wl]
      refine s21_25 ?_
      refine s21_26 ?_
      simp -implicitDefEqProofs (disch := constructor; omega) [↓h21_27, tA, hun, cy3, hgy, hly, vl_len, w1, w1b, hbe, lenw, wl]
      refine s21_28 ?_
      have O3 : Own h3.o lo h3.nx yo 3 1 enI pre f := O.keep' (by omega) fun v hv => ho3 v (by omega)
      have ho3' : ∀ v, v < lo → h3.o v = h2.o v := fun v hv => (ho3 v (by omega)).trans (ho v hv)
      refine s21_29 (fun j s' => ∃ by' : Int, (s'.t 0 = .v (.one (.slice jm 0 m.length)) ∧ s'.t 1 = .v (.one (xw)) ∧ s'.t 2 = .v (.one (xp)) ∧ s'.t 3 = .v (.one (.int .i64 (u))) ∧ s'.t 10 = .v (.one (.slice jy 0 m.length)) ∧ s'.t 11 = .v (.one (z)) ∧ s'.t 13 = .v (.one (yo)) ∧ s'.t 14 = .v (.one (.int .i64 (b u))) ∧ s'.t 15 = .v (.one (.int .i64 (by'))) ∧ s'.t 16 = .v (.one (.int .i64 ((j : Int) - 1)))) ∧ j ≤ w.length ∧ ByQ (okC m w b a kp u) j by' ∧ h3.nx ≤ s'.h.nx ∧ ∀ v, v < h3.nx → s'.h.o v = h3.o v) w.length ?_ ?_
      · exact ⟨-1, (by simp -implicitDefEqProofs (disch := constructor; omega) [tA, hun, cy3, hgy, hly, vl_len, w1, w1b, hbe, lenw, wl]), by omega, .inl ⟨rfl, fun k' hk' ⟨h1, _⟩ => by omega⟩, (by (try dsimp only [keepOnly_eq]); omega), fun v hv => rfl⟩
      · clear tA cy cy3 ho O
        rintro j s' Q3 ⟨by', tB, hj, hB, hn', ho'⟩ hN' hE' hR'
        have hoH : ∀ v, v < lo → s'.h.o v = h2.o v := fun v hv => (ho' v (by omega)).trans (ho3' v hv)
        cases j with
        | zero =>
          refine s21_30 ?_
          refine s21_31 ?_
          simp -implicitDefEqProofs (disch := constructor; omega) [↓h21_32, tB]
          refine s21_33 ?_
          simp -implicitDefEqProofs (disch := constructor; omega) [tB]
          refine hE' 2 _ ?_
          (try simp -implicitDefEqProofs (disch := constructor; omega) [tB])
          rcases hB with ⟨rfl, hB⟩ | ⟨kb, rfl, hB1, hB2⟩
          · skip
            refine s21_43 ?_
            refine s21_44 ?_
            simp -implicitDefEqProofs (disch := constructor; omega) [↓h21_45, tB]
            refine s21_46 ?_
            simp -implicitDefEqProofs (disch := constructor; omega) [tB]
            refine s21_47 ?_
            simp -implicitDefEqProofs (disch := constructor; omega) [↓h21_48, tB]
            refine hR _ ?_
            (try simp -implicitDefEqProofs (disch := constructor; omega) [tB])
            have hc := hC [] (.nil fun k hk => hB k (by omega) hk)
            rw [List.append_nil] at hc
            exact hQ _ _ _ (.inr rfl) (by simp only [resc, resv, List.mapM_cons, List.mapM_nil, a21]; simp -implicitDefEqProofs (disch := constructor; omega) [tB]; rfl) ⟨.inr (.inr ⟨yo, pre, b, a, kp, V, by omega, rfl, O3.view.keep (by (try dsimp only [keepOnly_eq]); omega) fun v hv => ho' v hv, P, hc⟩), (by (try dsimp only [keepOnly_eq]); omega), fun v hv => (hoH v (by omega)).trans (low v hv)⟩
          · have hkb : ¬ (kb : Int) < 0 := by omega
            obtain ⟨hkw, hx1', hx2', hx3', hx4'⟩ := id hB1
            refine s21_43 ?_
            refine s21_44 ?_
            simp -implicitDefEqProofs (disch := constructor; omega) [↓h21_45, tB, hkb]
            refine s21_46 ?_
            simp -implicitDefEqProofs (disch := constructor; omega) [tB, hkb]
            refine s21_49 ?_
            simp -implicitDefEqProofs (disch := constructor; omega) [↓h21_50, ↓h21_50_1, tB, hkb]
            refine app_own (f := f) (lo := lo) (n := h3.nx) (x := yo) (l := pre) (l2 := [(kb : Int)]) (enc := enI) ?_ ?_ ?_ (src_one (f := s'.h.nx + 2 + 2 + 2) (ro := false) (e := 3) (s := 1) (w := 1) ?_ rfl) enI_len enI_solid (show 0 < 1 by omega) ⟨?_, ?_⟩ ?_
            · (try dsimp only)
              omega
            · (try dsimp only)
              omega
            · exact O3.keep' (Nat.le_refl _) fun v hv => by simp -implicitDefEqProofs (disch := constructor; omega) [tB, hkb]; exact ho' v hv
            · (try simp -implicitDefEqProofs (disch := constructor; omega) [tB, hkb, enI])
            · simp; omega
            · simp; omega
            rintro x' f' o' O' hf' hoA
            (try dsimp only at hoA O' hf')
            have hoA' : ∀ v, v < lo → o' v = h2.o v := fun v hv => by
              rw [hoA v (by omega) (.inl hv)]; simp -implicitDefEqProofs (disch := constructor; omega) [tB, hkb]; exact hoH v hv
            obtain ⟨x, hxe⟩ : ∃ x, x = w[kb] := ⟨_, rfl⟩
            have hmem : x ∈ w := by rw [hxe]; exact List.getElem_mem hkw
            obtain ⟨⟨xf0, xfn, xt0, xtn⟩, xft, xmn, xms⟩ := V.ww x hmem
            obtain ⟨uf, huf⟩ : ∃ n : Nat, x.f = n := ⟨x.f.toNat, by omega⟩
            obtain ⟨jw, fw, row, ew, ww, csw, rfl, hjw, hcw, hlw, hgw1, hgw2, hgw3⟩ := vw2.get enW_len hkw
            have cw := (hoA' jw hjw).trans hcw
            have gw0 : csw[kb * 4]? = some (.int .i64 uf) := (hgw3 0 (by omega)).trans (by rw [← hxe, ← huf]; rfl)
            (try simp -implicitDefEqProofs (disch := constructor; omega) [↓h21_50, ↓h21_50_1, tB, hkb, cw, hlw, gw0, hkw, vl_len])
            refine s21_51 ?_
            simp -implicitDefEqProofs (disch := constructor; omega) [↓h21_51, tB, hkb, cw, hlw, gw0, hkw, vl_len]
            have hxm := S.tp k hi1 x hmem (by rw [hi2, hxe]; exact hx1')
            obtain ⟨idx', hx1'', hx2''⟩ := List.mem_iff_getElem.1 hxm
            simp only [List.length_take] at hx1''
            rw [List.getElem_take, huf] at hx2''
            refine hN idx' _ (by omega) ?_
            dsimp only [keepOnly_eq]
            refine ⟨uf, pre ++ [(kb : Int)], x', f', ⟨by omega, hx2''⟩, by simp; omega, (by simp -implicitDefEqProofs (disch := constructor; omega) [tB, hkb, cw, hlw, gw0, hkw, vl_len]), fun l hl => ?_, O'.keep' (by (try dsimp only [keepOnly_eq]); omega) fun _ _ => rfl, (by (try dsimp only [keepOnly_eq]); omega), (by (try dsimp only [keepOnly_eq]); omega), hoA'⟩
            rw [List.append_assoc]
            refine hC _ (.cons hkw hB1 (fun k' hk' => hB2 k' (by omega) hk') ?_)
            rw [← hxe, huf]; exact hl
        | succ j =>
          have hj0 : ((j + 1 : Nat) : Int) - 1 = j := by omega
          have hjn : 0 ≤ (j : Int) := by omega
          rw [hj0] at tB
          have hk2 : j < w.length := by omega
          obtain ⟨jw, fw, row, ew, ww, csw, rfl, hjw, hcw, hlw, hgw1, hgw2, hgw3⟩ := vw2.get enW_len hk2
          have cw := (hoH jw hjw).trans hcw
          obtain ⟨x, hxe⟩ : ∃ x, x = w[j] := ⟨_, rfl⟩
          rw [← hxe] at hgw1 hgw2 hgw3
          have hmem : x ∈ w := by rw [hxe]; exact List.getElem_mem hk2
          obtain ⟨⟨xf0, xfn, xt0, xtn⟩, xft, xmn, xms⟩ := V.ww x hmem
          have xmn' := within_iff.1 xmn
          obtain ⟨uf, huf⟩ : ∃ n : Nat, x.f = n := ⟨x.f.toNat, by omega⟩
          have hufn : uf < m.length := by omega
          have bdf := P.bd uf
          have w2 := wrap64 (show -9223372036854775808 ≤ (j : Int) - 1 by omega) (by omega)
          have w3 := wrap64 (show -9223372036854775808 ≤ a uf + x.mn by omega) (by omega)
          have cm := (hoH jm hjm).trans hcm
          have cy := (hoH jy hjy).trans hcy
          obtain ⟨jy', fy', roy', ey', wy', csy', hjeq, hjy', hcy', hly', hgy'⟩ := vy.get1 (g := (Cell.int .i64 ·)) (fun _ => rfl) (i := uf) (by rw [vl_len]; exact hufn)
          cases hjeq
          cases hcy.symm.trans hcy'
          rw [vl_get] at hgy'
          obtain ⟨jz, fz, roz, ez, wz, csz, rfl, hjz, hcz, hlz, hgz⟩ := vz.get1 (g := (Cell.bool ·)) (fun _ => rfl) (i := j) (by rw [vl_len]; exact hk2)
          rw [vl_get] at hgz
          have cz := (hoH jz hjz).trans hcz
          by_cases hxt : x.t = u
          · cases hkp : kp j with
            | true =>
              by_cases hxb : a uf + x.mn = b u
              · rw [hxb] at w3
                cases hh : m[u].hold with
                | true =>
                  by_cases hlt : m[u].t < b u
                  · have hns : ¬ (m[u].hold = true ∧ b u ≤ m[u].t) := fun h => by omega
                    refine s21_30 ?_
                    refine s21_31 ?_
                    simp -implicitDefEqProofs (disch := constructor; omega) [↓h21_32, tB, hjn, hk2, cw, hlw, hgw2, enW, w2, hxt, huf, hufn, w3, cm, gm0, gm1, hlm, cy, hly', hgy', cz, hlz, hgz, vl_len, hkp, hxb, hun, hh, hlt]
                    refine s21_33 ?_
                    simp -implicitDefEqProofs (disch := constructor; omega) [tB, hjn, hk2, cw, hlw, hgw2, enW, w2, hxt, huf, hufn, w3, cm, gm0, gm1, hlm, cy, hly', hgy', cz, hlz, hgz, vl_len, hkp, hxb, hun, hh, hlt]
                    refine s21_34 ?_
                    refine s21_35 ?_
                    refine s21_36 ?_
                    simp -implicitDefEqProofs (disch := constructor; omega) [↓h21_37, tB, hjn, hk2, cw, hlw, hgw2, enW, w2, hxt, huf, hufn, w3, cm, gm0, gm1, hlm, cy, hly', hgy', cz, hlz, hgz, vl_len, hkp, hxb, hun, hh, hlt]
                    refine s21_38 ?_
                    simp -implicitDefEqProofs (disch := constructor; omega) [↓h21_39, ↓w21_39_1, ↓h21_39_1g, ↓h21_39_2, ↓w21_39_3, ↓h21_39_3g, ↓h21_39_4, ↓w21_39_5, ↓h21_39_5g, ↓w21_39_6, ↓h21_39_6g, ↓w21_39_7, ↓h21_39_7g, ↓h21_39_8, tB, hjn, hk2, cw, hlw, hgw2, enW, w2, hxt, huf, hufn, w3, cm, gm0, gm1, hlm, cy, hly', hgy', cz, hlz, hgz, vl_len, hkp, hxb, hun, hh, hlt]
                    refine s21_40 ?_
                    simp -implicitDefEqProofs (disch := constructor; omega) [tB, hjn, hk2, cw, hlw, hgw2, enW, w2, hxt, huf, hufn, w3, cm, gm0, gm1, hlm, cy, hly', hgy', cz, hlz, hgz, vl_len, hkp, hxb, hun, hh, hlt]
                    refine s21_41 ?_
                    simp -implicitDefEqProofs (disch := constructor; omega) [↓h21_41, tB, hjn, hk2, cw, hlw, hgw2, enW, w2, hxt, huf, hufn, w3, cm, gm0, gm1, hlm, cy, hly', hgy', cz, hlz, hgz, vl_len, hkp, hxb, hun, hh, hlt]
                    refine s21_42 ?_
                    simp -implicitDefEqProofs (disch := constructor; omega) [↓h21_42, tB, hjn, hk2, cw, hlw, hgw2, enW, w2, hxt, huf, hufn, w3, cm, gm0, gm1, hlm, cy, hly', hgy', cz, hlz, hgz, vl_len, hkp, hxb, hun, hh, hlt]
                    refine hN' j _ (by omega) ?_
                    dsimp only [keepOnly_eq]
                    exact ⟨j, (by simp -implicitDefEqProofs (disch := constructor; omega) [tB, hjn, hk2, cw, hlw, hgw2, enW, w2, hxt, huf, hufn, w3, cm, gm0, gm1, hlm, cy, hly', hgy', cz, hlz, hgz, vl_len, hkp, hxb, hun, hh, hlt]), by omega, .inr ⟨j, rfl, ⟨hk2, by rw [← hxe]; exact hxt, hkp, by rw [← hxe, huf]; exact hxb, by rw [hms]; exact hns⟩, fun k' h1 h2 => by omega⟩, (by (try dsimp only [keepOnly_eq]); omega), fun v hv => by simp -implicitDefEqProofs (disch := constructor; omega) [tB, hjn, hk2, cw, hlw, hgw2, enW, w2, hxt, huf, hufn, w3, cm, gm0, gm1, hlm, cy, hly', hgy', cz, hlz, hgz, vl_len, hkp, hxb, hun, hh, hlt]; exact ho' v hv⟩
                  · have hns : (m[u].hold = true ∧ b u ≤ m[u].t) := ⟨hh, by omega⟩
                    have hlt' := eq_false hlt
                    refine s21_30 ?_
                    refine s21_31 ?_
                    simp -implicitDefEqProofs (disch := constructor; omega) [↓h21_32, tB, hjn, hk2, cw, hlw, hgw2, enW, w2, hxt, huf, hufn, w3, cm, gm0, gm1, hlm, cy, hly', hgy', cz, hlz, hgz, vl_len, hkp, hxb, hun, hh, hlt']
                    refine s21_33 ?_
                    simp -implicitDefEqProofs (disch := constructor; omega) [tB, hjn, hk2, cw, hlw, hgw2, enW, w2, hxt, huf, hufn, w3, cm, gm0, gm1, hlm, cy, hly', hgy', cz, hlz, hgz, vl_len, hkp, hxb, hun, hh, hlt']
                    refine s21_34 ?_
                    refine s21_35 ?_
                    refine s21_36 ?_
                    simp -implicitDefEqProofs (disch := constructor; omega) [↓h21_37, tB, hjn, hk2, cw, hlw, hgw2, enW, w2, hxt, huf, hufn, w3, cm, gm0, gm1, hlm, cy, hly', hgy', cz, hlz, hgz, vl_len, hkp, hxb, hun, hh, hlt']
                    refine s21_38 ?_
                    simp -implicitDefEqProofs (disch := constructor; omega) [↓h21_39, ↓w21_39_1, ↓h21_39_1g, ↓h21_39_2, ↓w21_39_3, ↓h21_39_3g, ↓h21_39_4, ↓w21_39_5, ↓h21_39_5g, ↓w21_39_6, ↓h21_39_6g, ↓w21_39_7, ↓h21_39_7g, ↓h21_39_8, tB, hjn, hk2, cw, hlw, hgw2, enW, w2, hxt, huf, hufn, w3, cm, gm0, gm1, hlm, cy, hly', hgy', cz, hlz, hgz, vl_len, hkp, hxb, hun, hh, hlt']
                    refine s21_40 ?_
                    simp -implicitDefEqProofs (disch := constructor; omega) [tB, hjn, hk2, cw, hlw, hgw2, enW, w2, hxt, huf, hufn, w3, cm, gm0, gm1, hlm, cy, hly', hgy', cz, hlz, hgz, vl_len, hkp, hxb, hun, hh, hlt']
                    refine s21_42 ?_
                    simp -implicitDefEqProofs (disch := constructor; omega) [↓h21_42, tB, hjn, hk2, cw, hlw, hgw2, enW, w2, hxt, huf, hufn, w3, cm, gm0, gm1, hlm, cy, hly', hgy', cz, hlz, hgz, vl_len, hkp, hxb, hun, hh, hlt']
                    refine hN' j _ (by omega) ?_
                    dsimp only [keepOnly_eq]
                    refine ⟨by', (by simp -implicitDefEqProofs (disch := constructor; omega) [tB, hjn, hk2, cw, hlw, hgw2, enW, w2, hxt, huf, hufn, w3, cm, gm0, gm1, hlm, cy, hly', hgy', cz, hlz, hgz, vl_len, hkp, hxb, hun, hh, hlt']), by omega, hB.skip fun hc => ?_, (by (try dsimp only [keepOnly_eq]); omega), fun v hv => by simp -implicitDefEqProofs (disch := constructor; omega) [tB, hjn, hk2, cw, hlw, hgw2, enW, w2, hxt, huf, hufn, w3, cm, gm0, gm1, hlm, cy, hly', hgy', cz, hlz, hgz, vl_len, hkp, hxb, hun, hh, hlt']; exact ho' v hv⟩
                    obtain ⟨_, h1, h2, h3, h4⟩ := hc
                    rw [← hxe] at h1 h3
                    rw [huf] at h3
                    rw [hms] at h4
                    first | exact hxt h1 | exact hxb h3 | exact h4 hns | (rw [h2] at hkp; cases hkp)
                | false =>
                  have hns : ¬ (m[u].hold = true ∧ b u ≤ m[u].t) := fun h => by rw [hh] at h; cases h.1
                  refine s21_30 ?_
                  refine s21_31 ?_
                  simp -implicitDefEqProofs (disch := constructor; omega) [↓h21_32, tB, hjn, hk2, cw, hlw, hgw2, enW, w2, hxt, huf, hufn, w3, cm, gm0, gm1, hlm, cy, hly', hgy', cz, hlz, hgz, vl_len, hkp, hxb, hun, hh]
                  refine s21_33 ?_
                  simp -implicitDefEqProofs (disch := constructor; omega) [tB, hjn, hk2, cw, hlw, hgw2, enW, w2, hxt, huf, hufn, w3, cm, gm0, gm1, hlm, cy, hly', hgy', cz, hlz, hgz, vl_len, hkp, hxb, hun, hh]
                  refine s21_34 ?_
                  refine s21_35 ?_
                  refine s21_36 ?_
                  simp -implicitDefEqProofs (disch := constructor; omega) [↓h21_37, tB, hjn, hk2, cw, hlw, hgw2, enW, w2, hxt, huf, hufn, w3, cm, gm0, gm1, hlm, cy, hly', hgy', cz, hlz, hgz, vl_len, hkp, hxb, hun, hh]
                  refine s21_38 ?_
                  simp -implicitDefEqProofs (disch := constructor; omega) [↓h21_39, ↓w21_39_1, ↓h21_39_1g, ↓h21_39_2, ↓w21_39_3, ↓h21_39_3g, ↓h21_39_4, ↓w21_39_5, ↓h21_39_5g, ↓w21_39_6, ↓h21_39_6g, ↓w21_39_7, ↓h21_39_7g, ↓h21_39_8, tB, hjn, hk2, cw, hlw, hgw2, enW, w2, hxt, huf, hufn, w3, cm, gm0, gm1, hlm, cy, hly', hgy', cz, hlz, hgz, vl_len, hkp, hxb, hun, hh]
                  refine s21_40 ?_
                  simp -implicitDefEqProofs (disch := constructor; omega) [tB, hjn, hk2, cw, hlw, hgw2, enW, w2, hxt, huf, hufn, w3, cm, gm0, gm1, hlm, cy, hly', hgy', cz, hlz, hgz, vl_len, hkp, hxb, hun, hh]
                  refine s21_41 ?_
                  simp -implicitDefEqProofs (disch := constructor; omega) [↓h21_41, tB, hjn, hk2, cw, hlw, hgw2, enW, w2, hxt, huf, hufn, w3, cm, gm0, gm1, hlm, cy, hly', hgy', cz, hlz, hgz, vl_len, hkp, hxb, hun, hh]
                  refine s21_42 ?_
                  simp -implicitDefEqProofs (disch := constructor; omega) [↓h21_42, tB, hjn, hk2, cw, hlw, hgw2, enW, w2, hxt, huf, hufn, w3, cm, gm0, gm1, hlm, cy, hly', hgy', cz, hlz, hgz, vl_len, hkp, hxb, hun, hh]
                  refine hN' j _ (by omega) ?_
                  dsimp only [keepOnly_eq]
                  exact ⟨j, (by simp -implicitDefEqProofs (disch := constructor; omega) [tB, hjn, hk2, cw, hlw, hgw2, enW, w2, hxt, huf, hufn, w3, cm, gm0, gm1, hlm, cy, hly', hgy', cz, hlz, hgz, vl_len, hkp, hxb, hun, hh]), by omega, .inr ⟨j, rfl, ⟨hk2, by rw [← hxe]; exact hxt, hkp, by rw [← hxe, huf]; exact hxb, by rw [hms]; exact hns⟩, fun k' h1 h2 => by omega⟩, (by (try dsimp only [keepOnly_eq]); omega), fun v hv => by simp -implicitDefEqProofs (disch := constructor; omega) [tB, hjn, hk2, cw, hlw, hgw2, enW, w2, hxt, huf, hufn, w3, cm, gm0, gm1, hlm, cy, hly', hgy', cz, hlz, hgz, vl_len, hkp, hxb, hun, hh]; exact ho' v hv⟩
              · have hxb' := eq_false hxb
                refine s21_30 ?_
                refine s21_31 ?_
                simp -implicitDefEqProofs (disch := constructor; omega) [↓h21_32, tB, hjn, hk2, cw, hlw, hgw2, enW, w2, hxt, huf, hufn, w3, cm, gm0, gm1, hlm, cy, hly', hgy', cz, hlz, hgz, vl_len, hkp, hxb', hun]
                refine s21_33 ?_
                simp -implicitDefEqProofs (disch := constructor; omega) [tB, hjn, hk2, cw, hlw, hgw2, enW, w2, hxt, huf, hufn, w3, cm, gm0, gm1, hlm, cy, hly', hgy', cz, hlz, hgz, vl_len, hkp, hxb', hun]
                refine s21_34 ?_
                refine s21_35 ?_
                refine s21_36 ?_
                simp -implicitDefEqProofs (disch := constructor; omega) [↓h21_37, tB, hjn, hk2, cw, hlw, hgw2, enW, w2, hxt, huf, hufn, w3, cm, gm0, gm1, hlm, cy, hly', hgy', cz, hlz, hgz, vl_len, hkp, hxb', hun]
                refine s21_38 ?_
                simp -implicitDefEqProofs (disch := constructor; omega) [↓h21_39, ↓w21_39_1, ↓h21_39_1g, ↓h21_39_2, ↓w21_39_3, ↓h21_39_3g, ↓h21_39_4, ↓w21_39_5, ↓h21_39_5g, ↓w21_39_6, ↓h21_39_6g, ↓w21_39_7, ↓h21_39_7g, ↓h21_39_8, tB, hjn, hk2, cw, hlw, hgw2, enW, w2, hxt, huf, hufn, w3, cm, gm0, gm1, hlm, cy, hly', hgy', cz, hlz, hgz, vl_len, hkp, hxb', hun]
                refine s21_40 ?_
                simp -implicitDefEqProofs (disch := constructor; omega) [tB, hjn, hk2, cw, hlw, hgw2, enW, w2, hxt, huf, hufn, w3, cm, gm0, gm1, hlm, cy, hly', hgy', cz, hlz, hgz, vl_len, hkp, hxb', hun]
                refine s21_42 ?_
                simp -implicitDefEqProofs (disch := constructor; omega) [↓h21_42, tB, hjn, hk2, cw, hlw, hgw2, enW, w2, hxt, huf, hufn, w3, cm, gm0, gm1, hlm, cy, hly', hgy', cz, hlz, hgz, vl_len, hkp, hxb', hun]
                refine hN' j _ (by omega) ?_
                dsimp only [keepOnly_eq]
                refine ⟨by', (by simp -implicitDefEqProofs (disch := constructor; omega) [tB, hjn, hk2, cw, hlw, hgw2, enW, w2, hxt, huf, hufn, w3, cm, gm0, gm1, hlm, cy, hly', hgy', cz, hlz, hgz, vl_len, hkp, hxb', hun]), by omega, hB.skip fun hc => ?_, (by (try dsimp only [keepOnly_eq]); omega), fun v hv => by simp -implicitDefEqProofs (disch := constructor; omega) [tB, hjn, hk2, cw, hlw, hgw2, enW, w2, hxt, huf, hufn, w3, cm, gm0, gm1, hlm, cy, hly', hgy', cz, hlz, hgz, vl_len, hkp, hxb', hun]; exact ho' v hv⟩
                obtain ⟨_, h1, h2, h3, h4⟩ := hc
                rw [← hxe] at h1 h3
                rw [huf] at h3
                rw [hms] at h4
                first | exact hxt h1 | exact hxb h3 | exact h4 hns | (rw [h2] at hkp; cases hkp)
            | false =>
              refine s21_30 ?_
              refine s21_31 ?_
              simp -implicitDefEqProofs (disch := constructor; omega) [↓h21_32, tB, hjn, hk2, cw, hlw, hgw2, enW, w2, hxt, huf, hufn, cz, hlz, hgz, vl_len, hkp, hun]
              refine s21_33 ?_
              simp -implicitDefEqProofs (disch := constructor; omega) [tB, hjn, hk2, cw, hlw, hgw2, enW, w2, hxt, huf, hufn, cz, hlz, hgz, vl_len, hkp, hun]
              refine s21_34 ?_
              refine s21_35 ?_
              refine s21_36 ?_
              simp -implicitDefEqProofs (disch := constructor; omega) [↓h21_37, tB, hjn, hk2, cw, hlw, hgw2, enW, w2, hxt, huf, hufn, cz, hlz, hgz, vl_len, hkp, hun]
              refine s21_38 ?_
              simp -implicitDefEqProofs (disch := constructor; omega) [↓h21_39, ↓w21_39_1, ↓h21_39_1g, ↓h21_39_2, ↓w21_39_3, ↓h21_39_3g, ↓h21_39_4, ↓w21_39_5, ↓h21_39_5g, ↓w21_39_6, ↓h21_39_6g, ↓w21_39_7, ↓h21_39_7g, ↓h21_39_8, tB, hjn, hk2, cw, hlw, hgw2, enW, w2, hxt, huf, hufn, cz, hlz, hgz, vl_len, hkp, hun]
              refine s21_40 ?_
              simp -implicitDefEqProofs (disch := constructor; omega) [tB, hjn, hk2, cw, hlw, hgw2, enW, w2, hxt, huf, hufn, cz, hlz, hgz, vl_len, hkp, hun]
              refine s21_42 ?_
              simp -implicitDefEqProofs (disch := constructor; omega) [↓h21_42, tB, hjn, hk2, cw, hlw, hgw2, enW, w2, hxt, huf, hufn, cz, hlz, hgz, vl_len, hkp, hun]
              refine hN' j _ (by omega) ?_
              dsimp only [keepOnly_eq]
              refine ⟨by', (by simp -implicitDefEqProofs (disch := constructor; omega) [tB, hjn, hk2, cw, hlw, hgw2, enW, w2, hxt, huf, hufn, cz, hlz, hgz, vl_len, hkp, hun]), by omega, hB.skip fun hc => ?_, (by (try dsimp only [keepOnly_eq]); omega), fun v hv => by simp -implicitDefEqProofs (disch := constructor; omega) [tB, hjn, hk2, cw, hlw, hgw2, enW, w2, hxt, huf, hufn, cz, hlz, hgz, vl_len, hkp, hun]; exact ho' v hv⟩
              obtain ⟨_, h1, h2, h3, h4⟩ := hc
              rw [← hxe] at h1 h3
              rw [huf] at h3
              rw [hms] at h4
              first | exact hxt h1 | exact hxb h3 | exact h4 hns | (rw [h2] at hkp; cases hkp)
          · have hxt' := eq_false hxt
            refine s21_30 ?_
            refine s21_31 ?_
            simp -implicitDefEqProofs (disch := constructor; omega) [↓h21_32, tB, hjn, hk2, cw, hlw, hgw2, enW, w2, hxt', huf, hufn]
            refine s21_33 ?_
            simp -implicitDefEqProofs (disch := constructor; omega) [tB, hjn, hk2, cw, hlw, hgw2, enW, w2, hxt', huf, hufn]
            refine s21_34 ?_
            refine s21_35 ?_
            refine s21_36 ?_
            simp -implicitDefEqProofs (disch := constructor; omega) [↓h21_37, tB, hjn, hk2, cw, hlw, hgw2, enW, w2, hxt', huf, hufn]
            refine s21_38 ?_
            simp -implicitDefEqProofs (disch := constructor; omega) [↓h21_39, ↓w21_39_1, ↓h21_39_1g, ↓h21_39_2, ↓w21_39_3, ↓h21_39_3g, ↓h21_39_4, ↓w21_39_5, ↓h21_39_5g, ↓w21_39_6, ↓h21_39_6g, ↓w21_39_7, ↓h21_39_7g, ↓h21_39_8, tB, hjn, hk2, cw, hlw, hgw2, enW, w2, hxt', huf, hufn]
            refine s21_40 ?_
            simp -implicitDefEqProofs (disch := constructor; omega) [tB, hjn, hk2, cw, hlw, hgw2, enW, w2, hxt', huf, hufn]
            refine s21_42 ?_
            simp -implicitDefEqProofs (disch := constructor; omega) [↓h21_42, tB, hjn, hk2, cw, hlw, hgw2, enW, w2, hxt', huf, hufn]
            refine hN' j _ (by omega) ?_
            dsimp only [keepOnly_eq]
            refine ⟨by', (by simp -implicitDefEqProofs (disch := constructor; omega) [tB, hjn, hk2, cw, hlw, hgw2, enW, w2, hxt', huf, hufn]), by omega, hB.skip fun hc => ?_, (by (try dsimp only [keepOnly_eq]); omega), fun v hv => by simp -implicitDefEqProofs (disch := constructor; omega) [tB, hjn, hk2, cw, hlw, hgw2, enW, w2, hxt', huf, hufn]; exact ho' v hv⟩
            obtain ⟨_, h1, h2, h3, h4⟩ := hc
            rw [← hxe] at h1 h3
            rw [huf] at h3
            rw [hms] at h4
            first | exact hxt h1 | exact hxb h3 | exact h4 hns | (rw [h2] at hkp; cases hkp)
end Go.Proofs.Ythoicdnlcnppgaa.Fn
