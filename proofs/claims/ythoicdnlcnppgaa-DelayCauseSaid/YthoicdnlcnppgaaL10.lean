/- Contract: the law DelayCause. Conditions: none. -/
import Derived.Test.YthoicdnlcnppgaaD18
import Derived.Test.YthoicdnlcnppgaaFl10
set_option linter.unusedVariables false
set_option linter.unusedSimpArgs false
namespace Go.Proofs.Ythoicdnlcnppgaa.Fn
open Go Go.Am
set_option maxRecDepth 100000
set_option maxHeartbeats 1000000
theorem k10 (x : Cell) (l : List Int) (at' : Int) (h : AH) (v : View h.o h.nx x enI l) (hlen : l.length < 9223372036854775807) :
    wF fl10 out 10 [.v (.one x), .v (.one (.int .i64 at'))] h fun r h' => r = .v (.one (.bool true)) := by
  refine wF_fn fs10 rfl fun Q hQ => ?_
  refine s10_0 ?_
  simp -implicitDefEqProofs (disch := constructor; omega) [↓h10_1]
  refine s10_2 ?_
  simp -implicitDefEqProofs (disch := constructor; omega) [↓h10_3, ↓h10_3_1]
  refine wF_mono (lift10 (k12 x l _ (v.keep (by (try dsimp only [keepOnly_eq]); omega) fun i hi => rfl) hlen)) ?_
  rintro _ h1 ⟨xm, m, fm, xw, w, fw, xp, p, fp, j, rfl, D, M, hmpos, hn1, ho1⟩
  have V := M.valid
  have hml := V.ml
  have hwl := V.wl
  have hpl := V.pl
  have vm := D.m.view
  have vw := D.w.view
  have vp := D.p.view
  clear D hn1 ho1
  have lenm := vm.lenV (fs := fl10) (out := out)
  (try simp -implicitDefEqProofs (disch := constructor; omega) [↓h10_3, ↓h10_3_1, lenm])
  refine s10_4 ?_
  simp -implicitDefEqProofs (disch := constructor; omega) [↓h10_5, ↓h10_5_1, lenm]
  have hi0 := pickN_range at' (show (1 : Int) ≤ m.length by omega)
  refine wF_mono (lift10 (k15 at' m.length (by omega) (by omega) _)) ?_
  rintro _ h2 ⟨rfl, hn2, ho2⟩
  (try dsimp only at hn2 ho2)
  obtain ⟨i0, hie⟩ : ∃ i, i = pickN at' m.length := ⟨_, rfl⟩
  rw [← hie] at hi0 ⊢
  (try simp -implicitDefEqProofs (disch := constructor; omega) [↓h10_5, ↓h10_5_1, lenm])
  refine s10_6 ?_
  simp -implicitDefEqProofs (disch := constructor; omega) [↓h10_7, ↓h10_7_1, lenm]
  refine wF_mono (lift10 (k16 xm xw xp m w p _ (vm.keep (by (try dsimp only [keepOnly_eq]); omega) fun i hi => ho2 i (by omega)) (vw.keep (by (try dsimp only [keepOnly_eq]); omega) fun i hi => ho2 i (by omega)) (vp.keep (by (try dsimp only [keepOnly_eq]); omega) fun i hi => ho2 i (by omega)) (by omega) (by omega) (by omega))) ?_
  rintro _ h3 ⟨⟨hV, _⟩ | ⟨y, z, b, a, kp, _, P, rfl, vy, vz⟩, hn3, ho3⟩
  · exact absurd V hV
  (try dsimp only at hn3 ho3)
  have g3 : ∀ i, i < h1.nx → h3.o i = h1.o i := fun i hi => (ho3 i (by omega)).trans (ho2 i (by omega))
  (try simp -implicitDefEqProofs (disch := constructor; omega) [↓h10_7, ↓h10_7_1, lenm])
  refine s10_8 ?_
  simp -implicitDefEqProofs (disch := constructor; omega) [↓h10_9, ↓h10_9_1, lenm]
  refine wF_mono (lift10 (k20 xm xw xp m w p i0 _ (vm.keep (by (try dsimp only [keepOnly_eq]); omega) g3) (vw.keep (by (try dsimp only [keepOnly_eq]); omega) g3) (vp.keep (by (try dsimp only [keepOnly_eq]); omega) g3) (by omega) (by omega) (by omega))) ?_
  rintro _ h4 ⟨⟨hV, _⟩ | ⟨_, hI, _⟩ | ⟨y4, cs, b2, a2, kp2, _, _, rfl, v4, P2, C⟩, hn4, ho4⟩
  · exact absurd V hV
  · exact absurd hi0 hI
  (try dsimp only at hn4 ho4)
  have C1 : Ch m w b a kp i0 cs := by
    obtain ⟨e1, e2⟩ := P2.uniq P V
    exact C.congr (fun x hx => (V.ww x hx).1) e1 e2 hi0.1 hi0.2
  have hcl := C1.lt V hi0.1 hi0.2
  have g4 : ∀ i, i < h1.nx → h4.o i = h1.o i := fun i hi => (ho4 i (by omega)).trans (g3 i hi)
  have vm4 := vm.keep (n' := h4.nx) (by omega) g4
  have vw4 := vw.keep (n' := h4.nx) (by omega) g4
  have vp4 := vp.keep (n' := h4.nx) (by omega) g4
  have vy4 := vy.keep (n' := h4.nx) (o' := h4.o) (by omega) fun i hi => ho4 i (by omega)
  have vz4 := vz.keep (n' := h4.nx) (o' := h4.o) (by omega) fun i hi => ho4 i (by omega)
  clear vm vw vp vy vz g3 g4 hn2 ho2 hn3 ho3 ho4 hn4 lenm C P2
  have lenm := vm4.lenV (fs := fl10) (out := out)
  have lenw := vw4.lenV (fs := fl10) (out := out)
  have lenc := v4.lenV (fs := fl10) (out := out)
  have hcl' := eq_false (show ¬ (m.length : Int) ≤ cs.length by omega)
  (try simp -implicitDefEqProofs (disch := constructor; omega) [↓h10_9, ↓h10_9_1, lenm, lenw, lenc, hcl'])
  refine s10_10 ?_
  refine s10_11 ?_
  simp -implicitDefEqProofs (disch := constructor; omega) [↓h10_12, ↓w10_12_1, ↓h10_12_1g, ↓h10_12_2, lenm, lenw, lenc, hcl']
  refine s10_13 ?_
  simp -implicitDefEqProofs (disch := constructor; omega) [lenm, lenw, lenc, hcl']
  refine s10_16 ?_
  refine s10_17 ?_
  simp -implicitDefEqProofs (disch := constructor; omega) [↓h10_18, lenm, lenw, lenc, hcl']
  refine s10_19 ?_
  refine s10_20 (fun k s => ∃ (j : Nat) (i : Int), j + k = cs.length ∧ (s.t 5 = .v (.one (xm)) ∧ s.t 6 = .v (.one (xw)) ∧ s.t 7 = .v (.one (xp)) ∧ s.t 8 = .v (.one (.int .i64 (i))) ∧ s.t 9 = .v (.one (y)) ∧ s.t 10 = .v (.one (z)) ∧ s.t 55 = .v (.one (y4)) ∧ s.t 56 = .v (.one (.int .i64 (cs.length))) ∧ s.t 57 = .v (.one (.int .i64 (j)))) ∧ 0 ≤ i ∧ i < m.length ∧ Ch m w b a kp i (cs.drop j) ∧ h4.le s.h) cs.length ?_ ?_
  · exact ⟨0, i0, by omega, (by simp -implicitDefEqProofs (disch := constructor; omega) [lenm, lenw, lenc, hcl']), hi0.1, hi0.2, C1, (by (try dsimp only [keepOnly_eq]); omega), fun v hv => rfl⟩
  · clear C1 hcl'
    rintro k s Q2 ⟨j, i, hk, tA, hi1, hi2, C, hn, ho⟩ hN hE hR
    refine s10_21 ?_
    simp -implicitDefEqProofs (disch := constructor; omega) [↓h10_22, lenm, lenw, tA]
    refine s10_23 ?_
    simp -implicitDefEqProofs (disch := constructor; omega) [lenm, lenw, tA]
    split
    · rename_i hj
      have hd : cs.drop j = cs[j] :: cs.drop (j + 1) := List.drop_eq_getElem_cons hj
      rw [hd] at C
      obtain ⟨kk, hkk⟩ : ∃ c, c = cs[j] := ⟨_, rfl⟩
      obtain ⟨jc, fc, roc, ec, wc, csc, rfl, hjc, hcc, hlc, hgc⟩ := v4.get1 (g := (Cell.int .i64 ·)) (fun _ => rfl) (i := j) hj
      rw [← hkk] at C hgc
      cases C with
      | @cons _ kn _ hkw hok _ C =>
      obtain ⟨_, c1, c2, c3, _⟩ := hok
      obtain ⟨u, rfl⟩ : ∃ u : Nat, i = u := ⟨i.toNat, by omega⟩
      have hun : u < m.length := by omega
      obtain ⟨jw, fw, row, ew, ww, csw, rfl, hjw, hcw, hlw, hgw1, hgw2, hgw3⟩ := vw4.get enW_len hkw
      obtain ⟨x, hxe⟩ : ∃ x, x = w[kn] := ⟨_, rfl⟩
      rw [← hxe] at hgw1 hgw2 hgw3 c1 c3 C
      have hmem : x ∈ w := by rw [hxe]; exact List.getElem_mem hkw
      obtain ⟨⟨xf0, xfn, xt0, xtn⟩, xft, xmn, xms⟩ := V.ww x hmem
      have xmn' := within_iff.1 xmn
      obtain ⟨uf, huf⟩ : ∃ n : Nat, x.f = n := ⟨x.f.toNat, by omega⟩
      have hufn : uf < m.length := by omega
      rw [huf] at c3 C
      have gw0 : csw[kn * 4]? = some (.int .i64 uf) := (hgw3 0 (by omega)).trans (by rw [← huf]; rfl)
      have gw1 : csw[kn * 4 + 1]? = some (.int .i64 u) := (hgw3 1 (by omega)).trans (by rw [← c1]; rfl)
      have gw2 : csw[kn * 4 + 2]? = some (.int .i64 x.mn) := hgw3 2 (by omega)
      obtain ⟨jy, fy, roy, ey, wy, csy, rfl, hjy, hcy, hly, hgy⟩ := vy4.get1 (g := (Cell.int .i64 ·)) (fun _ => rfl) (i := uf) (by rw [vl_len]; exact hufn)
      obtain ⟨jy', fy', roy', ey', wy', csy', hjeq, hjy', hcy', hly', hgy'⟩ := vy4.get1 (g := (Cell.int .i64 ·)) (fun _ => rfl) (i := u) (by rw [vl_len]; exact hun)
      cases hjeq
      cases hcy.symm.trans hcy'
      rw [vl_get] at hgy hgy'
      obtain ⟨jz, fz, roz, ez, wz, csz, rfl, hjz, hcz, hlz, hgz⟩ := vz4.get1 (g := (Cell.bool ·)) (fun _ => rfl) (i := kn) (by rw [vl_len]; exact hkw)
      rw [vl_get, c2] at hgz
      have cc := (ho jc hjc).trans hcc
      have cw := (ho jw hjw).trans hcw
      have cy := (ho jy hjy).trans hcy
      have cz := (ho jz hjz).trans hcz
      have bdf := P.bd uf
      have bdu := P.bd u
      have hea := P.ea u (by omega) (by omega)
      have pri := (priS_ok V.pp V.pd u).1
      have w1 := wrap64 (show -9223372036854775808 ≤ (j : Int) + 1 by omega) (by omega)
      have w3 := wrap64 (show -9223372036854775808 ≤ a uf + x.mn by omega) (by omega)
      have hgt : ¬ a u < a uf + x.mn := by omega
      have hk0 : ¬ (kn : Int) < 0 := by omega
      have hk1 : ¬ (w.length : Int) ≤ kn := by omega
      have hkn : kn < w.length := hkw
      refine s10_25 ?_
      refine s10_26 ?_
      refine s10_27 ?_
      simp -implicitDefEqProofs (disch := constructor; omega) [↓h10_28, lenm, lenw, tA, hj, cc, hlc, hgc]
      refine s10_29 ?_
      refine s10_30 ?_
      simp -implicitDefEqProofs (disch := constructor; omega) [↓h10_31, ↓w10_31_1, ↓h10_31_1g, ↓h10_31_2, ↓w10_31_3, ↓h10_31_3g, ↓h10_31_4, ↓w10_31_5, ↓h10_31_5g, ↓h10_31_6, ↓w10_31_7, ↓h10_31_7g, ↓h10_31_7g_1, ↓h10_31_8, lenm, lenw, tA, hj, hk0, hk1, hkn, cw, hlw, gw0, gw1, gw2, cy, hly, hgy, hly', hgy', cz, hlz, hgz, w1, w3, hgt, vl_len, hufn, hun]
      refine s10_32 ?_
      simp -implicitDefEqProofs (disch := constructor; omega) [lenm, lenw, tA, hj, hk0, hk1, hkn, cw, hlw, gw0, gw1, gw2, cy, hly, hgy, hly', hgy', cz, hlz, hgz, w1, w3, hgt, vl_len, hufn, hun]
      refine s10_35 ?_
      simp -implicitDefEqProofs (disch := constructor; omega) [↓h10_35, lenm, lenw, tA, hj, hk0, hk1, hkn, cw, hlw, gw0, gw1, gw2, cy, hly, hgy, hly', hgy', cz, hlz, hgz, w1, w3, hgt, vl_len, hufn, hun]
      refine s10_36 ?_
      simp -implicitDefEqProofs (disch := constructor; omega) [↓h10_36, lenm, lenw, tA, hj, hk0, hk1, hkn, cw, hlw, gw0, gw1, gw2, cy, hly, hgy, hly', hgy', cz, hlz, hgz, w1, w3, hgt, vl_len, hufn, hun]
      refine hN (k - 1) _ (by omega) ?_
      dsimp only [keepOnly_eq]
      exact ⟨j + 1, uf, by omega, (by simp -implicitDefEqProofs (disch := constructor; omega) [lenm, lenw, tA, hj, hk0, hk1, hkn, cw, hlw, gw0, gw1, gw2, cy, hly, hgy, hly', hgy', cz, hlz, hgz, w1, w3, hgt, vl_len, hufn, hun]), by omega, by omega, C, (by (try dsimp only [keepOnly_eq]); omega), ho⟩
    · rename_i hj
      refine hE 0 _ ?_
      (try simp -implicitDefEqProofs (disch := constructor; omega) [lenm, lenw, tA])
      refine s10_37 ?_
      simp -implicitDefEqProofs (disch := constructor; omega) [↓h10_38, ↓h10_38_1, lenm, lenw, tA]
      refine wF_mono (lift10 (k20 xm xw xp m w p m.length _ (vm4.keep (by (try dsimp only [keepOnly_eq]); omega) fun v hv => ho v hv) (vw4.keep (by (try dsimp only [keepOnly_eq]); omega) fun v hv => ho v hv) (vp4.keep (by (try dsimp only [keepOnly_eq]); omega) fun v hv => ho v hv) (by omega) (by omega) (by omega))) ?_
      rintro _ h5 ⟨⟨hV, _⟩ | ⟨_, _, rfl⟩ | ⟨_, _, _, _, _, _, hI, _⟩, hn5, ho5⟩
      · exact absurd V hV
      · (try dsimp only at hn5 ho5)
        have g5 : ∀ v, v < h4.nx → h5.o v = h4.o v := fun v hv => (ho5 v (by omega)).trans (ho v hv)
        (try simp -implicitDefEqProofs (disch := constructor; omega) [↓h10_38, ↓h10_38_1, lenm, lenw, tA])
        refine s10_39 ?_
        simp -implicitDefEqProofs (disch := constructor; omega) [↓h10_40, ↓h10_40_1, lenm, lenw, tA]
        refine wF_mono (lift10 (k20 xm xw xp m w p (-1) _ (vm4.keep (by (try dsimp only [keepOnly_eq]); omega) g5) (vw4.keep (by (try dsimp only [keepOnly_eq]); omega) g5) (vp4.keep (by (try dsimp only [keepOnly_eq]); omega) g5) (by omega) (by omega) (by omega))) ?_
        rintro _ h6 ⟨⟨hV, _⟩ | ⟨_, _, rfl⟩ | ⟨_, _, _, _, _, _, hI, _⟩, hn6, ho6⟩
        · exact absurd V hV
        · (try simp -implicitDefEqProofs (disch := constructor; omega) [↓h10_40, ↓h10_40_1, lenm, lenw, tA])
          refine s10_41 ?_
          simp -implicitDefEqProofs (disch := constructor; omega) [↓h10_42, ↓h10_42_1, ↓w10_42_2, ↓h10_42_2g, ↓h10_42_3, ↓w10_42_4, ↓h10_42_4g, ↓h10_42_5, lenm, lenw, tA]
          refine wF_mono (wF_out rfl (out14 _)) ?_
          rintro _ _ ⟨rfl, rfl⟩
          (try simp -implicitDefEqProofs (disch := constructor; omega) [↓h10_42, ↓h10_42_1, ↓w10_42_2, ↓h10_42_2g, ↓h10_42_3, ↓w10_42_4, ↓h10_42_4g, ↓h10_42_5, lenm, lenw, tA])
          exact hQ _ _ _ (.inr rfl) rfl (by simp -implicitDefEqProofs (disch := constructor; omega) [lenm, lenw, tA])
        · omega
      · omega
end Go.Proofs.Ythoicdnlcnppgaa.Fn
