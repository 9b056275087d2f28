/- Contract: the law DelayRaw. Conditions: none. -/
import Derived.Test.YthoicdnlcnppgaaD18
import Derived.Test.YthoicdnlcnppgaaFl8
set_option linter.unusedVariables false
set_option linter.unusedSimpArgs false
namespace Go.Proofs.Ythoicdnlcnppgaa.Fn
open Go Go.Am
set_option maxRecDepth 100000
set_option maxHeartbeats 1000000
theorem k8 (xm xw xp : Cell) (m : List Mom) (w : List Wt) (p : List Pr) (i : Int) (h : AH) (vm : View h.o h.nx xm enM m) (vw : View h.o h.nx xw enW w) (vp : View h.o h.nx xp enPr p)
    (hm : m.length < 9223372036854775807) (hw : w.length < 9223372036854775807) (hp : p.length < 9223372036854775807) :
    wF fl8 out 8 [.v (.one xm), .v (.one xw), .v (.one xp), .v (.one (.int .i64 i))] h fun r h' => r = .v (.one (.bool true)) := by
  refine wF_fn fs8 rfl fun Q hQ => ?_
  refine s8_0 ?_
  simp -implicitDefEqProofs (disch := constructor; omega) [↓h8_1]
  refine s8_2 ?_
  simp -implicitDefEqProofs (disch := constructor; omega) [↓h8_3, ↓h8_3_1]
  refine wF_mono (lift8 (k13 xm xw xp m w p _ (vm.keep (by (try dsimp only [keepOnly_eq]); omega) fun _ _ => rfl) (vw.keep (by (try dsimp only [keepOnly_eq]); omega) fun _ _ => rfl) (vp.keep (by (try dsimp only [keepOnly_eq]); omega) fun _ _ => rfl) hm hw hp)) ?_
  rintro r1 h1 ⟨R1, hn1, ho1⟩
  (try dsimp only at hn1 ho1)
  have g1 : ∀ i, i < h.nx → h1.o i = h.o i := fun i hi => ho1 i (by omega)
  obtain ⟨y1, z1, e1, rfl⟩ := R1.shape
  (try simp -implicitDefEqProofs (disch := constructor; omega) [↓h8_3, ↓h8_3_1])
  refine s8_4 ?_
  simp -implicitDefEqProofs (disch := constructor; omega) [↓h8_5, ↓h8_5_1]
  refine wF_mono (lift8 (k16 xm xw xp m w p _ (vm.keep (by (try dsimp only [keepOnly_eq]); omega) g1) (vw.keep (by (try dsimp only [keepOnly_eq]); omega) g1) (vp.keep (by (try dsimp only [keepOnly_eq]); omega) g1) hm hw hp)) ?_
  rintro r2 h2 ⟨R2, hn2, ho2⟩
  (try dsimp only at hn2 ho2)
  have g2 : ∀ i, i < h.nx → h2.o i = h.o i := fun i hi => (ho2 i (by omega)).trans (g1 i hi)
  obtain ⟨y2, z2, e2, rfl⟩ := R2.shape
  obtain ⟨_, _, _, _, e, ls, ks, q1, q2, vy1, vz1, vy2, vz2, hls, hks⟩ := R1.pair R2
  cases q1
  cases q2
  clear R1 R2
  (try simp -implicitDefEqProofs (disch := constructor; omega) [↓h8_5, ↓h8_5_1])
  refine s8_6 ?_
  simp -implicitDefEqProofs (disch := constructor; omega) [↓h8_7, ↓h8_7_1]
  refine wF_mono (lift8 (k20 xm xw xp m w p i _ (vm.keep (by (try dsimp only [keepOnly_eq]); omega) g2) (vw.keep (by (try dsimp only [keepOnly_eq]); omega) g2) (vp.keep (by (try dsimp only [keepOnly_eq]); omega) g2) hm hw hp)) ?_
  rintro r3 h3 ⟨R3, hn3, ho3⟩
  (try dsimp only at hn3 ho3)
  have g3 : ∀ i, i < h.nx → h3.o i = h.o i := fun i hi => (ho3 i (by omega)).trans (g2 i hi)
  obtain ⟨y3, e3, rfl⟩ := R3.shape
  (try simp -implicitDefEqProofs (disch := constructor; omega) [↓h8_7, ↓h8_7_1])
  refine s8_8 ?_
  simp -implicitDefEqProofs (disch := constructor; omega) [↓h8_9, ↓h8_9_1]
  refine wF_mono (lift8 (k21 xm xw xp m w p i _ (vm.keep (by (try dsimp only [keepOnly_eq]); omega) g3) (vw.keep (by (try dsimp only [keepOnly_eq]); omega) g3) (vp.keep (by (try dsimp only [keepOnly_eq]); omega) g3) hm hw hp)) ?_
  rintro r4 h4 ⟨R4, hn4, ho4⟩
  (try dsimp only at hn4 ho4)
  have g4 : ∀ i, i < h.nx → h4.o i = h.o i := fun i hi => (ho4 i (by omega)).trans (g3 i hi)
  obtain ⟨y4, e4, rfl⟩ := R4.shape
  obtain ⟨_, _, f, cs, q1, q2, vy3, vy4, hcs⟩ := R3.pair R4
  cases q1
  cases q2
  clear R3 R4
  (try simp -implicitDefEqProofs (disch := constructor; omega) [↓h8_9, ↓h8_9_1])
  refine s8_10 ?_
  simp -implicitDefEqProofs (disch := constructor; omega) [↓h8_11, ↓h8_11_1, ↓w8_11_2, ↓h8_11_2g, ↓h8_11_2g_1, ↓h8_11_2g_2, ↓h8_11_3, ↓w8_11_4, ↓h8_11_4g, ↓h8_11_5, ↓w8_11_6, ↓h8_11_6g, ↓h8_11_7, ↓w8_11_8, ↓h8_11_8g, ↓h8_11_9, ↓w8_11_10, ↓h8_11_10g, ↓h8_11_11, ↓w8_11_12, ↓h8_11_12g, ↓h8_11_13]
  refine wF_mono (wF_out rfl (out14 _)) ?_
  rintro _ _ ⟨rfl, rfl⟩
  (try simp -implicitDefEqProofs (disch := constructor; omega) [↓h8_11, ↓h8_11_1, ↓w8_11_2, ↓h8_11_2g, ↓h8_11_2g_1, ↓h8_11_2g_2, ↓h8_11_3, ↓w8_11_4, ↓h8_11_4g, ↓h8_11_5, ↓w8_11_6, ↓h8_11_6g, ↓h8_11_7, ↓w8_11_8, ↓h8_11_8g, ↓h8_11_9, ↓w8_11_10, ↓h8_11_10g, ↓h8_11_11, ↓w8_11_12, ↓h8_11_12g, ↓h8_11_13])
  refine wF_mono (lift8 (k22 xm xw xp m w p _ (vm.keep (by (try dsimp only [keepOnly_eq]); omega) g4) (vw.keep (by (try dsimp only [keepOnly_eq]); omega) g4) (vp.keep (by (try dsimp only [keepOnly_eq]); omega) g4) hm hw hp)) ?_
  rintro _ h5 ⟨b5, rfl, hb5, hn5, ho5⟩
  (try dsimp only at hn5 ho5)
  have g5 : ∀ i, i < h.nx → h5.o i = h.o i := fun i hi => (ho5 i (by omega)).trans (g4 i hi)
  (try simp -implicitDefEqProofs (disch := constructor; omega) [↓h8_11, ↓h8_11_1, ↓w8_11_2, ↓h8_11_2g, ↓h8_11_2g_1, ↓h8_11_2g_2, ↓h8_11_3, ↓w8_11_4, ↓h8_11_4g, ↓h8_11_5, ↓w8_11_6, ↓h8_11_6g, ↓h8_11_7, ↓w8_11_8, ↓h8_11_8g, ↓h8_11_9, ↓w8_11_10, ↓h8_11_10g, ↓h8_11_11, ↓w8_11_12, ↓h8_11_12g, ↓h8_11_13])
  refine wF_mono (lift8 (k23 xm xw xp m w p _ (vm.keep (by (try dsimp only [keepOnly_eq]); omega) g5) (vw.keep (by (try dsimp only [keepOnly_eq]); omega) g5) (vp.keep (by (try dsimp only [keepOnly_eq]); omega) g5) hm hw hp)) ?_
  rintro _ h6 ⟨b6, rfl, hb6, hn6, ho6⟩
  (try dsimp only at hn6 ho6)
  have hbb : b5 = b6 := by
    have := hb5.trans hb6.symm
    cases b5 <;> cases b6 <;> simp_all
  subst hbb
  (try simp -implicitDefEqProofs (disch := constructor; omega) [↓h8_11, ↓h8_11_1, ↓w8_11_2, ↓h8_11_2g, ↓h8_11_2g_1, ↓h8_11_2g_2, ↓h8_11_3, ↓w8_11_4, ↓h8_11_4g, ↓h8_11_5, ↓w8_11_6, ↓h8_11_6g, ↓h8_11_7, ↓w8_11_8, ↓h8_11_8g, ↓h8_11_9, ↓w8_11_10, ↓h8_11_10g, ↓h8_11_11, ↓w8_11_12, ↓h8_11_12g, ↓h8_11_13])
  refine wF_mono (lift8 (k19 y1 y2 ls ls _ (vy1.keep (by (try dsimp only [keepOnly_eq]); omega) fun i hi => by (try dsimp only); rw [ho6 i (by omega), ho5 i (by omega), ho4 i (by omega), ho3 i (by omega), ho2 i (by omega)]) (vy2.keep (by (try dsimp only [keepOnly_eq]); omega) fun i hi => by (try dsimp only); rw [ho6 i (by omega), ho5 i (by omega), ho4 i (by omega), ho3 i (by omega)]) (by omega))) ?_
  rintro _ h7 ⟨rfl, hn7, ho7⟩
  rw [decide_eq_true rfl]
  (try dsimp only at hn7 ho7)
  (try simp -implicitDefEqProofs (disch := constructor; omega) [↓h8_11, ↓h8_11_1, ↓w8_11_2, ↓h8_11_2g, ↓h8_11_2g_1, ↓h8_11_2g_2, ↓h8_11_3, ↓w8_11_4, ↓h8_11_4g, ↓h8_11_5, ↓w8_11_6, ↓h8_11_6g, ↓h8_11_7, ↓w8_11_8, ↓h8_11_8g, ↓h8_11_9, ↓w8_11_10, ↓h8_11_10g, ↓h8_11_11, ↓w8_11_12, ↓h8_11_12g, ↓h8_11_13])
  refine wF_mono (lift8 (k24 z1 z2 ks ks _ (vz1.keep (by (try dsimp only [keepOnly_eq]); omega) fun i hi => by (try dsimp only); rw [ho7 i (by omega), ho6 i (by omega), ho5 i (by omega), ho4 i (by omega), ho3 i (by omega), ho2 i (by omega)]) (vz2.keep (by (try dsimp only [keepOnly_eq]); omega) fun i hi => by (try dsimp only); rw [ho7 i (by omega), ho6 i (by omega), ho5 i (by omega), ho4 i (by omega), ho3 i (by omega)]) (by omega))) ?_
  rintro _ h8 ⟨rfl, hn8, ho8⟩
  rw [decide_eq_true rfl]
  (try dsimp only at hn8 ho8)
  (try simp -implicitDefEqProofs (disch := constructor; omega) [↓h8_11, ↓h8_11_1, ↓w8_11_2, ↓h8_11_2g, ↓h8_11_2g_1, ↓h8_11_2g_2, ↓h8_11_3, ↓w8_11_4, ↓h8_11_4g, ↓h8_11_5, ↓w8_11_6, ↓h8_11_6g, ↓h8_11_7, ↓w8_11_8, ↓h8_11_8g, ↓h8_11_9, ↓w8_11_10, ↓h8_11_10g, ↓h8_11_11, ↓w8_11_12, ↓h8_11_12g, ↓h8_11_13])
  refine wF_mono (lift8 (k19 y3 y4 cs cs _ (vy3.keep (by (try dsimp only [keepOnly_eq]); omega) fun i hi => by (try dsimp only); rw [ho8 i (by omega), ho7 i (by omega), ho6 i (by omega), ho5 i (by omega), ho4 i (by omega)]) (vy4.keep (by (try dsimp only [keepOnly_eq]); omega) fun i hi => by (try dsimp only); rw [ho8 i (by omega), ho7 i (by omega), ho6 i (by omega), ho5 i (by omega)]) (by omega))) ?_
  rintro _ h9 ⟨rfl, hn9, ho9⟩
  rw [decide_eq_true rfl]
  (try simp -implicitDefEqProofs (disch := constructor; omega) [↓h8_11, ↓h8_11_1, ↓w8_11_2, ↓h8_11_2g, ↓h8_11_2g_1, ↓h8_11_2g_2, ↓h8_11_3, ↓w8_11_4, ↓h8_11_4g, ↓h8_11_5, ↓w8_11_6, ↓h8_11_6g, ↓h8_11_7, ↓w8_11_8, ↓h8_11_8g, ↓h8_11_9, ↓w8_11_10, ↓h8_11_10g, ↓h8_11_11, ↓w8_11_12, ↓h8_11_12g, ↓h8_11_13])
  exact hQ _ _ _ (.inr rfl) rfl (by simp -implicitDefEqProofs (disch := constructor; omega))
end Go.Proofs.Ythoicdnlcnppgaa.Fn
