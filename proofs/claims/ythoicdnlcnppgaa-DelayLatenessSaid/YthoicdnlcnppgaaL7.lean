/- Contract: the law DelayLateness. Conditions: none. -/
import Derived.Test.YthoicdnlcnppgaaD15
import Derived.Test.YthoicdnlcnppgaaFl7
set_option linter.unusedVariables false
set_option linter.unusedSimpArgs false
namespace Go.Proofs.Ythoicdnlcnppgaa.Fn
open Go Go.Am
set_option maxRecDepth 100000
set_option maxHeartbeats 1000000
theorem k7 (x0 x x2 : Cell) (m0 : List Mom) (l l2 : List Int) (h : AH) (v0 : View h.o h.nx x0 enM m0) (v : View h.o h.nx x enI l) (v2 : View h.o h.nx x2 enI l2) (hm0 : m0.length * 16 ≤ 140737488355328) (hlen : l.length < 9223372036854775807) :
    wF fl7 out 7 [.v (.one x0), .v (.one x), .v (.one x2)] h fun r h' => r = .v (.one (.bool true)) := by
  refine wF_fn fs7 rfl fun Q hQ => ?_
  refine s7_0 ?_
  simp -implicitDefEqProofs (disch := constructor; omega) [↓h7_1]
  refine s7_2 ?_
  simp -implicitDefEqProofs (disch := constructor; omega) [↓h7_3, ↓h7_3_1]
  refine wF_mono (lift7 (k12 x l _ (v.keep (by (try dsimp only [keepOnly_eq]); omega) fun i hi => rfl) hlen)) ?_
  rintro _ h1 ⟨xm, m, fm, xw, w, fw, xp, p, fp, j, rfl, D, M, hmpos, hn1, ho1⟩
  have V := M.valid
  have hml := V.ml
  have hwl := V.wl
  have hpl := V.pl
  (try dsimp only at hn1 ho1)
  (try simp -implicitDefEqProofs (disch := constructor; omega) [↓h7_3, ↓h7_3_1])
  refine s7_4 ?_
  simp -implicitDefEqProofs (disch := constructor; omega) [↓h7_5, ↓h7_5_1]
  refine wF_mono (lift7 (k16 xm xw xp m w p _ (D.m.view.keep (by (try dsimp only [keepOnly_eq]); omega) fun i hi => rfl) (D.w.view.keep (by (try dsimp only [keepOnly_eq]); omega) fun i hi => rfl) (D.p.view.keep (by (try dsimp only [keepOnly_eq]); omega) fun i hi => rfl) (by omega) (by omega) (by omega))) ?_
  rintro _ h2 ⟨⟨hV, _⟩ | ⟨y, z, b, a, kp, _, P, rfl, vy, vz⟩, hn2, ho2⟩
  · exact absurd V hV
  (try dsimp only at hn2 ho2)
  have vm := D.m.view.keep (n' := h2.nx) (o' := h2.o) (by omega) (fun i hi => ho2 i (by omega))
  (try simp -implicitDefEqProofs (disch := constructor; omega) [↓h7_5, ↓h7_5_1])
  refine s7_6 ?_
  simp -implicitDefEqProofs (disch := constructor; omega) [↓h7_7, ↓h7_7_1]
  refine wF_mono (lift7 (k17 xm y m (vl m.length a) _ (vm.keep (by (try dsimp only [keepOnly_eq]); omega) fun i hi => rfl) (vy.keep (by (try dsimp only [keepOnly_eq]); omega) fun i hi => rfl) (by omega))) ?_
  rintro _ h3 ⟨⟨hV, _⟩ | ⟨y3, _, rfl, v3⟩, hn3, ho3⟩
  · exact absurd vl_len hV
  (try dsimp only at hn3 ho3)
  (try simp -implicitDefEqProofs (disch := constructor; omega) [↓h7_7, ↓h7_7_1])
  refine s7_8 ?_
  simp -implicitDefEqProofs (disch := constructor; omega) [↓h7_9, ↓h7_9_1]
  refine wF_mono (lift7 (k18 xm y m (vl m.length a) _ (vm.keep (by (try dsimp only [keepOnly_eq]); omega) fun i hi => ho3 i (by omega)) (vy.keep (by (try dsimp only [keepOnly_eq]); omega) fun i hi => ho3 i (by omega)) (by omega))) ?_
  rintro _ h4 ⟨⟨hV, _⟩ | ⟨y4, _, rfl, v4⟩, hn4, ho4⟩
  · exact absurd vl_len hV
  (try dsimp only at hn4 ho4)
  (try simp -implicitDefEqProofs (disch := constructor; omega) [↓h7_9, ↓h7_9_1])
  refine s7_10 ?_
  simp -implicitDefEqProofs (disch := constructor; omega) [↓h7_11, ↓h7_11_1]
  have g4 : ∀ i, i < h.nx → h4.o i = h.o i := fun i hi => by rw [ho4 i (by omega), ho3 i (by omega), ho2 i (by omega), ho1 i (by omega)]
  refine wF_mono (lift7 (k17 x0 x2 m0 l2 _ (v0.keep (by (try dsimp only [keepOnly_eq]); omega) g4) (v2.keep (by (try dsimp only [keepOnly_eq]); omega) g4) hm0)) ?_
  rintro _ h5 ⟨hL, hn5, ho5⟩
  (try dsimp only at hn5 ho5)
  have g5 : ∀ i, i < h.nx → h5.o i = h.o i := fun i hi => by rw [ho5 i (by omega), g4 i hi]
  have v05 := v0.keep (n' := h5.nx) (o' := h5.o) (by omega) g5
  have v25 := v2.keep (n' := h5.nx) (o' := h5.o) (by omega) g5
  have len0 := v05.lenV (fs := fl7) (out := out)
  have len2 := v25.lenV (fs := fl7) (out := out)
  rcases hL with ⟨hL, rfl⟩ | ⟨y5, hL, rfl, v5⟩
  · have hL' := eq_false (show ¬ (m0.length : Int) = l2.length by omega)
    (try simp -implicitDefEqProofs (disch := constructor; omega) [↓h7_11, ↓h7_11_1, len0, len2, hL'])
    refine s7_12 ?_
    simp -implicitDefEqProofs (disch := constructor; omega) [↓h7_13, ↓h7_13_1, ↓w7_13_2, ↓h7_13_2g, ↓h7_13_3, ↓w7_13_4, ↓h7_13_4g, ↓h7_13_5, ↓w7_13_6, ↓h7_13_6g, ↓h7_13_7, ↓w7_13_8, ↓h7_13_8g, ↓h7_13_9, ↓w7_13_10, ↓h7_13_10g, ↓w7_13_11, ↓h7_13_11g, ↓w7_13_12, ↓h7_13_12g, ↓h7_13_13, len0, len2, hL']
    refine wF_mono (wF_out rfl (out14 _)) ?_
    rintro _ _ ⟨rfl, rfl⟩
    (try simp -implicitDefEqProofs (disch := constructor; omega) [↓h7_13, ↓h7_13_1, ↓w7_13_2, ↓h7_13_2g, ↓h7_13_3, ↓w7_13_4, ↓h7_13_4g, ↓h7_13_5, ↓w7_13_6, ↓h7_13_6g, ↓h7_13_7, ↓w7_13_8, ↓h7_13_8g, ↓h7_13_9, ↓w7_13_10, ↓h7_13_10g, ↓w7_13_11, ↓h7_13_11g, ↓w7_13_12, ↓h7_13_12g, ↓h7_13_13, len0, len2, hL'])
    refine wF_mono (lift7 (k19 y3 y4 _ _ _ (v3.keep (by (try dsimp only [keepOnly_eq]); omega) fun i hi => by (try dsimp only); rw [ho5 i (by omega), ho4 i (by omega)]) (v4.keep (by (try dsimp only [keepOnly_eq]); omega) fun i hi => by (try dsimp only); rw [ho5 i (by omega)]) (by rw [vl_len]; omega))) ?_
    rintro _ h6 ⟨rfl, hn6, ho6⟩
    rw [decide_eq_true rfl]
    (try simp -implicitDefEqProofs (disch := constructor; omega) [↓h7_13, ↓h7_13_1, ↓w7_13_2, ↓h7_13_2g, ↓h7_13_3, ↓w7_13_4, ↓h7_13_4g, ↓h7_13_5, ↓w7_13_6, ↓h7_13_6g, ↓h7_13_7, ↓w7_13_8, ↓h7_13_8g, ↓h7_13_9, ↓w7_13_10, ↓h7_13_10g, ↓w7_13_11, ↓h7_13_11g, ↓w7_13_12, ↓h7_13_12g, ↓h7_13_13, len0, len2, hL'])
    exact hQ _ _ _ (.inr rfl) rfl (by simp -implicitDefEqProofs (disch := constructor; omega) [len0, len2, hL'])
  · have hL' : (m0.length : Int) = l2.length := by omega
    (try simp -implicitDefEqProofs (disch := constructor; omega) [↓h7_11, ↓h7_11_1, len0, len2, hL'])
    refine s7_12 ?_
    simp -implicitDefEqProofs (disch := constructor; omega) [↓h7_13, ↓h7_13_1, ↓w7_13_2, ↓h7_13_2g, ↓h7_13_3, ↓w7_13_4, ↓h7_13_4g, ↓h7_13_5, ↓w7_13_6, ↓h7_13_6g, ↓h7_13_7, ↓w7_13_8, ↓h7_13_8g, ↓h7_13_9, ↓w7_13_10, ↓h7_13_10g, ↓w7_13_11, ↓h7_13_11g, ↓w7_13_12, ↓h7_13_12g, ↓h7_13_13, len0, len2, hL']
    refine wF_mono (wF_out rfl (out14 _)) ?_
    rintro _ _ ⟨rfl, rfl⟩
    (try simp -implicitDefEqProofs (disch := constructor; omega) [↓h7_13, ↓h7_13_1, ↓w7_13_2, ↓h7_13_2g, ↓h7_13_3, ↓w7_13_4, ↓h7_13_4g, ↓h7_13_5, ↓w7_13_6, ↓h7_13_6g, ↓h7_13_7, ↓w7_13_8, ↓h7_13_8g, ↓h7_13_9, ↓w7_13_10, ↓h7_13_10g, ↓w7_13_11, ↓h7_13_11g, ↓w7_13_12, ↓h7_13_12g, ↓h7_13_13, len0, len2, hL'])
    refine wF_mono (lift7 (k19 y3 y4 _ _ _ (v3.keep (by (try dsimp only [keepOnly_eq]); omega) fun i hi => by (try dsimp only); rw [ho5 i (by omega), ho4 i (by omega)]) (v4.keep (by (try dsimp only [keepOnly_eq]); omega) fun i hi => by (try dsimp only); rw [ho5 i (by omega)]) (by rw [vl_len]; omega))) ?_
    rintro _ h6 ⟨rfl, hn6, ho6⟩
    rw [decide_eq_true rfl]
    (try simp -implicitDefEqProofs (disch := constructor; omega) [↓h7_13, ↓h7_13_1, ↓w7_13_2, ↓h7_13_2g, ↓h7_13_3, ↓w7_13_4, ↓h7_13_4g, ↓h7_13_5, ↓w7_13_6, ↓h7_13_6g, ↓h7_13_7, ↓w7_13_8, ↓h7_13_8g, ↓h7_13_9, ↓w7_13_10, ↓h7_13_10g, ↓w7_13_11, ↓h7_13_11g, ↓w7_13_12, ↓h7_13_12g, ↓h7_13_13, len0, len2, hL'])
    exact hQ _ _ _ (.inr rfl) rfl (by simp -implicitDefEqProofs (disch := constructor; omega) [len0, len2, hL'])
end Go.Proofs.Ythoicdnlcnppgaa.Fn
